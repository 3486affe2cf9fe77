import Derived.Test.YtkfblammcilfhaaGreatDoorP7
import Derived.Test.YtkfblammcilfhaaGreatDoorP8
set_option linter.all false
set_option maxRecDepth 100000
set_option maxHeartbeats 100000000
open Go.ChangeShapes Go.WideShapes Go.ChangeAt Go.RowKit Go.Proofs.Tryz
open Go renaming World->aw,Calls->aF,info_parts->cY,wpList_append_own->dM,Ending->rJ,bodyPost_ret->ax,results->aV
open Go.Proofs.Tryz renaming prog->af
open Go.RowKit renaming intOf->bS,Below->iQ
open List renaming getElem?_eq_getElem->ay,drop_eq_getElem_cons->iz,mem_of_getElem?->fb,range->kq
open Go.Instr renaming mapUpdate->eF,index->ec
open Go.RowKit.Below renaming refl->ao
open Nat renaming le_refl->aj,le_trans->aP
open Option renaming getD_some->gS,isSome_some->fQ,getD_none->gy,isSome_none->fy,none->I,some->Z
open Go.Value renaming slice->ae,int->J,bool->ai,pointer->aq,tuple->aB,agg->cg
open Go.IntKind renaming u16->aN,wrap_u16->mX,min->jI,max->jJ,signed->fR,bits->gM,i64->V,u32->ar,u8->bI
open Bool renaming not_true->jV,false_eq_true->cB
open Go.Ending renaming returned->av
namespace Go.Proofs.YtkfblammcilfhaaGreatDoor
def DS(x:List Value):Prop:=∃  (c:Int) (d:Option Addr) (a b:Nat),x=[J V c,ae d a b]
def Jv(g pl cap:Nat)(q:List (List Value))(w:aw)(h:nU w g pl cap q)(s:∀x∈q,DS x) :
  aF af 176 #[aq (Z ⟨g,0,I⟩)] w λe w'=>∃v,e=av v/\w'.ownsRow w.heap.size 80 2 v q.length q.flatten/\nU w' g pl cap []/\cS (jK g pl) w w':=by
 obtain⟨i0,hi,t,y,B⟩:=cY wu;obtain⟨HI,G,H,K⟩:=cA hi t y B;clear hi t y B;obtain⟨first,jt,m4,m5,m6,m7,L,l,r,E,hR⟩:=h.ex;have lB:=l.lt;have lP:=r.lt;have le:=h.le;have aT:=h.aT;have c2:=l.cell 2;simp at c2;obtain⟨M,U⟩:=bu s h;clear L E hR l r s h;have u0:=cS.refl (jK g pl) w;have m:w.ownsRow w.heap.size 80 2 (ae I 0 0) 0 []:=⟨dt,.inl ⟨rfl,rfl⟩⟩;go_enter func176,ntmps176;go_wp2_with fail;clear c2;go_loopw [3,8] (λv i wr=>∃j:Nat,i=J V j/\j<=q.length/\wr.ownsRow w.heap.size 80 2 v j (q.take j).flatten/\nU wr g pl cap (q.drop j)/\cS (jK g pl) w wr) (λv i _=>q.length-(bS i).toNat);case atStart=>exact⟨0,rfl,z,m,U.O,u0⟩
 case round =>
  clear m u0;obtain⟨j,rfl,hj,own,R,u⟩:=hrel;have su:=u.size;by_cases o:j<q.length
  ·obtain⟨x,k⟩:∃x,q[j]? = Z x:=⟨_,ay o⟩;have W:q.drop j=x::q.drop (j+1):=by
    rw[iz o];rw[ay o]at k;simp only[Option.some.injEq]at k;rw[k]
   have ht:(q.take (j+1)).flatten=(q.take j).flatten++x:=by rw[List.take_add_one,k];simp
   obtain⟨d,f,a,b,rfl⟩:=M.O x (fb k);rw[W]at R;obtain⟨A,c,rfl⟩:=bA own;have HT:=au ht;have C:=au own;have N:=au u;have HR:=au R;clear ht W k own u R;have Tf:((j:Int)<(q.length:Int)):=z;go_wp2_with (first
    |(refine(zv g pl cap d f a b (q.drop (j+1)) wr HR.O).mono ?_;rintro e w3 ⟨rfl,X,u3⟩;have D:=du C.O u3 (λi hi q=>by have:=(C.O.lt i hi).1;rcases q with q|q<;>omega))
    |(at_builtin;go_loud (refine dM _ rfl _ _ 63 rfl w.heap.size 80 i0 vh 2 32 underlying63 HI.O G.O H.O K.O rfl aR _ _ _ rfl (D.alloc _) ⟨w3.heap.size,0,I⟩ 1 1 [J V d,ae f a b] rfl rfl ?c1 ?c2 ?c3 ?c4 ?c5 ?_)))
   case c1=>exact fB w3 80 #[J V d,ae f a b]
   case c2=>exact by intro u hu;simp at hu;repeat (first|(subst hu;rfl)|(rcases hu with rfl|hu;rfl))
   case c3=>unfold maxLen;omega
   case c4=>omega
   case c5=>have:=u3.size;simp;omega
   intro v5 w5 n g5 _;have u5:=eT g5;have Y:=(X.alloc (.cells #[J V d,ae f a b] 80)).dW u5 (λq=>by have:=((D.alloc (.cells #[J V d,ae f a b] 80)).lt g q).1;omega) (λq=>by have:=((D.alloc (.cells #[J V d,ae f a b] 80)).lt pl q).1;omega);have uu:=((N.O.trans u3).alloc (.cells #[J V d,ae f a b] 80)).step u5 (λi q=>.inr ((D.alloc (.cells #[J V d,ae f a b] 80)).lt i q).1);obtain⟨P,Q,S⟩:=bU Y uu n;clear Y uu n g5 u5 X u3 D;go_wp2_with fail;go_roundw;case rel=>exact⟨j+1,by go_num,z,by rw[HT.O];exact S.O,P.O,Q.O⟩
   case measure=>simp[bS];omega
  ·have T:j=q.length:=z;subst T;rw[List.drop_length]at R;rw[List.take_length]at own;obtain⟨A,c,rfl⟩:=bA own;obtain⟨first,jt,n4,n5,n6,n7,L,l,r,E,hR⟩:=R.ex;have d2:g≠pl:=aK.jf l r aR;have c7:=l.cell 7;have f7:=l.frozen 7;simp at c7;obtain⟨C,N,HB,HP,HS⟩:=gY own u l r E;clear own u l r E hR R;go_wp2_with fail;go_ret;have BB:=HB.O.bC 7 (J V (wrap64 (n7+q.length)));refine⟨_,rfl,du C.O (cS.setCell (F:=One g) (p:=⟨g,7,I⟩) (cS.refl _ _) (.inl rfl) _) (λi hi e=>by have:=(C.O.lt i hi).1;rw[show i=g from e]at this;omega),⟨⟨first,jt,n4,n5,n6,wrap64 (n7+q.length),L,by simpa using BB,HP.O.dS (p:=⟨g,7,I⟩) (λe=>d2 e.symm) _,HS.O,λi x k=>by simp at k⟩,dt,U.O.one,aT,λx k=>by simp at k⟩,N.O.setCell (p:=⟨g,7,I⟩) (.inl (.inl rfl)) _⟩
section
theorem GB(b c:Nat)(xs:List Int)(x:Int)(w:aw)(p:∀(j:Nat) y,xs[j]? = Z y->w.cell? ⟨b,j,I⟩=Z (J ar y))(B:xs.length<=1000) :
  aF af 210 #[ae (Z ⟨b,0,I⟩) xs.length c,J ar x] w λe w'=>∃r:Int,e=av (J V r)/\(0<=r↔x∈xs)/\w'=w:=by
 have s:=au p;clear p;go_enter func210,ntmps210;go_wp2_with fail;go_loopw [5,8] (λa i wr=>∃k:Nat,i=J V k/\k<=xs.length/\(∀(j:Nat) (y:Int),j<k->xs[j]? = Z y->y≠x)/\wr=w) (λa i _=>xs.length-(bS i).toNat);case atStart=>exact⟨0,rfl,z,λj y d=>absurd d z,rfl⟩
 case round =>
  obtain⟨k,rfl,C,f,rfl⟩:=hrel;by_cases g:k<xs.length
  ·have h:xs[k]? = Z xs[k]:=ay g;have t:=s.O k _ h;obtain⟨l,u⟩:=bu h f;generalize hy:xs[k]=y at t l;clear h f;by_cases he:y=x
   ·subst he;clear hy;have hm:y∈xs:=fb l.O;go_wp2_with fail;go_ret;exact⟨k,rfl,by simp[hm],rfl⟩
   ·have v:(x==y)=false:=by simpa usingλq=>he q.symm
    clear hy;go_wp2_with fail;go_roundw;case rel =>
     refine⟨k+1,dt,z,λj A d m=>?_,?_⟩
     ·by_cases e:j=k
      ·subst e;rw[l.O]at m;cases m;exact he
      ·exact u.O j A z m
     ·first|rfl|trivial
    case measure=>simp[bS];omega
  ·have n:k=xs.length:=z;subst n;have hm:x∉xs:=λq=>by
    obtain⟨j,d,o⟩:=List.getElem_of_mem q;exact f j x d (by rw[ay d,o]) rfl
   clear f;go_wp2_with fail;go_ret;exact⟨-1,rfl,by simp[hm],rfl⟩
theorem sK(b c:Nat)(xs:List Int)(x:Int)(w:aw)(f:∀(j:Nat) y,xs[j]? = Z y->w.cell? ⟨b,j,I⟩=Z (J ar y))(g:xs.length<=1000) :
  aF af 145 #[ae (Z ⟨b,0,I⟩) xs.length c,J ar x] w λe w'=>e=av (ai (decide (x∈xs)))/\w'=w:=by
 have h:=au (GB b c xs x w f g);clear f;go_enter func145,ntmps145;go_wp2_with (refine h.O.mono ?_;rintro e w2 ⟨r,rfl,hr,d⟩;have a:=d.symm;subst a);go_ret;refine⟨?_,rfl⟩;by_cases hm:x∈xs
 ·have:=hr.2 hm;simp[hm,this]
 ·have:¬0<=r:=λq=>hm (hr.1 q);simp[hm];try omega
def xm(or:Int->Option M.bN)(so:M.bN->Option Int)(p s0 s1 s2:Int):Int:=
 if M.mB p=false then 1 else if s1=s0\/s2=s0\/s2=s1 then 1 else if(so (p,0)).isSome=true then 6
 else if(or s0).isSome=true\/(or s1).isSome=true\/(or s2).isSome=true then 6 else 0
def uz(or:Int->Option M.bN)(p s0 s1 s2:Int):Nat->Int->Option M.bN
 |0=>or
 |1=>M.set or s0 (Z (p,0))
 |2=>M.set (M.set or s0 (Z (p,0))) s1 (Z (p,1))
 |_=>M.set (M.set (M.set or s0 (Z (p,0))) s1 (Z (p,1))) s2 (Z (p,2))
def uy(so:M.bN->Option Int)(p s0 s1 s2:Int):Nat->M.bN->Option Int
 |0=>so
 |1=>M.set so (p,0) (Z s0)
 |2=>M.set (M.set so (p,0) (Z s0)) (p,1) (Z s1)
 |_=>M.set (M.set (M.set so (p,0) (Z s0)) (p,1) (Z s1)) (p,2) (Z s2)
abbrev Ng(x:Int):Prop:=(Lit.int ar x).wf=true
section
variable {T:sL} {or:Int->Option M.bN} {so:M.bN->Option Int} {su:Int->Option M.Sub} {N:Nat} {w:aw} (h:fA w T or so su N)
include h
theorem fA.Po(c:N<1000000)(x:Int)(d:Ng x)(y:M.bN) :
  ∃a,(eF 205 (.map (Z T.mo)) (J ar x) (pv y)).run af w=.ok () a/\fA a T (M.set or x (Z y)) so su (N+1)/\cS (One T.mo) w a:=by
 obtain⟨a,f,g,b⟩:=h.o.nX Hz yY c x (pv y) d;refine⟨a,f,⟨h.cw.dW b (λq=>h.o.ki h.cw q.symm),g.congr λi=>?_,(h.s.dW b (λq=>h.ne.1 q.symm)).mono z,(h.u.dW b (λq=>h.ne.2.1 q.symm)).mono z,h.ne⟩,b⟩;unfold M.set;by_cases e:i=x<;>simp[e]
theorem fA.Pn(c:N<1000000)(x:M.bN)(d:Gi x)(y:Int) :
  ∃a,(eF 82 (.map (Z T.ms)) (pv x) (J ar y)).run af w=.ok () a/\fA a T or (M.set so x (Z y)) su (N+1)/\cS (One T.ms) w a:=by
 obtain⟨a,f,g,b⟩:=h.s.nX xM BX c x (J ar y) d;refine⟨a,f,⟨h.cw.dW b (λq=>h.s.ki h.cw q.symm),(h.o.dW b (λq=>h.ne.1 q)).mono z,g.congr λi=>?_,(h.u.dW b (λq=>h.ne.2.2 q.symm)).mono z,h.ne⟩,b⟩;unfold M.set;by_cases e:i=x<;>simp[e]
theorem fA.LS(x:Int)(a:Ng x):(Instr.lookup 205 (.map (Z T.mo)) (J ar x) true).run af w=.ok (aB #[pv ((or x).getD (0,0)),ai (or x).isSome]) w:=by
 refine(h.o.my Hz yY x a (KK w)).trans ?_;cases or x<;>rfl
end
theorem M5(a b c:Int)(w:aw):(ec 43 (cg #[J ar a,J ar b,J ar c]) (J V 0)).run af w=.ok (J ar a) w:=cC
theorem M4(a b c:Int)(w:aw):(ec 43 (cg #[J ar a,J ar b,J ar c]) (J V 1)).run af w=.ok (J ar b) w:=cC
theorem M3(a b c:Int)(w:aw):(ec 43 (cg #[J ar a,J ar b,J ar c]) (J V 2)).run af w=.ok (J ar c) w:=cC
theorem xW(T:sL)(or:Int->Option M.bN)(so:M.bN->Option Int)(su:Int->Option M.Sub)(N:Nat)(w:aw)(h:fA w T or so su N)(p s0 s1 s2:Int)(hN:N<900000)(w0:Ng s0)(w1:Ng s1)(w2:Ng s2) :
  aF af 85 #[aq (Z ⟨T.g,0,I⟩),J V p,cg #[J ar s0,J ar s1,J ar s2]] w λe w'=>e=av (J V (xm or so p s0 s1 s2)) /\
   fA w' T (if xm or so p s0 s1 s2=0 then uz or p s0 s1 s2 3 else or) (if xm or so p s0 s1 s2=0 then uy so p s0 s1 s2 3 else so) su (N+6)/\cS T.own w w':=by
 generalize x:xm or so p s0 s1 s2=E;unfold xm at x;have al:aC w (w.alloc (.cells #[J ar s0,J ar s1,J ar s2] 43)):=(ao _ w).alloc (aj _) _;have h2:=h.below al;have HM:=au (zC p (w.alloc (.cells #[J ar s0,J ar s1,J ar s2] 43)));cases hm:M.mB p with
 |false =>
  rw[if_pos hm]at x;subst x;rw[hm]at HM;have H2:=au (h2.mono (z:N<=N+6));clear h h2;go_enter func85,ntmps85;go_wp2_with (refine HM.O.mono ?_;rintro e w2 ⟨rfl,c⟩;have b:=c.symm;subst b);go_ret;exact⟨rfl,by simpa using H2.O,.bn al⟩
 |true =>
  rw[if_neg (by simp[hm])]at x;rw[hm]at HM;have Ti:-1000000000000<=p/\p<=1000000000000:=by simp[M.mB]at hm;omega
  have ok:∀k:Int,0<=k->k<=2->Gi (p,k):=λk h1 h2=>ir Ti ⟨by show -1000000000000<=k;omega,by show k<=1000000000000;omega⟩;obtain⟨OK,H2,hb⟩:=bU ok h2 (aK.new w 43 #[J ar s0,J ar s1,J ar s2]);clear h h2;go_enter func85,ntmps85;go_upto_region 3 with(refine HM.O.mono ?_;rintro e w2 ⟨rfl,c⟩;have b:=c.symm;subst b)
  obtain⟨r5,h5⟩:=dH w.heap.size;rw[<-h5]at hb ⊢;refine aW (λW=>aK W r5 43 #[J ar s0,J ar s1,J ar s2]/\fA W T or so su N/\aC w W) ⟨hb.O,H2.O,al⟩ ?_;rintro W ⟨b5,f,bl⟩;have Tt:w.heap.size<=r5:=z;clear h5 hb H2 al;have k0:=b5.cell 0;have k1:=b5.cell 1;have k2:=b5.cell 2;simp at k0 k1 k2;obtain⟨B5,HT,BL⟩:=bU b5 f bl;have Tj:∀(j:Nat) y,([s0]:List Int)[j]? = Z y->W.cell? ⟨r5,j,I⟩=Z (J ar y):=λj y U=>by
   rcases j with _|j
   ·simp at U;subst U;exact k0
   ·simp at U
  have Tk:∀(j:Nat) y,([s0,s1]:List Int)[j]? = Z y->W.cell? ⟨r5,j,I⟩=Z (J ar y):=λj y U=>by
   rcases j with _|_|j
   ·simp at U;subst U;exact k0
   ·simp at U;subst U;exact k1
   ·simp at U
  obtain⟨Tl,Tf,Tg⟩:=bU (sK r5 3 [] s0 W dt dt) (sK r5 3 [s0] s1 W Tj dt) (sK r5 3 [s0,s1] s2 W Tk dt);clear b5 f bl Tj Tk;go_wp2_with fail;go_loopw [20] (λi wr=>∃k:Nat,i=J V k/\k<=3/\(2<=k->s1≠s0)/\(3<=k->s2≠s0/\s2≠s1)/\wr=W) (λi _=>3-(bS i).toNat);case atStart=>exact⟨0,rfl,z,z,z,rfl⟩
  case round =>
   obtain⟨k,rfl,hk,e1,e2,rfl⟩:=hrel;have a0:=M5 s0 s1 s2;have a1:=M4 s0 s1 s2;have a2:=M3 s0 s1 s2;obtain rfl|rfl|rfl|rfl:k=0\/k=1\/k=2\/k=3:=z
   ·go_wp2_with (refine Tl.O.mono ?_;rintro e w3 ⟨rfl,c⟩;have b:=c.symm;subst b);go_roundw;case rel=>exact⟨1,rfl,z,z,z,by first|rfl|trivial⟩
    case measure=>simp[bS]
   ·by_cases h1:s1=s0
    ·rw[if_pos (.inl h1)]at x;subst x;subst h1;go_wp2_with (refine Tf.O.mono ?_;rintro e w3 ⟨rfl,c⟩;have b:=c.symm;subst b;rw[show decide (s1∈[s1])=true by simp]);go_ret;exact⟨rfl,by simpa using HT.O.mono z,.bn BL.O⟩
    ·go_wp2_with (refine Tf.O.mono ?_;rintro e w3 ⟨rfl,c⟩;have b:=c.symm;subst b;rw[show decide (s1∈[s0])=false by simp[h1]]);go_roundw;case rel=>exact⟨2,rfl,z,λ_=>h1,z,by first|rfl|trivial⟩
     case measure=>simp[bS]
   ·by_cases h1:s2=s0\/s2=s1
    ·rw[if_pos (.inr h1)]at x;subst x;have To:=au h1;clear h1;go_wp2_with (refine Tg.O.mono ?_;rintro e w3 ⟨rfl,c⟩;have b:=c.symm;subst b;rw[show decide (s2∈[s0,s1])=true by simpa using To.O]);go_ret;exact⟨rfl,by simpa using HT.O.mono z,.bn BL.O⟩
    ·have h2:s2≠s0/\s2≠s1:=⟨λq=>h1 (.inl q),λq=>h1 (.inr q)⟩;go_wp2_with (refine Tg.O.mono ?_;rintro e w3 ⟨rfl,c⟩;have b:=c.symm;subst b;rw[show decide (s2∈[s0,s1])=false by simpa using h2]);go_roundw;case rel=>exact⟨3,rfl,z,λ_=>e1 z,λ_=>h2,by first|rfl|trivial⟩
     case measure=>simp[bS]
   ·have d1:=e1 z;have d2:=e2 z;rw[if_neg (by rintro(q|q|q);exact d1 q;exact d2.1 q;exact d2.2 q)]at x;have HQ:=au (vt T or so su N _ HT.O p Ti);clear Tl Tf Tg e1 e2;cases hq:(so (p,0)).isSome with
    |true =>
     rw[hq]at HQ;rw[if_pos hq]at x;subst x;go_wp2_with (refine HQ.O.mono ?_;rintro e w2 ⟨rfl,c⟩;have b:=c.symm;subst b);go_ret;exact⟨rfl,by simpa using HT.O.mono z,.bn BL.O⟩
    |false =>
     rw[hq]at HQ;rw[if_neg (by simp[hq])]at x;go_wp2_with (refine HQ.O.mono ?_;rintro e w2 ⟨rfl,c⟩;have b:=c.symm;subst b);clear k0 k1 k2;go_loopw [33] (λi wr=>∃k:Nat,i=J V k/\k<=3/\(1<=k->or s0=I)/\(2<=k->or s1=I)/\(3<=k->or s2=I)/\aK wr r5 43 #[J ar s0,J ar s1,J ar s2]/\fA wr T or so su N/\aC w wr) (λi _=>3-(bS i).toNat);case atStart=>exact⟨0,rfl,z,z,z,z,B5.O,HT.O,BL.O⟩
     case round =>
      obtain⟨k,rfl,hk,g1,g2,g3,b5,f,bl⟩:=hrel;have X:=f.cw.cell 0;simp at X;obtain rfl|rfl|rfl|rfl:k=0\/k=1\/k=2\/k=3:=z
      ·have l:=f.LS s0 w0;cases n:or s0 with
       |some y =>
        obtain⟨y1,y2⟩:=y;rw[n]at l;simp only[gS,fQ]at l;rw[if_pos (.inl (by simp[n]))]at x;subst x;obtain⟨H,K⟩:=bu (f.below ((ao _ wr).alloc (aj _) (.cells #[J V y1,J V y2] 91))) (bl.alloc bl.size (.cells #[J V y1,J V y2] 91));clear f bl b5 n;go_wp2_with fail;go_ret;exact⟨rfl,by simpa using H.O.mono z,.bn K.O⟩
       |none =>
        rw[n]at l;simp only[gy,fy]at l;obtain⟨KB,H,K⟩:=bU (b5.alloc (.cells #[J V 0,J V 0] 91)) (f.below ((ao _ wr).alloc (aj _) (.cells #[J V 0,J V 0] 91))) (bl.alloc bl.size (.cells #[J V 0,J V 0] 91));clear f bl b5;have HO:=au n;clear n;go_wp2_with fail;go_roundw;case rel=>have n:=HO.O;exact⟨1,rfl,z,λ_=>(by first|exact n|trivial),z,z,KB.O,H.O,K.O⟩
        case measure=>simp[bS]
      ·have l:=f.LS s1 w1;cases n:or s1 with
       |some y =>
        obtain⟨y1,y2⟩:=y;rw[n]at l;simp only[gS,fQ]at l;rw[if_pos (.inr (.inl (by simp[n])))]at x;subst x;obtain⟨H,K⟩:=bu (f.below ((ao _ wr).alloc (aj _) (.cells #[J V y1,J V y2] 91))) (bl.alloc bl.size (.cells #[J V y1,J V y2] 91));clear f bl b5 n;go_wp2_with fail;go_ret;exact⟨rfl,by simpa using H.O.mono z,.bn K.O⟩
       |none =>
        rw[n]at l;simp only[gy,fy]at l;obtain⟨KB,H,K⟩:=bU (b5.alloc (.cells #[J V 0,J V 0] 91)) (f.below ((ao _ wr).alloc (aj _) (.cells #[J V 0,J V 0] 91))) (bl.alloc bl.size (.cells #[J V 0,J V 0] 91));clear f bl b5;have HO:=au n;clear n;go_wp2_with fail;go_roundw;case rel=>have n:=HO.O;exact⟨2,rfl,z,λ_=>(by first|exact g1 z|trivial),λ_=>(by first|exact n|trivial),z,KB.O,H.O,K.O⟩
        case measure=>simp[bS]
      ·have l:=f.LS s2 w2;cases n:or s2 with
       |some y =>
        obtain⟨y1,y2⟩:=y;rw[n]at l;simp only[gS,fQ]at l;rw[if_pos (.inr (.inr (by simp[n])))]at x;subst x;obtain⟨H,K⟩:=bu (f.below ((ao _ wr).alloc (aj _) (.cells #[J V y1,J V y2] 91))) (bl.alloc bl.size (.cells #[J V y1,J V y2] 91));clear f bl b5 n;go_wp2_with fail;go_ret;exact⟨rfl,by simpa using H.O.mono z,.bn K.O⟩
       |none =>
        rw[n]at l;simp only[gy,fy]at l;obtain⟨KB,H,K⟩:=bU (b5.alloc (.cells #[J V 0,J V 0] 91)) (f.below ((ao _ wr).alloc (aj _) (.cells #[J V 0,J V 0] 91))) (bl.alloc bl.size (.cells #[J V 0,J V 0] 91));clear f bl b5;have HO:=au n;clear n;go_wp2_with fail;go_roundw;case rel=>have n:=HO.O;exact⟨3,rfl,z,λ_=>(by first|exact g1 z|trivial),λ_=>(by first|exact g2 z|trivial),λ_=>(by first|exact n|trivial),KB.O,H.O,K.O⟩
        case measure=>simp[bS]
      ·have n0:=g1 z;have n1:=g2 z;have n2:=g3 z;rw[if_neg (by simp[n0,n1,n2])]at x;subst x;clear n0 n1 n2 g1 g2 g3 X;have k0:=b5.cell 0;have k1:=b5.cell 1;have k2:=b5.cell 2;simp at k0 k1 k2;obtain⟨Tp,Tq,Ts⟩:=bU b5 f bl;clear b5 f bl;go_upto_region 19 with fail;go_wp2_with fail;go_loopw [48] (λi wr=>∃k:Nat,i=J V k/\k<=3/\aK wr r5 43 #[J ar s0,J ar s1,J ar s2]/\fA wr T (uz or p s0 s1 s2 k) (uy so p s0 s1 s2 k) su (N+2*k)/\cS T.own w wr) (λi _=>3-(bS i).toNat);case atStart=>exact⟨0,rfl,z,Tp.O,Tq.O,.bn Ts.O⟩
       case round =>
        obtain⟨k,rfl,hk,b5,f,L⟩:=hrel;have a0:=M5 s0 s1 s2;have a1:=M4 s0 s1 s2;have a2:=M3 s0 s1 s2;obtain rfl|rfl|rfl|rfl:k=0\/k=1\/k=2\/k=3:=z
        ·go_upto_region 22 with fail;obtain⟨t,m⟩:=dH wr.heap.size;rw[<-m];refine aW (λY=>aK Y t 91 #[J V p,J V 0]/\aK Y r5 43 #[J ar s0,J ar s1,J ar s2]/\fA Y T (uz or p s0 s1 s2 0) (uy so p s0 s1 s2 0) su (N+0)/\cS T.own w Y) ⟨aK.newAt _ _ _ _ m,b5.alloc _,f.below ((ao _ wr).alloc (aj _) _),L.alloc _⟩ ?_;rintro Y ⟨a,u,d,A⟩;have Tm:w.heap.size<=t:=by rw[m];exact L.size
         clear m b5 f L;have X:=d.cw.cell 0;have P:=a.cell 0;have Q:=a.cell 1;simp at X P Q;obtain⟨Tn,hZ,B,r⟩:=(d.dW (F:=cr) (cS.refl cr Y).drew (λ_ _ q=>q)).Po z s0 w0 (p,0);have hZ:(eF 205 (.map (Z T.mo)) (J ar s0) (cg #[J V p,J V 0])).run af Y.drew=.ok () Tn:=hZ;have C:=a.drew.dW r (λq=>d.o.ki a q.symm);have z5:=u.drew.dW r (λq=>d.o.ki u q.symm);have D:=(A.drew.trans (r.mono λi _ q=>(show T.own i from .inr (.inl q))));obtain⟨K1,K2,R,S⟩:=cA C z5 B D;clear a u d A C z5 B D r;go_region;all_goals
          refine gN (λv=>aK v t 91 #[J V p,J V 0]/\aK v r5 43 #[J ar s0,J ar s1,J ar s2]/\fA v T (M.set (uz or p s0 s1 s2 0) s0 (Z (p,0))) (uy so p s0 s1 s2 0) su (N+0+1)/\cS T.own w v) (by first|exact⟨K1.O,K2.O,R.O,S.O⟩|exact⟨K1.O.drewN _,K2.O.drewN _,R.O.dW (F:=cr) ((cS.refl cr _).drewN _) (λ_ _ q=>q),S.O.drewN _⟩) ?_;rintro v ⟨a,u,d,A⟩;have c1:=d.cw.cell 1;have P:=a.cell 0;have Q:=a.cell 1;simp at c1 P Q;obtain⟨Z',G,B,r⟩:=(d.dW (F:=cr) (cS.refl cr v).drew (λ_ _ q=>q)).Pn z (p,0) (OK.O 0 z z) s0;have G:(eF 82 (.map (Z T.ms)) (cg #[J V p,J V 0]) (J ar s0)).run af v.drew=.ok () Z':=G;have z5:=u.drew.dW r (λq=>d.s.ki u q.symm);have D:=(A.drew.trans (r.mono λi _ q=>(show T.own i from .inr (.inr (.inl q)))));obtain⟨J2,J3,J4⟩:=bU z5 B D;clear a u d A z5 B D r;go_wp2_with fail;go_region;all_goals
           go_wp2_with fail;go_roundw;case rel =>
            refine⟨1,rfl,z,?_,?_,?_⟩
            ·first|exact J2.O|exact J2.O.drewN _
            ·first|exact J3.O|exact J3.O.dW (F:=cr) ((cS.refl cr _).drewN _) (λ_ _ q=>q)
            ·first|exact J4.O|exact J4.O.drewN _
           case measure=>simp[bS]
        ·go_upto_region 22 with fail;obtain⟨t,m⟩:=dH wr.heap.size;rw[<-m];refine aW (λY=>aK Y t 91 #[J V p,J V 1]/\aK Y r5 43 #[J ar s0,J ar s1,J ar s2]/\fA Y T (uz or p s0 s1 s2 1) (uy so p s0 s1 s2 1) su (N+2)/\cS T.own w Y) ⟨aK.newAt _ _ _ _ m,b5.alloc _,f.below ((ao _ wr).alloc (aj _) _),L.alloc _⟩ ?_;rintro Y ⟨a,u,d,A⟩;have Tm:w.heap.size<=t:=by rw[m];exact L.size
         clear m b5 f L;have X:=d.cw.cell 0;have P:=a.cell 0;have Q:=a.cell 1;simp at X P Q;obtain⟨Tn,hZ,B,r⟩:=(d.dW (F:=cr) (cS.refl cr Y).drew (λ_ _ q=>q)).Po z s1 w1 (p,1);have hZ:(eF 205 (.map (Z T.mo)) (J ar s1) (cg #[J V p,J V 1])).run af Y.drew=.ok () Tn:=hZ;have C:=a.drew.dW r (λq=>d.o.ki a q.symm);have z5:=u.drew.dW r (λq=>d.o.ki u q.symm);have D:=(A.drew.trans (r.mono λi _ q=>(show T.own i from .inr (.inl q))));obtain⟨K1,K2,R,S⟩:=cA C z5 B D;clear a u d A C z5 B D r;go_region;all_goals
          refine gN (λv=>aK v t 91 #[J V p,J V 1]/\aK v r5 43 #[J ar s0,J ar s1,J ar s2]/\fA v T (M.set (uz or p s0 s1 s2 1) s1 (Z (p,1))) (uy so p s0 s1 s2 1) su (N+2+1)/\cS T.own w v) (by first|exact⟨K1.O,K2.O,R.O,S.O⟩|exact⟨K1.O.drewN _,K2.O.drewN _,R.O.dW (F:=cr) ((cS.refl cr _).drewN _) (λ_ _ q=>q),S.O.drewN _⟩) ?_;rintro v ⟨a,u,d,A⟩;have c1:=d.cw.cell 1;have P:=a.cell 0;have Q:=a.cell 1;simp at c1 P Q;obtain⟨Z',G,B,r⟩:=(d.dW (F:=cr) (cS.refl cr v).drew (λ_ _ q=>q)).Pn z (p,1) (OK.O 1 z z) s1;have G:(eF 82 (.map (Z T.ms)) (cg #[J V p,J V 1]) (J ar s1)).run af v.drew=.ok () Z':=G;have z5:=u.drew.dW r (λq=>d.s.ki u q.symm);have D:=(A.drew.trans (r.mono λi _ q=>(show T.own i from .inr (.inr (.inl q)))));obtain⟨J2,J3,J4⟩:=bU z5 B D;clear a u d A z5 B D r;go_wp2_with fail;go_region;all_goals
           go_wp2_with fail;go_roundw;case rel =>
            refine⟨2,rfl,z,?_,?_,?_⟩
            ·first|exact J2.O|exact J2.O.drewN _
            ·first|exact J3.O|exact J3.O.dW (F:=cr) ((cS.refl cr _).drewN _) (λ_ _ q=>q)
            ·first|exact J4.O|exact J4.O.drewN _
           case measure=>simp[bS]
        ·go_upto_region 22 with fail;obtain⟨t,m⟩:=dH wr.heap.size;rw[<-m];refine aW (λY=>aK Y t 91 #[J V p,J V 2]/\aK Y r5 43 #[J ar s0,J ar s1,J ar s2]/\fA Y T (uz or p s0 s1 s2 2) (uy so p s0 s1 s2 2) su (N+4)/\cS T.own w Y) ⟨aK.newAt _ _ _ _ m,b5.alloc _,f.below ((ao _ wr).alloc (aj _) _),L.alloc _⟩ ?_;rintro Y ⟨a,u,d,A⟩;have Tm:w.heap.size<=t:=by rw[m];exact L.size
         clear m b5 f L;have X:=d.cw.cell 0;have P:=a.cell 0;have Q:=a.cell 1;simp at X P Q;obtain⟨Tn,hZ,B,r⟩:=(d.dW (F:=cr) (cS.refl cr Y).drew (λ_ _ q=>q)).Po z s2 w2 (p,2);have hZ:(eF 205 (.map (Z T.mo)) (J ar s2) (cg #[J V p,J V 2])).run af Y.drew=.ok () Tn:=hZ;have C:=a.drew.dW r (λq=>d.o.ki a q.symm);have z5:=u.drew.dW r (λq=>d.o.ki u q.symm);have D:=(A.drew.trans (r.mono λi _ q=>(show T.own i from .inr (.inl q))));obtain⟨K1,K2,R,S⟩:=cA C z5 B D;clear a u d A C z5 B D r;go_region;all_goals
          refine gN (λv=>aK v t 91 #[J V p,J V 2]/\aK v r5 43 #[J ar s0,J ar s1,J ar s2]/\fA v T (M.set (uz or p s0 s1 s2 2) s2 (Z (p,2))) (uy so p s0 s1 s2 2) su (N+4+1)/\cS T.own w v) (by first|exact⟨K1.O,K2.O,R.O,S.O⟩|exact⟨K1.O.drewN _,K2.O.drewN _,R.O.dW (F:=cr) ((cS.refl cr _).drewN _) (λ_ _ q=>q),S.O.drewN _⟩) ?_;rintro v ⟨a,u,d,A⟩;have c1:=d.cw.cell 1;have P:=a.cell 0;have Q:=a.cell 1;simp at c1 P Q;obtain⟨Z',G,B,r⟩:=(d.dW (F:=cr) (cS.refl cr v).drew (λ_ _ q=>q)).Pn z (p,2) (OK.O 2 z z) s2;have G:(eF 82 (.map (Z T.ms)) (cg #[J V p,J V 2]) (J ar s2)).run af v.drew=.ok () Z':=G;have z5:=u.drew.dW r (λq=>d.s.ki u q.symm);have D:=(A.drew.trans (r.mono λi _ q=>(show T.own i from .inr (.inr (.inl q)))));obtain⟨J2,J3,J4⟩:=bU z5 B D;clear a u d A z5 B D r;go_wp2_with fail;go_region;all_goals
           go_wp2_with fail;go_roundw;case rel =>
            refine⟨3,rfl,z,?_,?_,?_⟩
            ·first|exact J2.O|exact J2.O.drewN _
            ·first|exact J3.O|exact J3.O.dW (F:=cr) ((cS.refl cr _).drewN _) (λ_ _ q=>q)
            ·first|exact J4.O|exact J4.O.drewN _
           case measure=>simp[bS]
        ·obtain⟨R,S⟩:=bu f L;clear f L b5;go_wp2_with fail;go_ret;exact⟨rfl,by simpa using R.O,S.O⟩
end
section
section
variable {X w:aw} {o:Obj} {F:Nat->Prop} {cs:Array Value} {t:TypeId}
def eW(b:iQ X.drew.heap.size X.drew w):aC X w:=(cd (ao _ X) 1).trans b
def ML(b:iQ (X.alloc o).drew.heap.size (X.alloc o).drew w):aC X w:=(cd ((ao _ X).alloc (aj _) o) 1).trans (b.mono (by show X.heap.size<=(X.alloc o).heap.size;simp))
def Eu(f:Fr F X.drew w):Fr F X w:=((Fr.refl F X).drew).trans f
def ON(f:Fr F (X.alloc o).drew w):Fr F X w:=(((Fr.refl F X).alloc o).drew).trans f
def MK(b:iQ (X.alloc (.cells cs t)).drew.heap.size (X.alloc (.cells cs t)).drew w):aK w X.heap.size t cs:=(aK.new X t cs).drew.kept b
def OO(b:iQ (X.drew.alloc (.cells cs t)).heap.size (X.drew.alloc (.cells cs t)) w):aK w X.heap.size t cs:=(aK.new X.drew t cs).kept b
def OM(f:Fr F (X.alloc (.cells cs t)).drew w)(h:¬F X.heap.size):aK w X.heap.size t cs:=(aK.new X t cs).drew.dW f.u h
def cE{w:aw}{p:Addr}{v:Value}(h:w.cell? p=Z v):w.drew.cell? p=Z v:=h
def ea{w:aw}{b i:Nat}{v:Value}{o:Obj}(h:w.cell? ⟨b,i,I⟩=Z v):(w.alloc o).cell? ⟨b,i,I⟩=Z v:=(World.cell?_alloc_lt _ _ _ (uc h)).trans h
def sf{w:aw}{g j b i:Nat}{v u:Value}(n:g≠b)(h:w.cell? ⟨b,i,I⟩=Z v):(w.setCell ⟨g,j,I⟩ u).cell? ⟨b,i,I⟩=Z v:=(World.cell?_setCell_far w ⟨g,j,I⟩ ⟨b,i,I⟩ u n).trans h
def dD{F:Nat->Prop}{w w':aw}{b i:Nat}{v:Value}(f:Fr F w w')(hF:¬F b)(h:w.cell? ⟨b,i,I⟩=Z v):w'.cell? ⟨b,i,I⟩=Z v:=by
 have e:=f.u.block b (uc h) hF;exact(World.cell?_of_block (w:=w) (w':=w') (a:=⟨b,i,I⟩) e).trans h
end
end
def N1:(af.info? 396).map (λi=>(i.zero,i.size,i.bytes))=Z (Z (cg #[J ar 0,J bI 0]),2,8):=cC
def Mx:(af.info? 42).map (λi=>(i.zero,i.size,i.bytes))=Z (Z (J aN 0),1,2):=cC
def BQ(x:Int)(c:List Value):Prop:=(Lit.int ar x).wf=true/\∃y,c=[J ar x,J bI y]
def Jr{w w':aw}{base:Nat}{e:TypeId}{size n:Nat}{v:Value}{xs:List Value}{g:Nat}(h:w.ownsRow base e size v n xs)(u:cS (One g) w w')(hg:v.ownBlock≠Z g):w'.ownsRow base e size v n xs:=
 du h u λi hi q=>hg (by rw[hi,show i=g from q])
def RS.grown{w0 w w':aw}{g:Nat}{d:M.Rd}{v:Value}{base:Nat}{e:TypeId}{size n:Nat}{xs:List Value}(h:RS w0 g w d)(own:w.ownsRow base e size v n xs)(a:w0.heap.size<=base)(gr:w.grownBy w' v.ownBlock)(h1:e≠231)(h2:e≠5):RS w0 g w' d:=by
 have T:=ib own;have U:=cS.wx gr;refine⟨h.rd.tc U T (by simpa using Ne.symm h1) (by simpa using Ne.symm h2),h.u.step U λi hi=>.inr ?_⟩;exact aP a (own.lt i hi).1
def RS.own{w0 w w':aw}{g:Nat}{d:M.Rd}{v:Value}{base:Nat}{e:TypeId}{size n:Nat}{xs:List Value}(h:RS w0 g w d)(own:w.ownsRow base e size v n xs)(u:cS (One g) w w')(h1:e≠231):w'.ownsRow base e size v n xs:=by
 obtain⟨c,a⟩:=h.rd.cw;exact Jr own u (λq=>ej own a h1 q.symm)
def Ct(g:Nat)(d0:M.Rd)(w:aw)(h:iG w g d0)(ok:d0.Ok)(hl:d0.left.length<=200):aF af 303 #[aq (Z ⟨g,0,I⟩)] w λe w' =>
  (∃(v:Value) (q:List (List Value)),e=av v/\w'.ownsRow w.heap.size 396 2 v (M.iE 30 d0).1.length q.flatten/\Fit BQ (M.iE 30 d0).1 q/\(M.iE 30 d0).1.length<=30)/\iG w' g (M.iE 30 d0).2/\cS (One g) w w':=by
 obtain⟨i0,hi,P,Q,T⟩:=cY N1;obtain⟨HI,Tl,Tm,Tn,H0,b,HL⟩:=lV hi P Q T (RS.start h) ok hl;clear hi P Q T h ok hl;go_enter func303,ntmps303;go_wp2_with fail;go_loopw [3] (λv wr=>∃(L:List Int) (q:List (List Value)) (f:Nat) (d:M.Rd),RS w g wr d/\d.Ok/\d.left.length<=8*f/\L.length+f<=30/\M.iE 30 d0=(L++(M.iE f d).1,(M.iE f d).2)/\wr.ownsRow w.heap.size 396 2 v L.length q.flatten/\Fit BQ L q) (λ_ wr=>wh wr (aq (Z ⟨g,0,I⟩)));case atStart=>exact⟨[],[],30,d0,H0.O,b.O,by have:=HL.O;omega,dt,dt,⟨rfl,.inl ⟨rfl,rfl⟩⟩,trivial⟩
 case round =>
  clear H0 b HL;obtain⟨L,q,f,d,S,ok,hf,hlen,heq,own,fit⟩:=hrel;obtain⟨A5,c5,rfl⟩:=bA own;obtain⟨HS,b,HF,U,HO,m⟩:=lH S ok hf heq own fit;clear S ok hf heq own fit;by_cases r:0<d.left.length
  ·have Ts:1<=f:=by have:=HF.O;omega
   have a:M.iE f d=((d.num 4).1::(M.iE (f-1) (M.iD [4,1,3] d)).1,(M.iE (f-1) (M.iD [4,1,3] d)).2):=by
    obtain⟨f',rfl⟩:∃f',f=f'+1:=⟨f-1,z⟩;rw[M.iE,if_pos r];rfl
   obtain⟨c,To⟩:=bu a r;clear a;go_wp2_with (go_at_call 53;refine(lr g d _ HS.O.rd).mono ?_;rintro e w9 ⟨rfl,e9⟩;subst e9);refine(kK g d _ HS.O.rd).mono ?_;have q4:=ev HS.O.rd 4 z;obtain⟨⟨t,d1⟩,x⟩:∃p,p=M.Rd.num d 4:=⟨_,rfl⟩;rw[<-x]at q4 ⊢;have k:=au x;simp only at q4;have W:=Ca q4;obtain⟨qa,qb⟩:=q4;clear x;rintro e W1 ⟨rfl,R,u⟩;have O1:=HS.O.own HO.O u aR;have S1:=HS.O.call R u;obtain⟨l,Y,Tp⟩:=bU S1 O1 W;clear R u S1 O1 W;go_wp2_with fail;refine(lW g d1 _ l.O.rd).mono ?_;obtain⟨⟨x1,d2⟩,y⟩:∃p,p=M.Rd.num d1 1:=⟨_,rfl⟩;rw[<-y];have A:=au y;clear y;rintro e W2 ⟨rfl,R,u⟩;have O2:=l.O.own Y.O u aR;have S2:=l.O.call R u;obtain⟨B,C⟩:=bu S2 O2;clear R u S2 O2 l Y;go_upto_region 4 with fail;obtain⟨r4,e4⟩:=dH W2.heap.size;rw[<-e4];have al:aC W2 (W2.alloc (.cells #[J ar t,J bI x1] 396)):=(ao _ _).alloc (aj _) _;refine aW (λX=>RS w g X d2/\aK X r4 396 #[J ar t,J bI x1]/\X.ownsRow w.heap.size 396 2 (ae A5 L.length c5) L.length q.flatten/\w.heap.size<=r4/\(∀i,(ae A5 L.length c5).ownBlock=Z i->i≠r4)) ⟨B.O.alloc _,aK.newAt _ _ _ _ e4,du C.O (.bn (F:=cr) al) (λi _ q=>q.elim),?_,?_⟩ ?_
   ·have:=B.O.u.size;omega
   ·intro i hi;have:=(C.O.lt i hi).2;omega
   clear al e4 B C;rintro X ⟨S3,H,O3,g4,n4⟩;obtain⟨j,Tf,Tg⟩:=bU S3 H O3;clear S3 H O3 n4;go_wp2_with fail;refine(AU g d2 _ j.O.rd).mono ?_;obtain⟨⟨x3,d3⟩,D⟩:∃p,p=M.Rd.num d2 3:=⟨_,rfl⟩;rw[<-D];have E:=au D;clear D;rintro e W4 ⟨rfl,R,u⟩;have O4:=j.O.own Tg.O u aR;have H:=j.O.cw Tf.O aR u;have S4:=j.O.call R u;have k0:=H.cell 0;have k1:=H.cell 1;simp at k0 k1;obtain⟨Ti,G⟩:=bu S4 O4;have Tt:=S4.u.size;clear R u S4 O4 H j Tf Tg;go_wp2_with (at_builtin;go_loud (refine dM _ rfl _ _ 274 rfl w.heap.size 396 i0 (cg #[J ar 0,J bI 0]) 2 8 underlying274 HI.O Tl.O Tm.O Tn.O rfl aR _ _ _ rfl (G.O.alloc _) ⟨W4.heap.size,0,I⟩ 1 1 [J ar t,J bI x1] rfl rfl (fB W4 396 _) tk ?c3 ?c4 ?c5 ?_));case c3=>unfold maxLen;omega
   case c4=>omega
   case c5=>simp;omega
   intro v5 W5 n g5 _;have S5:=(Ti.O.alloc _).grown (G.O.alloc _) (aj _) g5 aR aR;have o:W5.ownsRow w.heap.size 396 2 v5 (L++[t]).length (q++[[J ar t,J bI x1]]).flatten:=by simpa using n
   obtain⟨Tj,Tq⟩:=bu S5 o;clear S5 o n g5 Ti G k0 k1;go_wp2_with fail;go_roundw;case rel =>
    have e3:M.iD [4,1,3] d=d3:=by
     simp only[M.iD];rw[<-k.O,<-A.O,<-E.O]
    have Tk:=M.Im [4,1,3] b.O;rw[e3]at Tk;refine⟨L++[t],_,f-1,d3,Tj.O,Tk,?_,dZ,?_,Tq.O,m.O.snoc ⟨Tp.O,x1,rfl⟩⟩
    ·have n1:=M.jn b.O (s:=4) z;have K:=b.O.num 4;rw[<-k.O]at n1 K;have n2:=M.jn K (s:=1) z;have N:=K.num 1;simp only at n1 n2 N;rw[<-A.O]at n2 N;have n3:=M.jn N (s:=3) z;simp only at n2 n3;rw[<-E.O]at n3;simp only at n3;have:=HF.O;omega
    ·rw[U.O,c.O,e3];have:(d.num 4).1=t:=by rw[<-k.O]
     rw[this];simp
   case measure =>
    have n1:=M.jn b.O (s:=4) z;have K:=M.uR d1 1;have N:=M.uR d2 3;rw[<-k.O]at n1;rw[<-A.O]at K;rw[<-E.O]at N;simp only at n1 K N;rw[Tj.O.rd.len,HS.O.rd.len];have:=To.O;omega
  ·have a:M.iE f d=([],d):=by
    cases f with
    |zero=>rfl
    |succ f=>rw[M.iE,if_neg r]
   have c:=au a;clear a;go_wp2_with (go_at_call 53;refine(lr g d _ HS.O.rd).mono ?_;rintro e w9 ⟨rfl,e9⟩;subst e9);go_ret;have e1:M.iE 30 d0=(L,d):=by rw[U.O,c.O];simp
   rw[e1];exact⟨⟨_,q,rfl,HO.O,m.O,by show L.length<=30;omega⟩,HS.O.rd,HS.O.u⟩
def Fm(n:Int)(a:0<=n)(b:n<2 ^ 16):aN.wrap n=n:=by rw[mX];omega
def nZ(bO mask:Int)(k:Nat):List Int:=bO::(kq k).filterMap λ(k:Nat)=>if mask / 2 ^ k % 2=1 then Z ((bO+(k:Int)+1) % 65536) else I
def D9(bO mask:Int)(k:Nat):nZ bO mask (k+1)=nZ bO mask k++if mask / 2 ^ k % 2=1 then[(bO+(k:Int)+1) % 65536] else[]:=by
 unfold nZ;rw[List.range_succ,List.filterMap_append];simp only[List.cons_append,List.filterMap_cons,List.filterMap_nil];split
 ·rename_i h;split at h
  ·cases h
  ·rename_i q;rw[if_neg q]
 ·rename_i h;split at h
  ·rename_i q;rw[if_pos q];simp at h;rw[h]
  ·cases h
def zD(bO mask:Int)(k:Nat):(nZ bO mask k).length<=k+1:=by
 unfold nZ;have:=List.length_filterMap_le (λ(k:Nat)=>if mask / 2 ^ k % 2=1 then Z ((bO+(k:Int)+1) % 65536) else I) (kq k);simp at this ⊢;omega
def OV{x:Int}(h:0<=x/\x<=65535):(Lit.int aN x).wf=true:=by
 simp[Lit.wf,jI,jJ,fR,gM];omega
def LR(bO mask:Int)(w:aw)(hn:0<=bO/\bO<=65535)(hm:0<=mask/\mask<=65535):aF af 327 #[cg #[J aN bO,J aN mask]] w λe w' =>
  (∃(A:Option Addr) (c:Nat),e=av (ae A (M.lq bO mask).length c)/\w'.ownsRow w.heap.size 42 1 (ae A (M.lq bO mask).length c) (M.lq bO mask).length ((M.lq bO mask).map (J aN)))/\aC w w':=by
 have em:M.lq bO mask=nZ bO mask 16:=rfl;rw[em];obtain⟨i0,hi,n,o,p⟩:=cY Mx;obtain⟨T,x,y,B⟩:=cA hi n o p;clear hi n o p em;go_enter func327,ntmps327;go_upto_region 2 with fail;obtain⟨r1,C⟩:=dH w.heap.size;obtain⟨r7,D⟩:=dH (w.heap.size+1);rw[<-D,<-C];refine aW (λX=>aK X r1 483 #[J aN bO,J aN mask]/\X.ownsRow w.heap.size 42 1 (ae (Z ⟨r7,0,I⟩) 1 1) (nZ bO mask 0).length ((nZ bO mask 0).map (J aN))/\aC w X) ⟨(aK.newAt _ _ _ _ C).alloc _,⟨rfl,.inr ⟨r7,1,#[J aN bO],rfl,z,aK.newAt _ _ _ _ (by simp[D]),aj _,ui,rfl,rfl⟩⟩,((ao _ w).alloc (aj _) _).alloc dt _⟩ ?_;clear C D;rintro X ⟨b1,own,N⟩;obtain⟨b,f,P⟩:=bU b1 own N;clear b1 own N;go_wp2_with fail;go_loopw [3,4,8] (λv _ i wr=>∃k:Nat,i=J V k/\k<=16/\aK wr r1 483 #[J aN bO,J aN mask]/\wr.ownsRow w.heap.size 42 1 v (nZ bO mask k).length ((nZ bO mask k).map (J aN))/\aC w wr) (λ_ _ i _=>16-(bS i).toNat);case atStart=>exact⟨0,rfl,z,b.O,f.O,P.O⟩
 case round =>
  clear b f P;obtain⟨k,rfl,hk,b1,own,Q⟩:=hrel;obtain⟨A5,c5,rfl⟩:=bA own;have R:=b1.cell 0;have c1:=b1.cell 1;simp at R c1;have hlen:=zD bO mask k;have q:=D9 bO mask k;obtain⟨b,f,r,s⟩:=cA b1 own Q q;clear b1 own Q q;by_cases U:k<16
  ·have a:bits .and aN (mask / 2 ^ k) 1=mask / 2 ^ k % 2:=by
    have h0:0<=mask / 2 ^ k:=Int.ediv_nonneg hm.1 (Int.pow_nonneg aR);have h1:mask / 2 ^ k<=mask:=Int.ediv_le_self _ hm.1;exact bits_mask aN 16 aR Fm 1 aR _ h0 z
   by_cases m:mask / 2 ^ k % 2=1
   ·have W:(bits .and aN (mask / 2 ^ k) 1==1)=true:=by rw[a,m];rfl
    have E:=au m;have g:aN.wrap (aN.wrap (bO+(k:Int))+1)=(bO+(k:Int)+1) % 65536:=by rw[mX,mX];omega
    have t:=au g;clear m a g;go_upto_region 6 with fail;go_wp2_with (at_builtin;go_loud (refine dM _ rfl _ _ 275 rfl w.heap.size 42 i0 (J aN 0) 1 2 underlying275 T.O x.O y.O B.O rfl aR _ _ _ rfl (f.O.alloc _) ⟨wr.heap.size,0,I⟩ 1 1 [J aN (aN.wrap (aN.wrap (bO+(k:Int))+1))] rfl rfl (fB wr 42 _) tk ?c3 ?c4 ?c5 ?_));case c3=>unfold maxLen;omega
    case c4=>omega
    case c5=>have:=r.O.size;simp;omega
    intro v5 F d g5 _;have G:=r.O.size;have h:aC w F:=(r.O.alloc G _).grown g5 dZ (λj Y=>by have:=(f.O.lt j Y).1;omega);have S:aK F r1 483 #[J aN bO,J aN mask]:=(b.O.alloc _).grown g5 (ej f.O b.O aR);have l:F.ownsRow w.heap.size 42 1 v5 (nZ bO mask (k+1)).length ((nZ bO mask (k+1)).map (J aN)):=by
     rw[s.O,if_pos E.O];rw[t.O]at d;simpa using d
    obtain⟨u,H,K⟩:=bU h S l;clear h S l d g5 R c1;go_wp2_with fail;go_roundw;case rel=>exact⟨k+1,by go_num,z,H.O,K.O,u.O⟩
    case measure=>simp[bS];omega
   ·have W:(bits .and aN (mask / 2 ^ k) 1==1)=false:=by rw[a];simpa using m
    have E:=au m;clear m a;go_wp2_with fail;go_roundw;case rel =>
     refine⟨k+1,by go_num,z,b.O,?_,r.O⟩;have e:nZ bO mask (k+1)=nZ bO mask k:=by rw[s.O,if_neg E.O];simp
     rw[e];exact f.O
    case measure=>simp[bS];omega
  ·have L:k=16:=z;subst L;go_wp2_with fail;go_ret;exact⟨⟨_,_,rfl,f.O⟩,r.O⟩
def Ap(f:Nat)(l:List Int)(d:M.Rd)(a b:Int)(d1 d2:M.Rd)(h0:0<d.left.length)(c:d.num 2=(a,d1))(e:d1.num 2=(b,d2)) :
  M.lp (f+1) l d=M.lp f (l++M.lq a b) (match l.getLast? with | some x=>if M.nx x a<=0 then d2.fail 2 else d2 | none=>d2):=by
 rw[M.lp,if_pos h0];simp only[c,e];cases l.getLast? <;> rfl
def Cr(g:Nat)(d0:M.Rd)(w:aw)(h:iG w g d0)(ok:d0.Ok)(hl:d0.left.length<=200):aF af 304 #[aq (Z ⟨g,0,I⟩)] w λe w' =>
  (∃(A:Option Addr) (n c:Nat),e=av (ae A n c))/\iG w' g (M.lp 60 [] (if d0.left.length=0 then d0.fail 2 else d0))/\cS (One g) w w':=by
 obtain⟨i0,hi,Tz,TA,TC⟩:=cY Mx;obtain⟨HI,TY,T8,T9,H0,l,HL⟩:=lV hi Tz TA TC (RS.start h) ok hl;clear hi Tz TA TC h ok hl;obtain⟨dd,Tl⟩:=dH (if d0.left.length=0 then d0.fail 2 else d0);rw[<-Tl];have P:=au Tl;clear Tl;go_enter func304,ntmps304;go_upto_if 7 with(go_big_may;go_at_call 53;refine(lr g d0 _ H0.O.rd).mono ?_;rintro e t ⟨rfl,e9⟩;subst e9)
 go_cut [] (λW=>RS t g W dd);case first =>
  by_cases hz:d0.left.length=0
  ·have Ua:((d0.left.length:Int)==0)=true:=by simp[hz]
   have HZ:=au hz;clear hz;go_wp2_with fail;refine(mP g d0 2 _ H0.O.rd).mono ?_;rintro e v6 ⟨rfl,R6,u6⟩;have S6:=au (H0.O.call R6 u6);clear R6 u6;go_wp2_with fail;go_meet;rw[P.O,if_pos HZ.O];exact S6.O
  ·have HZ:=au hz;have Ua:((d0.left.length:Int)==0)=false:=by rw[beq_eq_false_iff_ne];omega
   clear hz;go_wp2_with fail;go_meet;rw[P.O,if_neg HZ.O];exact H0.O
 case rest =>
  have TD:dd.Ok:=by
   rw[P.O];split
   ·exact l.O.fail 2
   ·exact l.O
  have TE:dd.left.length<=200:=by
   rw[P.O];split
   ·exact aP (M.se _ _) HL.O
   ·exact HL.O
  obtain⟨HC,Tf,TF⟩:=bU hcut TD TE;clear hcut TD TE H0 l HL;go_wp2_with fail;go_loopw [3] (λv wr=>∃(L:List Int) (f:Nat) (d:M.Rd),RS t g wr d/\d.Ok/\d.left.length<=4*f/\L.length+17*f<=1020/\M.lp 60 [] dd=M.lp f L d/\wr.ownsRow t.heap.size 42 1 v L.length (L.map (J aN))/\∀y∈L,0<=y/\y<=65535) (λ_ wr=>wh wr (aq (Z ⟨g,0,I⟩)));case atStart=>exact⟨[],60,dd,HC.O,Tf.O,by have:=TF.O;omega,dt,rfl,⟨rfl,.inl ⟨rfl,rfl⟩⟩,λy hy=>absurd hy dt⟩
  case round =>
   clear HC Tf TF;obtain⟨L,f,d,S,ok,hf,hlen,heq,own,TG⟩:=hrel;obtain⟨A5,c5,rfl⟩:=bA own;obtain⟨HS,l,HF,TH,HO,Ub⟩:=lH S ok hf heq own TG;clear S ok hf heq own TG;by_cases TI:0<d.left.length
   ·have Us:1<=f:=by have:=HF.O;omega
    obtain⟨f',rfl⟩:∃f',f=f'+1:=⟨f-1,z⟩;have Tm:=au TI;go_wp2_with (go_at_call 53;refine(lr g d _ HS.O.rd).mono ?_;rintro e w8 ⟨rfl,e8⟩;subst e8);refine(qH g d _ HS.O.rd).mono ?_;have q1:=ev HS.O.rd 2 z;obtain⟨⟨b,d1⟩,Tn⟩:∃p,p=M.Rd.num d 2:=⟨_,rfl⟩;rw[<-Tn]at q1 ⊢;have Q:=au Tn;simp only at q1;have Uc:0<=b/\b<=65535:=q1;obtain⟨TJ,TM⟩:=Uc;clear Tn q1;rintro e W1 ⟨rfl,R,u⟩;have O1:=HS.O.own HO.O u aR;have S1:=HS.O.call R u;obtain⟨B,TN⟩:=bu S1 O1;clear R u S1 O1;go_wp2_with fail;refine(qH g d1 _ B.O.rd).mono ?_;have q2:=ev B.O.rd 2 z;obtain⟨⟨m,d2⟩,To⟩:∃p,p=M.Rd.num d1 2:=⟨_,rfl⟩;rw[<-To]at q2 ⊢;have T:=au To;simp only at q2;have Ud:0<=m/\m<=65535:=q2;obtain⟨Ue,Uf⟩:=Ud;clear To q2;rintro e W2 ⟨rfl,R,u⟩;have O2:=B.O.own TN.O u aR;have S2:=B.O.call R u;obtain⟨Tp,TO⟩:=bu S2 O2;clear R u S2 O2 B TN;go_upto_region 6 with fail;obtain⟨r4,e4⟩:=dH W2.heap.size;rw[<-e4];have al:aC W2 (W2.alloc (.cells #[J aN b,J aN m] 483)):=(ao _ _).alloc (aj _) _;have g4:t.heap.size<=r4:=by have:=Tp.O.u.size;omega
    refine aW (λX=>RS t g X d2/\aK X r4 483 #[J aN b,J aN m]/\X.ownsRow t.heap.size 42 1 (ae A5 L.length c5) L.length (L.map (J aN))) ⟨Tp.O.alloc _,aK.newAt _ _ _ _ e4,du TO.O (.bn (F:=cr) al) (λi _ q=>q.elim)⟩ ?_;clear al e4 Tp TO;rintro X ⟨S3,B4,O3⟩;obtain⟨bad,a⟩:=dH (match L.getLast? with|some x=>decide (M.nx x b<=0)|none=>false);have C:=au a;have k0:=B4.cell 0;have k1:=B4.cell 1;simp at k0 k1;obtain⟨D,Tq,U⟩:=bU S3 B4 O3;clear S3 B4 a;go_cut [32] (λs W=>s=ai bad/\RS t g W d2/\aK W r4 483 #[J aN b,J aN m]/\W.ownsRow t.heap.size 42 1 (ae A5 L.length c5) L.length (L.map (J aN)));case first =>
     by_cases hL:0<L.length
     ·obtain⟨r9,Up,e9,Uq⟩:∃r cap,(ae A5 L.length c5)=ae (Z ⟨r,0,I⟩) L.length cap/\L.length<=cap:=by
       rcases O3.2 with⟨e,e'⟩ | ⟨r,cap,dx,e,_,_,q1,_⟩
       ·omega
       ·exact⟨r,cap,e,q1⟩
      injection e9 with e9 Ut Ug
      subst e9 Ug;have kl:=O3.cellAt (L.length-1) z;obtain⟨y,hy⟩:∃y,L[L.length-1]? = Z y:=⟨_,ay z⟩;rw[List.getElem?_map,hy]at kl;have E:L.getLast? = Z y:=by rw[List.getLast?_eq_getElem?];exact hy
      have a:=C.O;rw[E]at a;simp only at a;simp only[Option.map_some]at kl;have Uu:((L.length:Int)-1).toNat=L.length-1:=z;have Uh:decide (0<L.length)=true:=decide_eq_true hL;have TP:decide (0<M.nx y b)=!bad:=by
       rw[a];by_cases ha:M.nx y b<=0
       ·rw[decide_eq_true ha,decide_eq_false z];rfl
       ·rw[decide_eq_false ha,decide_eq_true z];rfl
      have Ui:=au TP;have Tg:∀W,aF af 326 #[J aN y,J aN b] W λe w'=>e=av (ai (!bad))/\w'=W:=λW=>by have:=NS y b W;rw[Ui.O]at this;exact this
      have TQ:=au Tg;have Ts:=U.O.1;clear a TP Tg hy E O3 Ts;go_quiet ((go_at_call 326;exact Calls.quiet_of_same (TQ.O _)));go_wp2_with fail;go_meet;exact⟨dt,⟨D.O.rd,D.O.u.drewN _⟩,Tq.O,U.O⟩
     ·have Tt:L=[]:=List.length_eq_zero_iff.1 z;have a:=C.O;rw[Tt]at a;simp at a;have Uj:=au a;have Uh:decide (0<L.length)=false:=decide_eq_false hL;have Tm:=au Tt;clear Tt a O3;go_quiet (fail);go_wp2_with fail;go_meet;exact⟨by rw[Uj.O],⟨D.O.rd,D.O.u.drewN _⟩,Tq.O,U.O⟩
    case rest =>
     obtain⟨rfl,S4,B4,O4⟩:=hcut;obtain⟨o,Tu,Tv⟩:=bU S4 B4 O4;clear S4 B4 O4 O3 D Tq U k0 k1;go_upto_if 32 with fail;go_cut [] (λW=>RS t g W (if bad then d2.fail 2 else d2)/\aK W r4 483 #[J aN b,J aN m]/\W.ownsRow t.heap.size 42 1 (ae A5 L.length c5) L.length (L.map (J aN)));case first =>
      cases bad with
      |false =>
       go_wp2_with fail;go_meet;exact⟨o.O,Tu.O,Tv.O⟩
      |true =>
       go_wp2_with fail;refine(mP g d2 2 _ o.O.rd).mono ?_;rintro e v6 ⟨rfl,R6,u6⟩;obtain⟨S6,B6,O6⟩:=bU (o.O.call R6 u6) (o.O.cw Tu.O aR u6) (o.O.own Tv.O u6 aR);clear R6 u6;go_wp2_with fail;go_meet;exact⟨S6.O,B6.O,O6.O⟩
     case rest =>
      obtain⟨S5,B5,O5⟩:=hcut;have k0:=B5.cell 0;have k1:=B5.cell 1;simp at k0 k1;obtain⟨d3,Tw⟩:=dH (if bad then d2.fail 2 else d2);rw[<-Tw]at S5;obtain⟨Y,TR,TS⟩:=bU Tw S5 O5;clear S5 B5 O5 Tw o Tu Tv;go_wp2_with fail;refine(LR b m _ ⟨TJ,TM⟩ ⟨Ue,Uf⟩).mono ?_;have Uk:(M.lq b m).length<=17:=zD b m 16;have Tx:∀y∈M.lq b m,0<=y/\y<=65535:=by
       intro y hy;unfold M.lq at hy;rcases List.mem_cons.1 hy with rfl|hy
       ·exact⟨TJ,TM⟩
       ·obtain⟨k,_,hk⟩:=List.mem_filterMap.1 hy;split at hk
        ·simp at hk;omega
        ·cases hk
      have Ul:1<=(M.lq b m).length:=by unfold M.lq;simp
      obtain⟨ml,G⟩:=dH (M.lq b m);rw[<-G]at Uk Tx Ul ⊢;obtain⟨TT,Um⟩:=bu G Tx;clear G Tx;rintro e W6 ⟨⟨AM,cm,rfl,H⟩,b6⟩;have S6:=TR.O.below b6;have O6:=du TS.O (.bn (F:=cr) b6) (λi _ q=>q.elim);obtain⟨rM,Ur,eM⟩:∃r cap,AM=Z ⟨r,0,I⟩/\ml.length<=cap:=by
       rcases H.2 with⟨e,e'⟩ | ⟨r,cap,dx,e,_,_,q1,_⟩
       ·omega
       ·injection e with e _ _;exact⟨r,cap,e,q1⟩
      obtain⟨rfl,-⟩:=eM;have K:∀j u,(ml.map (J aN))[j]? = Z u->W6.cell? ((⟨rM,0,I⟩:Addr).add j)=Z u:=λj u hu=>by
       have hj:j<ml.length*1:=by
        have:=(List.getElem?_eq_some_iff.1 hu).1;simpa using this
       have e:=H.cellAt j hj;rw[hu]at e;rw[add_lit,Nat.zero_add];exact e
      obtain⟨TV,Ty,N⟩:=bU S6 O6 K;have Uv:=S6.u.size;clear S6 O6 H b6 K TR TS k0 k1;go_wp2_with (at_builtin;go_loud (refine dM _ rfl _ _ 275 rfl t.heap.size 42 i0 (J aN 0) 1 2 underlying275 HI.O TY.O T8.O T9.O rfl aR _ _ _ rfl Ty.O ⟨rM,0,I⟩ ml.length cm (ml.map (J aN)) rfl dt N.O uQ ?c3 ?c4 ?c5 ?_));case c3=>unfold maxLen;omega
      case c4=>omega
      case c5=>omega
      intro v7 W7 Ti g7 _;have S7:=TV.O.grown Ty.O (aj _) g7 aR aR;have Tj:W7.ownsRow t.heap.size 42 1 v7 (L++ml).length ((L++ml).map (J aN)):=by simpa using Ti
      obtain⟨TW,Un⟩:=bu S7 Tj;clear S7 Tj Ti g7 TV Ty N;go_wp2_with fail;go_roundw;case rel =>
       have o1:=l.O.num 2;rw[<-Q.O]at o1;have o2:=o1.num 2;simp only at o2;rw[<-T.O]at o2;have n1:=M.jn l.O (s:=2) z;rw[<-Q.O]at n1;simp only at n1 o1;have n2:=M.jn o1 (s:=2) z;rw[<-T.O]at n2;simp only at n2 o2;have o3:d3.Ok:=by
        rw[Y.O];split
        ·exact o2.fail 2
        ·exact o2
       have n3:d3.left.length<=d2.left.length:=by
        rw[Y.O];split
        ·exact M.se _ _
        ·exact aj _
       refine⟨L++ml,f',d3,TW.O,o3,by have:=HF.O;omega,dZ,?_,Un.O,?_⟩
       ·rw[TH.O,Ap f' L d b m d1 d2 Tm.O Q.O.symm T.O.symm,<-TT.O,Y.O,C.O];congr 1;cases L.getLast? with
        |none=>rfl
        |some Uo =>
         show(if M.nx Uo b<=0 then d2.fail 2 else d2)=(if decide (M.nx Uo b<=0)=true then d2.fail 2 else d2);by_cases ha:M.nx Uo b<=0<;>simp[ha]
       ·intro y hy;rcases List.mem_append.1 hy with q|q
        ·exact Ub.O y q
        ·exact Um.O y q
      case measure =>
       have n1:=M.jn l.O (s:=2) z;have n2:=M.uR d1 2;rw[<-Q.O]at n1;rw[<-T.O]at n2;simp only at n1 n2;have n3:d3.left.length<=d2.left.length:=by
        rw[Y.O];split
        ·exact M.se _ _
        ·exact aj _
       rw[TW.O.rd.len,HS.O.rd.len];have:=Tm.O;omega
   ·have Tk:M.lp f L d=d:=by
     cases f with
     |zero=>rfl
     |succ f=>rw[M.lp,if_neg TI]
    have TX:=au Tk;clear Tk;go_wp2_with (go_at_call 53;refine(lr g d _ HS.O.rd).mono ?_;rintro e w8 ⟨rfl,e8⟩;subst e8);go_ret;have e1:M.lp 60 [] dd=d:=by rw[TH.O,TX.O]
    rw[e1];exact⟨⟨_,_,_,rfl⟩,HS.O.rd,HS.O.u⟩
def xA(w:aw):aF af 322 #[J V 1] w λe w'=>e=av (aB #[J bI 206,J bI 1])/\w'=w:=by
 go_enter func322,ntmps322;go_wp2_with fail;go_ret2;exact⟨rfl,rfl⟩
def xz(w:aw):aF af 322 #[J V 2] w λe w'=>e=av (aB #[J bI 206,J bI 4])/\w'=w:=by
 go_enter func322,ntmps322;go_wp2_with fail;go_ret2;exact⟨rfl,rfl⟩
def xy(w:aw):aF af 322 #[J V 3] w λe w'=>e=av (aB #[J bI 205,J bI 1])/\w'=w:=by
 go_enter func322,ntmps322;go_wp2_with fail;go_ret2;exact⟨rfl,rfl⟩
def Gw(count type:Int)(A:Option Addr)(n c:Nat)(xs:M.cQ)(w:aw) :
  aF af 302 #[cg #[J bI count,J bI type,ae A n c]] w λe w'=>e=av (J V (M.kindOf ⟨count,type,xs⟩))/\aC w w':=by
 obtain⟨K,t⟩:=dH (M.kindOf ⟨count,type,xs⟩);rw[<-t];have p:=au (show K=if type=206/\count=1 then 1 else if type=206/\count=4 then 2 else if type=205/\count=1 then 3 else 0 from t);clear t;go_enter func302,ntmps302;go_upto_region 2 with fail;obtain⟨r1,u⟩:=dH w.heap.size;obtain⟨r7,v⟩:=dH (w.heap.size+1);rw[<-v,<-u];refine aW (λX=>aK X r1 286 #[J bI count,J bI type,ae A n c]/\aK X r7 3 #[J V 1,J V 2,J V 3]/\aC w X) ⟨(aK.newAt _ _ _ _ u).alloc _,aK.newAt _ _ _ _ (by simp[v]),((ao _ w).alloc (aj _) _).alloc dt _⟩ ?_;clear u v;rintro X ⟨b1,b7,x⟩;obtain⟨o,m,r⟩:=bU b1 b7 x;clear b1 b7 x;go_loopw [4,5,6,9] (λ_ _ _ i wr=>∃k:Nat,i=J V k/\k<=3/\(1<=k->¬(type=206/\count=1))/\(2<=k->¬(type=206/\count=4))/\(3<=k->¬(type=205/\count=1))/\wr=X) (λ_ _ _ i _=>3-(bS i).toNat);case atStart=>exact⟨0,rfl,z,λh=>z,λh=>z,λh=>z,rfl⟩
 case round =>
  obtain⟨k,rfl,C,h1,h2,h3,rfl⟩:=hrel;obtain⟨H1,s,y⟩:=bU h1 h2 h3;clear h1 h2 h3;have B:=o.O.cell 0;have c1:=o.O.cell 1;have j0:=m.O.cell 0;have j1:=m.O.cell 1;have j2:=m.O.cell 2;simp at B c1 j0 j1 j2;rcases k with _|_|_|_|k
  ·by_cases ht:type=206
   ·have d:(type==206)=true:=by simp[ht]
    have f:=au ht;clear ht;by_cases a:count=1
    ·have g:(count==1)=true:=by simp[a]
     have j:=au a;clear a;go_wp2_with (go_at_call 322;refine(xA _).mono ?_;rintro e l ⟨rfl,b⟩;subst b);go_ret;exact⟨by rw[p.O,if_pos ⟨f.O,j.O⟩];first|rfl|simp,r.O⟩
    ·have g:(count==1)=false:=by simpa using a
     have j:=au a;clear a;go_wp2_with (go_at_call 322;refine(xA _).mono ?_;rintro e l ⟨rfl,b⟩;subst b);go_roundw;case rel=>exact⟨1,by go_num,z,λh=>λq=>j.O q.2,λh=>z,λh=>z,(by first|rfl|trivial)⟩
     case measure=>simp[bS]
   ·have d:(type==206)=false:=by simpa using ht
    have f:=au ht;clear ht;go_wp2_with (go_at_call 322;refine(xA _).mono ?_;rintro e l ⟨rfl,b⟩;subst b);go_roundw;case rel=>exact⟨1,by go_num,z,λh=>λq=>f.O q.1,λh=>z,λh=>z,(by first|rfl|trivial)⟩
    case measure=>simp[bS]
  ·by_cases ht:type=206
   ·have d:(type==206)=true:=by simp[ht]
    have f:=au ht;clear ht;by_cases a:count=4
    ·have g:(count==4)=true:=by simp[a]
     have j:=au a;clear a;go_wp2_with (go_at_call 322;refine(xz _).mono ?_;rintro e l ⟨rfl,b⟩;subst b);go_ret;exact⟨by rw[p.O,if_neg (H1.O z),if_pos ⟨f.O,j.O⟩];first|rfl|simp,r.O⟩
    ·have g:(count==4)=false:=by simpa using a
     have j:=au a;clear a;go_wp2_with (go_at_call 322;refine(xz _).mono ?_;rintro e l ⟨rfl,b⟩;subst b);go_roundw;case rel=>exact⟨2,by go_num,z,λh=>H1.O z,λh=>λq=>j.O q.2,λh=>z,(by first|rfl|trivial)⟩
     case measure=>simp[bS]
   ·have d:(type==206)=false:=by simpa using ht
    have f:=au ht;clear ht;go_wp2_with (go_at_call 322;refine(xz _).mono ?_;rintro e l ⟨rfl,b⟩;subst b);go_roundw;case rel=>exact⟨2,by go_num,z,λh=>H1.O z,λh=>λq=>f.O q.1,λh=>z,(by first|rfl|trivial)⟩
    case measure=>simp[bS]
  ·by_cases ht:type=205
   ·have d:(type==205)=true:=by simp[ht]
    have f:=au ht;clear ht;by_cases a:count=1
    ·have g:(count==1)=true:=by simp[a]
     have j:=au a;clear a;go_wp2_with (go_at_call 322;refine(xy _).mono ?_;rintro e l ⟨rfl,b⟩;subst b);go_ret;exact⟨by rw[p.O,if_neg (H1.O z),if_neg (s.O z),if_pos ⟨f.O,j.O⟩];first|rfl|simp,r.O⟩
    ·have g:(count==1)=false:=by simpa using a
     have j:=au a;clear a;go_wp2_with (go_at_call 322;refine(xy _).mono ?_;rintro e l ⟨rfl,b⟩;subst b);go_roundw;case rel=>exact⟨3,by go_num,z,λh=>H1.O z,λh=>s.O z,λh=>λq=>j.O q.2,(by first|rfl|trivial)⟩
     case measure=>simp[bS]
   ·have d:(type==205)=false:=by simpa using ht
    have f:=au ht;clear ht;go_wp2_with (go_at_call 322;refine(xy _).mono ?_;rintro e l ⟨rfl,b⟩;subst b);go_roundw;case rel=>exact⟨3,by go_num,z,λh=>H1.O z,λh=>s.O z,λh=>λq=>f.O q.1,(by first|rfl|trivial)⟩
    case measure=>simp[bS]
  ·go_wp2_with fail;go_ret;exact⟨by rw[p.O,if_neg (H1.O z),if_neg (s.O z),if_neg (y.O z)];rfl,r.O⟩
  ·omega
def BC(A:Option Addr)(n c:Nat)(l:List Int)(w:aw)(r:l.length=n)(s:0<n->∃b,A=Z ⟨b,0,I⟩/\∀i,i<n->w.cell? ⟨b,i,I⟩=Z (J V (l.getD i 0)))(v:n<=c)(h:c<=maxLen) :
  aF af 227 #[ae A n c] w λe w'=>e=av (J V (M.nj l))/\w'=w:=by
 unfold maxLen at h;have key:∀(k:Nat) (m:List Int),(∀i,i<k->m.getD i 0=0)->k<=m.length->M.nj m=M.nj (m.drop k):=by
  intro k;induction k with
  |zero=>intro m _ _;rfl
  |succ k x =>
   intro m h1 h2;cases m with
   |nil=>simp at h2
   |cons e m =>
    have h0:=h1 0 z;simp at h0;subst h0;rw[M.nj,if_neg dt,List.drop_succ_cons];exact x m (λi hi=>by have:=h1 (i+1) z;simpa using this) (by simpa using h2)
 obtain⟨B,g,f⟩:=bU s r key;clear s r key;go_enter func227,ntmps227;go_wp2_with fail;go_loopw [4,7] (λ_ i wr=>∃k:Nat,i=J V k/\k<=n/\(∀j,j<k->l.getD j 0=0)/\wr=w) (λ_ i _=>n-(bS i).toNat);case atStart=>exact⟨0,rfl,z,λj C=>z,rfl⟩
 case round =>
  obtain⟨k,rfl,H,t,rfl⟩:=hrel;have o:=au t;clear t;by_cases p:k<n
  ·obtain⟨b,rfl,a⟩:=B.O z;have D:=a k p;obtain⟨y,hy⟩:=dH (l.getD k 0);rw[<-hy]at D;have u:=au hy;clear a hy;by_cases d:y=0
   ·subst d;go_wp2_with fail;go_roundw;case rel =>
     refine⟨k+1,by go_num,z,λj C=>?_,(by first|rfl|trivial)⟩;by_cases e:j=k
     ·rw[e];exact u.O.symm
     ·exact o.O j z
    case measure=>simp[bS];omega
   ·have E:(y !=0)=true:=by simpa using d
    have q:=au d;clear d;go_wp2_with fail;go_ret;refine⟨?_,by first|rfl|trivial⟩;rw[f.O k l o.O (lE g.O)];have hlen:k<l.length:=by have:=g.O;omega
    rw[iz hlen,M.nj];have F:l[k]=y:=by rw[u.O,List.getD_eq_getElem?_getD,ay hlen];rfl
    rw[F,if_pos q.O];rfl
  ·go_wp2_with fail;go_ret;refine⟨?_,by first|rfl|trivial⟩;have G:k=n:=z;rw[f.O k l o.O (lE g.O),List.drop_of_length_le (lE g.O)];rfl
def Gv(c:M.Chunk):M.kindOf c=0\/M.kindOf c=1\/M.kindOf c=2\/M.kindOf c=3:=by
 unfold M.kindOf;by_cases h1:c.type=206/\c.count=1
 ·simp[h1]
 ·by_cases h2:c.type=206/\c.count=4
  ·simp[h2]
  ·by_cases h3:c.type=205/\c.count=1<;>simp[h1,h2,h3]
def mU(w:aw)(b:M.Sk×Int)(e:rJ)(w':aw):Prop:=
 (∃(s:Int) (v:Value) (u:Sl) (q:List (List Value)),e=av (aB #[cg #[J V b.1.kind,J ar s,J ar b.1.zA,v,ae u.a u.n u.c],J V b.2])/\w'.ownsRow w.heap.size 396 2 v b.1.dJ.length q.flatten/\Fit BQ b.1.dJ q/\b.1.dJ.length<=30/\(Lit.int ar b.1.zA).wf=true)/\aC w w'
def mU.zero{w w':aw}{err:Int}{e:rJ}(b:aC w w')(he:e=av (aB #[cg #[J V 0,J ar 0,J ar 0,ae I 0 0,ae I 0 0],J V err])):mU w (⟨0,0,[]⟩,err) e w':=by
 refine⟨⟨0,ae I 0 0,.nil,[],he,⟨rfl,.inl ⟨rfl,rfl⟩⟩,trivial,dt,by rfl⟩,b⟩
def mU.full{w w':aw}(k s x:Int)(v:Value)(u:Sl)(d:List Int)(q:List (List Value))(own:w'.ownsRow w.heap.size 396 2 v d.length q.flatten)(fit:Fit BQ d q)(l:d.length<=30)(wf:(Lit.int ar x).wf=true)(b:aC w w'):mU w (⟨k,x,d⟩,0) (av (aB #[cg #[J V k,J ar s,J ar x,v,ae u.a u.n u.c],J V 0])) w':=
 ⟨⟨s,v,u,q,rfl,own,fit,l,wf⟩,b⟩
def Jj{c:M.Chunk}{b a:Int}{d1 d2:M.Rd}(hr:c.right=true)(d:M.kindOf c=1)(h1:M.Rd.num ⟨c.body,0⟩ 4=(b,d1))(h2:d1.num 4=(a,d2)):M.nu c=if d2.end_≠0 then(⟨0,0,[]⟩,d2.end_) else(⟨1,a,[]⟩,0):=by
 unfold M.nu;simp[hr,d,h1,h2]
def Ji{c:M.Chunk}{d b:Int}{d1 d2:M.Rd}(hr:c.right=true)(e:M.kindOf c=2)(h1:M.Rd.num ⟨c.body,0⟩ 4=(d,d1))(h2:d1.num 4=(b,d2))(a:M.Rd)(f:a=if b≠0\/d2.left.length=0\/d2.left.length % 8≠0 then d2.fail 2 else d2):M.nu c=if(M.iE 30 a).2.end_≠0 then(⟨0,0,[]⟩,(M.iE 30 a).2.end_) else(⟨2,b,(M.iE 30 a).1⟩,0):=by
 subst f;unfold M.nu;simp only[hr,e,h1,h2];simp
def Jh{c:M.Chunk}{d b:Int}{d1 d2:M.Rd}(hr:c.right=true)(e:M.kindOf c=3)(h1:M.Rd.num ⟨c.body,0⟩ 4=(d,d1))(h2:d1.num 4=(b,d2))(a:M.Rd)(f:a=M.lp 60 [] (if d2.left.length=0 then d2.fail 2 else d2)):M.nu c=if a.end_≠0 then(⟨0,0,[]⟩,a.end_) else(⟨3,b,[]⟩,0):=by
 subst f;unfold M.nu;simp only[hr,e,h1,h2];simp
def MI(count type:Int)(b:Sl)(xs:M.cQ)(w:aw)(E:b.B w xs)(hn:b.n<=200)(hc:0<=count/\count<=31) :
  aF af 274 #[cg #[J bI count,J bI type,ae b.a b.n b.c]] w (mU w (M.nu ⟨count,type,xs⟩)):=by
 obtain⟨me,o⟩:=dH (M.nu ⟨count,type,xs⟩);rw[<-o];obtain⟨rg,TH⟩:=dH (M.Chunk.right ⟨count,type,xs⟩);obtain⟨kd,Tv⟩:=dH (M.kindOf ⟨count,type,xs⟩);have Tw:=Gv ⟨count,type,xs⟩;rw[<-Tv]at Tw;obtain⟨W,Tf,N,Tk,TT⟩:=gY o TH E Tv Tw;have hlen:=E.tl.len;obtain⟨Tq,HN,HC⟩:=bU hlen hn hc;clear E hlen o TH Tv Tw hn hc;go_enter func274,ntmps274;go_upto_region 1 with fail;obtain⟨r1,e1⟩:=dH w.heap.size;obtain⟨r2,e2⟩:=dH (w.heap.size+1);rw[<-e2,<-e1];have g2:w.heap.size<=r2:=z;have Ua:r1≠r2:=z;have al:aC w ((w.alloc (.cells #[J bI count,J bI type,ae b.a b.n b.c] 286)).alloc (.cells #[J V 0,J ar 0,J ar 0,ae I 0 0,ae I 0 0] 277)):=((ao _ w).alloc (aj _) _).alloc dt _;refine aW (λX=>aK X r1 286 #[J bI count,J bI type,ae b.a b.n b.c]/\aK X r2 277 #[J V 0,J ar 0,J ar 0,ae I 0 0,ae I 0 0]/\b.B X xs/\aC w X) ⟨(aK.newAt _ _ _ _ e1).alloc _,aK.newAt _ _ _ _ (by simp[e2]),N.O.below al,al⟩ ?_;clear e1 e2 al N;rintro X ⟨b1,b2,E,fN⟩;have k0:=b1.cell 0;have k1:=b1.cell 1;have k2:=b1.cell 2;simp at k0 k1 k2;have Tx:=rj count type b.a b.n b.c xs X Tq.O (lE HN.O);rw[<-Tf.O]at Tx;obtain⟨Ty,F,d,N,m⟩:=gY Tx b1 b2 E fN;clear Tx b1 b2 E fN;cases rg with
 |false =>
  have he:me=(⟨0,0,[]⟩,1):=by rw[W.O];unfold M.nu;rw[<-Tf.O];rfl
  subst he;go_upto_region 2 with(go_big_may;go_at_call 259;refine Ty.O.mono ?_;rintro e w1 ⟨rfl,bw⟩;have r:=au bw;clear bw)
  have k:=au (d.O.kept r.O);have b2:=k.O;have j0:=b2.cell 0;have f0:=b2.frozen 0;have j1:=b2.cell 1;have f1:=b2.frozen 1;have j2:=b2.cell 2;have f2:=b2.frozen 2;have j3:=b2.cell 3;have f3:=b2.frozen 3;have j4:=b2.cell 4;have f4:=b2.frozen 4;have x:=b2;have y:=x.bC 0 (J V 0);have A:=y.bC 1 (J ar 0);have C:=A.bC 2 (J ar 0);have D:=C.bC 3 (ae I 0 0);have h:=D.bC 4 (ae I 0 0);have z0:=h.cell 0;have G:=h.cell 1;have z2:=h.cell 2;have z3:=h.cell 3;have z4:=h.cell 4;simp at j0 z0 j1 G j2 z2 j3 z3 j4 z4;clear b2 x y A C D h;go_wp2_with fail;refine ax (v:=aB #[cg #[J V 0,J ar 0,J ar 0,ae I 0 0,ae I 0 0],J V 1]) (by simp[aV,results274,go_sem,z0,G,z2,z3,z4]) rfl (mU.zero ?_ rfl);exact(((((m.O.trans (r.O.mono m.O.size)).setCell (p:=⟨r2,0,I⟩) g2 (J V 0)).setCell (p:=⟨r2,1,I⟩) g2 (J ar 0)).setCell (p:=⟨r2,2,I⟩) g2 (J ar 0)).setCell (p:=⟨r2,3,I⟩) g2 (ae I 0 0)).setCell (p:=⟨r2,4,I⟩) g2 (ae I 0 0)
 |true =>
  go_upto_region 3 with(go_big_may;go_at_call 259;refine Ty.O.mono ?_;rintro e w1 ⟨rfl,bw⟩;have r:=au bw;clear bw)
  refine aW (λY=>aK Y r1 286 #[J bI count,J bI type,ae b.a b.n b.c]/\aK Y r2 277 #[J V 0,J ar 0,J ar 0,ae I 0 0,ae I 0 0]/\b.B Y xs/\aC w Y) ⟨F.O.kept r.O,d.O.kept r.O,N.O.below r.O,m.O.trans (r.O.mono m.O.size)⟩ ?_;clear Ty F d N m r k0 k1 k2 X;rintro X ⟨b1,b2,E,fN⟩;have k0:=b1.cell 0;have k1:=b1.cell 1;have k2:=b1.cell 2;simp at k0 k1 k2;have Tz:=Gw count type b.a b.n b.c xs X;rw[<-Tk.O]at Tz;obtain⟨TI,F,d,N,m⟩:=gY Tz b1 b2 E fN;clear b1 b2 E fN Tz;go_upto_region 4 with(go_big_may;go_at_call 302;refine TI.O.mono ?_;rintro e w1 ⟨rfl,bw⟩;have r:=au bw;clear bw)
  obtain⟨r4,e4⟩:=dH w1.heap.size;rw[<-e4];have g4:w.heap.size<=r4:=by have:=m.O.size;have:=r.O.size;omega
  have al:aC X (w1.alloc (.cells #[J V kd,J ar 0,J ar 0,ae I 0 0,ae I 0 0] 277)):=r.O.alloc r.O.size _;have Ub:r1≠r4:=by have:=(F.O.kept r.O).lt;omega
  have n24:r2≠r4:=by have:=(d.O.kept r.O).lt;omega
  refine aW (λY=>aK Y r4 277 #[J V kd,J ar 0,J ar 0,ae I 0 0,ae I 0 0]/\aK Y r1 286 #[J bI count,J bI type,ae b.a b.n b.c]/\aK Y r2 277 #[J V 0,J ar 0,J ar 0,ae I 0 0,ae I 0 0]/\b.B Y xs/\aC w Y) ⟨aK.newAt _ _ _ _ e4,F.O.kept al,d.O.kept al,N.O.below al,m.O.trans (al.mono m.O.size)⟩ ?_;clear e4 al F d N m r TI k0 k1 k2 X;rintro X ⟨b4,b1,b2,E,fN⟩;have k2:=b1.cell 2;have m0:=b4.cell 0;simp at k2 m0;by_cases To:kd=0
  ·have he:me=(⟨0,0,[]⟩,5):=by rw[W.O];unfold M.nu;rw[<-Tf.O,<-Tk.O,To];rfl
   subst he;subst To;obtain⟨d,m⟩:=bu b2 fN;clear b1 b2 b4 E fN k2;go_upto_region 5 with fail;have b2:=d.O;have j0:=b2.cell 0;have f0:=b2.frozen 0;have j1:=b2.cell 1;have f1:=b2.frozen 1;have j2:=b2.cell 2;have f2:=b2.frozen 2;have j3:=b2.cell 3;have f3:=b2.frozen 3;have j4:=b2.cell 4;have f4:=b2.frozen 4;have x:=b2;have y:=x.bC 0 (J V 0);have A:=y.bC 1 (J ar 0);have C:=A.bC 2 (J ar 0);have D:=C.bC 3 (ae I 0 0);have h:=D.bC 4 (ae I 0 0);have z0:=h.cell 0;have G:=h.cell 1;have z2:=h.cell 2;have z3:=h.cell 3;have z4:=h.cell 4;simp at j0 z0 j1 G j2 z2 j3 z3 j4 z4;clear b2 x y A C D h;go_wp2_with fail;refine ax (v:=aB #[cg #[J V 0,J ar 0,J ar 0,ae I 0 0,ae I 0 0],J V 5]) (by simp[aV,results274,go_sem,z0,G,z2,z3,z4]) rfl (mU.zero ?_ rfl);exact(((((m.O).setCell (p:=⟨r2,0,I⟩) g2 (J V 0)).setCell (p:=⟨r2,1,I⟩) g2 (J ar 0)).setCell (p:=⟨r2,2,I⟩) g2 (J ar 0)).setCell (p:=⟨r2,3,I⟩) g2 (ae I 0 0)).setCell (p:=⟨r2,4,I⟩) g2 (ae I 0 0)
  ·have Uc:(kd==0)=false:=by simpa using To
   obtain⟨TJ,F,d,f,m⟩:=gY (wz b.a b.n b.c xs X E.tl (lE HN.O) E.zero) b1 b2 b4 fN;clear b1 b2 b4 E fN;go_wp2_with fail;refine TJ.O.mono ?_;rintro e w1 ⟨⟨g,rfl,hg,hR⟩,bw⟩;obtain⟨Ts,k,j,l⟩:=cA (F.O.kept bw) (d.O.kept bw) (f.O.kept bw) (⟨hR,.bn (m.O.trans (bw.mono m.O.size))⟩:RS w g w1 ⟨xs,0⟩);have TA:w.heap.size<=g:=aP m.O.size hg;clear bw hR F d f m TJ k2 m0 X hg;go_wp2_with fail;refine(kK g _ _ l.O.rd).mono ?_;obtain⟨⟨H,d1⟩,Tl⟩:∃p,p=M.Rd.num ⟨xs,0⟩ 4:=⟨_,rfl⟩;have TC:d1.Ok:=by have:=(M.Rd.Ok.new xs).num 4;rw[<-Tl]at this;exact this
   have TV:d1.left.length<=200:=by have:=M.jn (M.Rd.Ok.new xs) (s:=4) z;rw[<-Tl]at this;have h1:=HN.O;have h2:=Tq.O;simp at this;omega
   rw[<-Tl];have TD:=au Tl;clear Tl;rintro e W1 ⟨rfl,R,u⟩;have S1:=au (l.O.call R u);have b1:=l.O.cw Ts.O aR u;have b2:=l.O.cw k.O aR u;have b4:=l.O.cw j.O aR u;have m1:=b4.cell 1;have n1:=b4.frozen 1;simp at m1;obtain⟨F,d,f⟩:=bU b1 b2 b4;clear b1 b2 b4 R u l Ts k j;go_upto_region 8 with fail;refine aW (λY=>RS w g Y d1/\aK Y r2 277 #[J V 0,J ar 0,J ar 0,ae I 0 0,ae I 0 0]/\aK Y r4 277 #[J V kd,J ar H,J ar 0,ae I 0 0,ae I 0 0]) ⟨S1.O.set f.O aR aR g4 1 _,d.O.dS (p:=⟨r4,1,I⟩) n24 _,by simpa using f.O.bC 1 (J ar H)⟩ ?_;clear S1 F d f m1 n1 W1;rintro Y ⟨S1,b2,b4⟩;obtain⟨⟨t,d2⟩,Tg⟩:∃p,p=M.Rd.num d1 4:=⟨_,rfl⟩;have P:(Lit.int ar t).wf=true:=by have:=ev S1.rd 4 z;rw[<-Tg]at this;exact Ca this
   have TM:d2.Ok:=by have:=TC.num 4;rw[<-Tg]at this;exact this
   have TN:d2.left.length<=200:=by have:=M.jn TC (s:=4) z;rw[<-Tg]at this;simp at this;omega
   obtain⟨TE,Ti,Tm,TF,l,k,j⟩:=lV P TM TN Tg S1 b2 b4;clear S1 b2 b4 P TC TM TV TN;go_wp2_with fail;refine(kK g _ _ l.O.rd).mono ?_;rw[<-Tg];clear Tg;rintro e W2 ⟨rfl,R,u⟩;have S1:=au (l.O.call R u);have b2:=l.O.cw k.O aR u;have b4:=l.O.cw j.O aR u;have m1:=b4.cell 2;have n1:=b4.frozen 2;simp at m1;obtain⟨d,f⟩:=bu b2 b4;clear b2 b4 R u l k j Y;go_upto_region 9 with fail;refine aW (λY=>RS w g Y d2/\aK Y r2 277 #[J V 0,J ar 0,J ar 0,ae I 0 0,ae I 0 0]/\aK Y r4 277 #[J V kd,J ar H,J ar t,ae I 0 0,ae I 0 0]) ⟨S1.O.set f.O aR aR g4 2 _,d.O.dS (p:=⟨r4,2,I⟩) n24 _,by simpa using f.O.bC 2 (J ar t)⟩ ?_;clear S1 d f m1 n1 W2;rintro Y ⟨S1,b2,b4⟩;have m0:=b4.cell 0;have m2:=b4.cell 2;simp at m0 m2;obtain⟨l,d,f⟩:=bU S1 b2 b4;clear S1 b2 b4;rcases TT.O.resolve_left To with hk|hk|hk
   ·subst hk;have HM:=au (W.O.trans (Jj Tf.O.symm Tk.O.symm TD.O.symm TF.O.symm));have HS:=l;go_wp2_with fail;refine(qy g d2 _ HS.O.rd).mono ?_;rintro e w8 ⟨rfl,e8⟩;subst e8;have Q:=HS.O.u.below (aj _) (λi hi=>by cases hi;exact TA);by_cases he:d2.end_=0
    ·have o:me=(⟨1,t,[]⟩,0):=by rw[HM.O,if_neg (by simpa using he)]
     subst o;rw[he];clear he;have b4:=f.O;have p0:=b4.cell 0;have p1:=b4.cell 1;have p2:=b4.cell 2;have p3:=b4.cell 3;have p4:=b4.cell 4;simp at p0 p1 p2 p3 p4;have b2:=d.O;have j0:=b2.cell 0;have f0:=b2.frozen 0;have j1:=b2.cell 1;have f1:=b2.frozen 1;have j2:=b2.cell 2;have f2:=b2.frozen 2;have j3:=b2.cell 3;have f3:=b2.frozen 3;have j4:=b2.cell 4;have f4:=b2.frozen 4;have x:=b2;have y:=x.bC 0 (J V 1);have A:=y.bC 1 (J ar H);have C:=A.bC 2 (J ar t);have D:=C.bC 3 (ae I 0 0);have h:=D.bC 4 (ae I 0 0);have z0:=h.cell 0;have G:=h.cell 1;have z2:=h.cell 2;have z3:=h.cell 3;have z4:=h.cell 4;simp at j0 z0 j1 G j2 z2 j3 z3 j4 z4;clear b2 x y A C D h;go_wp2_with fail;refine ax (v:=aB #[cg #[J V 1,J ar H,J ar t,ae I 0 0,ae I 0 0],J V 0]) (by simp[aV,results274,go_sem,z0,G,z2,z3,z4]) rfl ?_;have P:=TE.O;refine mU.full (w:=w) 1 H t (ae I 0 0) .nil ([]) [] ⟨rfl,.inl ⟨rfl,rfl⟩⟩ trivial dt P ?_;exact(((((Q).setCell (p:=⟨r2,0,I⟩) g2 (J V 1)).setCell (p:=⟨r2,1,I⟩) g2 (J ar H)).setCell (p:=⟨r2,2,I⟩) g2 (J ar t)).setCell (p:=⟨r2,3,I⟩) g2 (ae I 0 0)).setCell (p:=⟨r2,4,I⟩) g2 (ae I 0 0)
    ·have TO:(d2.end_ !=0)=true:=by simpa using he
     have o:me=(⟨0,0,[]⟩,d2.end_):=by rw[HM.O,if_pos he]
     subst o;clear he;have b2:=d.O;have j0:=b2.cell 0;have f0:=b2.frozen 0;have j1:=b2.cell 1;have f1:=b2.frozen 1;have j2:=b2.cell 2;have f2:=b2.frozen 2;have j3:=b2.cell 3;have f3:=b2.frozen 3;have j4:=b2.cell 4;have f4:=b2.frozen 4;have x:=b2;have y:=x.bC 0 (J V 0);have A:=y.bC 1 (J ar 0);have C:=A.bC 2 (J ar 0);have D:=C.bC 3 (ae I 0 0);have h:=D.bC 4 (ae I 0 0);have z0:=h.cell 0;have G:=h.cell 1;have z2:=h.cell 2;have z3:=h.cell 3;have z4:=h.cell 4;simp at j0 z0 j1 G j2 z2 j3 z3 j4 z4;clear b2 x y A C D h;go_wp2_with fail;refine ax (v:=aB #[cg #[J V 0,J ar 0,J ar 0,ae I 0 0,ae I 0 0],J V d2.end_]) (by simp[aV,results274,go_sem,z0,G,z2,z3,z4]) rfl (mU.zero ?_ rfl);exact(((((Q).setCell (p:=⟨r2,0,I⟩) g2 (J V 0)).setCell (p:=⟨r2,1,I⟩) g2 (J ar 0)).setCell (p:=⟨r2,2,I⟩) g2 (J ar 0)).setCell (p:=⟨r2,3,I⟩) g2 (ae I 0 0)).setCell (p:=⟨r2,4,I⟩) g2 (ae I 0 0)
   ·subst hk;obtain⟨bad,Tn⟩:=dH ((decide (t≠0)||(decide (d2.left.length=0)||decide (d2.left.length % 8≠0))):Bool);obtain⟨S,L⟩:=dH (if bad=true then d2.fail 2 else d2);have HM:=au (W.O.trans (Ji Tf.O.symm Tk.O.symm TD.O.symm TF.O.symm S (by rw[L,Tn];simp)));have TP:S.Ok:=by rw[L];split;exact Ti.O.fail 2;exact Ti.O
    have TQ:S.left.length<=200:=by have:=Tm.O;have:=M.se d2 2;rw[L];split<;>omega
    obtain⟨U,TG,Tt,Tu⟩:=cA Tn L TP TQ;clear Tn L TP TQ;go_upto_region 11 with fail;go_cut [44] (λv wc=>v=ai bad/\RS w g wc d2/\aK wc r2 277 #[J V 0,J ar 0,J ar 0,ae I 0 0,ae I 0 0]/\aK wc r4 277 #[J V 2,J ar H,J ar t,ae I 0 0,ae I 0 0]);case first =>
     by_cases hx:t=0
     ·have TW:(t !=0)=false:=by simpa using hx
      by_cases hl:d2.left.length=0
      ·have TX:((d2.left.length:Int)==0)=true:=by simp[hl]
       have E:bad=true:=by rw[U.O];simp[hx,hl]
       have HB:=au E;clear hx hl E;go_wp2_with (go_at_call 53;refine(lr g d2 _ l.O.rd).mono ?_;rintro e w3 ⟨rfl,rfl⟩);go_meet;exact⟨by rw[HB.O],l.O,d.O,f.O⟩
      ·have TX:((d2.left.length:Int)==0)=false:=by simp;simpa using hl
       have E:bad=((d2.left.length:Int) % 8 !=0):=by rw[U.O,Bool.eq_iff_iff];simp[hx,hl];omega
       have HB:=au E;clear hx hl E;go_wp2_with (go_at_call 53;refine(lr g d2 _ l.O.rd).mono ?_;rintro e w3 ⟨rfl,rfl⟩);go_meet;exact⟨by rw[HB.O],l.O,d.O,f.O⟩
     ·have TW:(t !=0)=true:=by simpa using hx
      have E:bad=true:=by rw[U.O];simp[hx]
      have HB:=au E;clear hx E;go_wp2_with fail;go_meet;exact⟨by rw[HB.O],l.O,d.O,f.O⟩
    case rest =>
     obtain⟨rfl,Tj,b2,b4⟩:=hcut;clear l d f;obtain⟨l,d,f⟩:=bU Tj b2 b4;clear Tj b2 b4 m0 m2;go_upto_if 44 with fail;go_cut [] (λwd=>RS w g wd S/\aK wd r2 277 #[J V 0,J ar 0,J ar 0,ae I 0 0,ae I 0 0]/\aK wd r4 277 #[J V 2,J ar H,J ar t,ae I 0 0,ae I 0 0]);case first =>
      cases bad with
      |false =>
       have e:S=d2:=TG.O;go_wp2_with fail;go_meet;exact⟨e ▸ l.O,d.O,f.O⟩
      |true =>
       have e:S=d2.fail 2:=TG.O;have HE:=au e;clear e;go_wp2_with (go_at_call 51;refine(mP g d2 2 _ l.O.rd).mono ?_;rw[<-HE.O];rintro e W3 ⟨rfl,R,u⟩;have HR:=au R;have HU:=au u;clear R u);go_meet;exact⟨l.O.call HR.O HU.O,l.O.cw d.O aR HU.O,l.O.cw f.O aR HU.O⟩
     case rest =>
      obtain⟨Tj,b2,b4⟩:=hcut;clear l d f Ti Tm TG U W;obtain⟨l,d,f⟩:=bU Tj b2 b4;have Ti:=Tt;have Tm:=Tu;clear Tj b2 b4 Tt Tu;go_upto_region 13 with fail;go_wp2_with fail;obtain⟨⟨ak,d3⟩,TR⟩:∃p,p=M.iE 30 S:=⟨_,rfl⟩;have Tp:=Ct g S _ l.O.rd Ti.O Tm.O;rw[<-TR]at Tp HM;simp only at Tp HM;clear TR;refine Tp.mono ?_;clear Tp;rintro e w7 ⟨⟨va,q,rfl,own,fit,TS⟩,R,u⟩;have own:=qS own l.O.u.size;obtain⟨K,c5,rfl⟩:=bA own;have T:=l.O.call R u;have b2:=l.O.cw d.O aR u;have b4:=l.O.cw f.O aR u;have m3:=b4.cell 3;have f3:=b4.frozen 3;simp at m3;have Tj:=l;obtain⟨k,j,HT,HO,HF,TY⟩:=lH b2 b4 T own fit TS;clear b2 b4 R u l d f T own fit TS;go_upto_region 16 with fail;obtain⟨HS,d,T8⟩:=bU (HT.O.set j.O aR aR g4 3 (ae K ak.length c5)) (k.O.dS (p:=⟨r4,3,I⟩) n24 (ae K ak.length c5)) (kJ HO.O (ej HO.O j.O aR) 3 (ae K ak.length c5));have f:Hd (aK _ r4 277 #[J V 2,J ar H,J ar t,ae K ak.length c5,ae I 0 0]):=au (by simpa using j.O.bC 3 (ae K ak.length c5));clear k j HT HO m3 f3;go_wp2_with fail;refine(qy g d3 _ HS.O.rd).mono ?_;rintro e w8 ⟨rfl,e8⟩;subst e8;have Q:=HS.O.u.below (aj _) (λi hi=>by cases hi;exact TA);by_cases he:d3.end_=0
      ·have o:me=(⟨2,t,ak⟩,0):=by rw[HM.O,if_neg (by simpa using he)]
       subst o;rw[he];clear he;have b4:=f.O;have p0:=b4.cell 0;have p1:=b4.cell 1;have p2:=b4.cell 2;have p3:=b4.cell 3;have p4:=b4.cell 4;simp at p0 p1 p2 p3 p4;have O0:=T8.O;have x:=d.O;have O1:=kJ O0 (ej O0 x aR) 0 (J V 2);have y:=x.bC 0 (J V 2);have O2:=kJ O1 (ej O1 y aR) 1 (J ar H);have A:=y.bC 1 (J ar H);have O3:=kJ O2 (ej O2 A aR) 2 (J ar t);have C:=A.bC 2 (J ar t);have O4:=kJ O3 (ej O3 C aR) 3 (ae K ak.length c5);have D:=C.bC 3 (ae K ak.length c5);have O5:=kJ O4 (ej O4 D aR) 4 (ae I 0 0);have h:=D.bC 4 (ae I 0 0);have T9:=au O5;clear O0 O1 O2 O3 O4 O5 x y A C D h;have b2:=d.O;have j0:=b2.cell 0;have f0:=b2.frozen 0;have j1:=b2.cell 1;have f1:=b2.frozen 1;have j2:=b2.cell 2;have f2:=b2.frozen 2;have j3:=b2.cell 3;have f3:=b2.frozen 3;have j4:=b2.cell 4;have f4:=b2.frozen 4;have x:=b2;have y:=x.bC 0 (J V 2);have A:=y.bC 1 (J ar H);have C:=A.bC 2 (J ar t);have D:=C.bC 3 (ae K ak.length c5);have h:=D.bC 4 (ae I 0 0);have z0:=h.cell 0;have G:=h.cell 1;have z2:=h.cell 2;have z3:=h.cell 3;have z4:=h.cell 4;simp at j0 z0 j1 G j2 z2 j3 z3 j4 z4;clear b2 x y A C D h;go_wp2_with fail;refine ax (v:=aB #[cg #[J V 2,J ar H,J ar t,ae K ak.length c5,ae I 0 0],J V 0]) (by simp[aV,results274,go_sem,z0,G,z2,z3,z4]) rfl ?_;have P:=TE.O;refine mU.full (w:=w) 2 H t (ae K ak.length c5) .nil (ak) q T9.O HF.O TY.O P ?_;exact(((((Q).setCell (p:=⟨r2,0,I⟩) g2 (J V 2)).setCell (p:=⟨r2,1,I⟩) g2 (J ar H)).setCell (p:=⟨r2,2,I⟩) g2 (J ar t)).setCell (p:=⟨r2,3,I⟩) g2 (ae K ak.length c5)).setCell (p:=⟨r2,4,I⟩) g2 (ae I 0 0)
      ·have TO:(d3.end_ !=0)=true:=by simpa using he
       have o:me=(⟨0,0,[]⟩,d3.end_):=by rw[HM.O,if_pos he]
       subst o;clear he;have b2:=d.O;have j0:=b2.cell 0;have f0:=b2.frozen 0;have j1:=b2.cell 1;have f1:=b2.frozen 1;have j2:=b2.cell 2;have f2:=b2.frozen 2;have j3:=b2.cell 3;have f3:=b2.frozen 3;have j4:=b2.cell 4;have f4:=b2.frozen 4;have x:=b2;have y:=x.bC 0 (J V 0);have A:=y.bC 1 (J ar 0);have C:=A.bC 2 (J ar 0);have D:=C.bC 3 (ae I 0 0);have h:=D.bC 4 (ae I 0 0);have z0:=h.cell 0;have G:=h.cell 1;have z2:=h.cell 2;have z3:=h.cell 3;have z4:=h.cell 4;simp at j0 z0 j1 G j2 z2 j3 z3 j4 z4;clear b2 x y A C D h;go_wp2_with fail;refine ax (v:=aB #[cg #[J V 0,J ar 0,J ar 0,ae I 0 0,ae I 0 0],J V d3.end_]) (by simp[aV,results274,go_sem,z0,G,z2,z3,z4]) rfl (mU.zero ?_ rfl);exact(((((Q).setCell (p:=⟨r2,0,I⟩) g2 (J V 0)).setCell (p:=⟨r2,1,I⟩) g2 (J ar 0)).setCell (p:=⟨r2,2,I⟩) g2 (J ar 0)).setCell (p:=⟨r2,3,I⟩) g2 (ae I 0 0)).setCell (p:=⟨r2,4,I⟩) g2 (ae I 0 0)
   ·subst hk;obtain⟨S,L⟩:=dH (M.lp 60 [] (if d2.left.length=0 then d2.fail 2 else d2));have HM:=au (W.O.trans (Jh Tf.O.symm Tk.O.symm TD.O.symm TF.O.symm S L));go_upto_region 15 with fail;go_wp2_with fail;refine(Cr g d2 _ l.O.rd Ti.O Tm.O).mono ?_;rw[<-L];rintro e w7 ⟨⟨K,n5,c5,rfl⟩,R,u⟩;have T:=l.O.call R u;have b2:=l.O.cw d.O aR u;have b4:=l.O.cw f.O aR u;have m3:=b4.cell 4;have f3:=b4.frozen 4;simp at m3;obtain⟨k,j,HT⟩:=bU b2 b4 T;clear b2 b4 R u l d f T L;go_upto_region 16 with fail;obtain⟨HS,d⟩:=bu (HT.O.set j.O aR aR g4 4 (ae K n5 c5)) (k.O.dS (p:=⟨r4,4,I⟩) n24 (ae K n5 c5));have f:Hd (aK _ r4 277 #[J V 3,J ar H,J ar t,ae I 0 0,ae K n5 c5]):=au (by simpa using j.O.bC 4 (ae K n5 c5));clear k j HT m3 f3;go_wp2_with fail;refine(qy g S _ HS.O.rd).mono ?_;rintro e w8 ⟨rfl,e8⟩;subst e8;have Q:=HS.O.u.below (aj _) (λi hi=>by cases hi;exact TA);by_cases he:S.end_=0
    ·have o:me=(⟨3,t,[]⟩,0):=by rw[HM.O,if_neg (by simpa using he)]
     subst o;rw[he];clear he;have b4:=f.O;have p0:=b4.cell 0;have p1:=b4.cell 1;have p2:=b4.cell 2;have p3:=b4.cell 3;have p4:=b4.cell 4;simp at p0 p1 p2 p3 p4;have b2:=d.O;have j0:=b2.cell 0;have f0:=b2.frozen 0;have j1:=b2.cell 1;have f1:=b2.frozen 1;have j2:=b2.cell 2;have f2:=b2.frozen 2;have j3:=b2.cell 3;have f3:=b2.frozen 3;have j4:=b2.cell 4;have f4:=b2.frozen 4;have x:=b2;have y:=x.bC 0 (J V 3);have A:=y.bC 1 (J ar H);have C:=A.bC 2 (J ar t);have D:=C.bC 3 (ae I 0 0);have h:=D.bC 4 (ae K n5 c5);have z0:=h.cell 0;have G:=h.cell 1;have z2:=h.cell 2;have z3:=h.cell 3;have z4:=h.cell 4;simp at j0 z0 j1 G j2 z2 j3 z3 j4 z4;clear b2 x y A C D h;go_wp2_with fail;refine ax (v:=aB #[cg #[J V 3,J ar H,J ar t,ae I 0 0,ae K n5 c5],J V 0]) (by simp[aV,results274,go_sem,z0,G,z2,z3,z4]) rfl ?_;have P:=TE.O;refine mU.full (w:=w) 3 H t (ae I 0 0) ⟨K,n5,c5⟩ ([]) [] ⟨rfl,.inl ⟨rfl,rfl⟩⟩ trivial dt P ?_;exact(((((Q).setCell (p:=⟨r2,0,I⟩) g2 (J V 3)).setCell (p:=⟨r2,1,I⟩) g2 (J ar H)).setCell (p:=⟨r2,2,I⟩) g2 (J ar t)).setCell (p:=⟨r2,3,I⟩) g2 (ae I 0 0)).setCell (p:=⟨r2,4,I⟩) g2 (ae K n5 c5)
    ·have TO:(S.end_ !=0)=true:=by simpa using he
     have o:me=(⟨0,0,[]⟩,S.end_):=by rw[HM.O,if_pos he]
     subst o;clear he;have b2:=d.O;have j0:=b2.cell 0;have f0:=b2.frozen 0;have j1:=b2.cell 1;have f1:=b2.frozen 1;have j2:=b2.cell 2;have f2:=b2.frozen 2;have j3:=b2.cell 3;have f3:=b2.frozen 3;have j4:=b2.cell 4;have f4:=b2.frozen 4;have x:=b2;have y:=x.bC 0 (J V 0);have A:=y.bC 1 (J ar 0);have C:=A.bC 2 (J ar 0);have D:=C.bC 3 (ae I 0 0);have h:=D.bC 4 (ae I 0 0);have z0:=h.cell 0;have G:=h.cell 1;have z2:=h.cell 2;have z3:=h.cell 3;have z4:=h.cell 4;simp at j0 z0 j1 G j2 z2 j3 z3 j4 z4;clear b2 x y A C D h;go_wp2_with fail;refine ax (v:=aB #[cg #[J V 0,J ar 0,J ar 0,ae I 0 0,ae I 0 0],J V S.end_]) (by simp[aV,results274,go_sem,z0,G,z2,z3,z4]) rfl (mU.zero ?_ rfl);exact(((((Q).setCell (p:=⟨r2,0,I⟩) g2 (J V 0)).setCell (p:=⟨r2,1,I⟩) g2 (J ar 0)).setCell (p:=⟨r2,2,I⟩) g2 (J ar 0)).setCell (p:=⟨r2,3,I⟩) g2 (ae I 0 0)).setCell (p:=⟨r2,4,I⟩) g2 (ae I 0 0)
def IB:(af.info? 462).map (λi=>(i.zero,i.size,i.bytes))=Z (Z (cg #[J ar 0,J bI 0,J .i32 0,J ar 0,J ar 0,J ar 0,J ar 0]),7,28):=cC
def pF{w0 W:aw}{g:Nat}{d:M.Rd}(h:RS w0 g W d):RS w0 g W.drew d:=⟨h.rd,h.u.drew⟩
def Hw(w:aw)(err:Int)(e:rJ)(w':aw):Prop:=(∃(b:Bool) (d f g h i j:Int) (v:Sl),e=av (aB #[cg #[ai b,J ar d,J ar f,J ar g,J ar h,J ar i,J ar j,ae v.a v.n v.c],J V err]))/\aC w w'
def FT(count type:Int)(b:Sl)(xs:M.cQ)(w:aw)(hb:b.B w xs)(hn:b.n<=200)(hc:0<=count/\count<=31)(ht:type=200\/type=201) :
  aF af 273 #[cg #[J bI count,J bI type,ae b.a b.n b.c]] w (Hw w (M.nN ⟨count,type,xs⟩)):=by
 obtain⟨err,l⟩:=dH (M.nN ⟨count,type,xs⟩);rw[<-l];obtain⟨rg,TO⟩:=dH (M.Chunk.right ⟨count,type,xs⟩);obtain⟨TP,Ug⟩:=hc;obtain⟨Tk,Tz,Tl,HT⟩:=cA l TO hb ht;clear l TO ht;have hlen:=hb.tl.len;have TQ:=au hlen;clear hb hlen;go_enter func273,ntmps273;go_upto_region 1 with fail;obtain⟨r1,e1⟩:=dH w.heap.size;obtain⟨r2,e2⟩:=dH (w.heap.size+1);rw[<-e2,<-e1];have g2:w.heap.size<=r2:=z;have Uh:r1≠r2:=z;have al:aC w ((w.alloc (.cells #[J bI count,J bI type,ae b.a b.n b.c] 286)).alloc (.cells #[ai false,J ar 0,J ar 0,J ar 0,J ar 0,J ar 0,J ar 0,ae I 0 0] 284)):=((ao _ w).alloc (aj _) _).alloc dt _;refine aW (λX=>aK X r1 286 #[J bI count,J bI type,ae b.a b.n b.c]/\aK X r2 284 #[ai false,J ar 0,J ar 0,J ar 0,J ar 0,J ar 0,J ar 0,ae I 0 0]/\b.B X xs/\aC w X) ⟨(aK.newAt _ _ _ _ e1).alloc _,aK.newAt _ _ _ _ (by simp[e2]),Tl.O.below al,al⟩ ?_;clear e1 e2 al Tl;rintro X ⟨b1,b2,hb,fN⟩;have k0:=b1.cell 0;have k1:=b1.cell 1;have k2:=b1.cell 2;simp at k0 k1 k2;have TD:=rj count type b.a b.n b.c xs X TQ.O z;rw[<-Tz.O]at TD;obtain⟨TE,j,d,Tl,r⟩:=gY TD b1 b2 hb fN;clear TD b1 b2 hb fN;cases rg with
 |false =>
  have he:err=1:=by rw[Tk.O];unfold M.nN;rw[<-Tz.O];rfl
  have HE:=au he;clear he;go_upto_region 2 with(go_big_may;go_at_call 259;refine TE.O.mono ?_;rintro e w1 ⟨rfl,bw⟩;have H:=au bw;clear bw)
  have b2:=d.O.kept H.O;have j0:=b2.cell 0;have f0:=b2.frozen 0;have j1:=b2.cell 1;have f1:=b2.frozen 1;have j2:=b2.cell 2;have f2:=b2.frozen 2;have j3:=b2.cell 3;have f3:=b2.frozen 3;have j4:=b2.cell 4;have f4:=b2.frozen 4;have j5:=b2.cell 5;have f5:=b2.frozen 5;have j6:=b2.cell 6;have f6:=b2.frozen 6;have j7:=b2.cell 7;have f7:=b2.frozen 7;have C:=b2;have D:=C.bC 0 (ai false);have E:=D.bC 1 (J ar 0);have F:=E.bC 2 (J ar 0);have G:=F.bC 3 (J ar 0);have K:=G.bC 4 (J ar 0);have Z6:=K.bC 5 (J ar 0);have Z7:=Z6.bC 6 (J ar 0);have h:=Z7.bC 7 (ae I 0 0);have z0:=h.cell 0;have t:=h.cell 1;have z2:=h.cell 2;have z3:=h.cell 3;have z4:=h.cell 4;have z5:=h.cell 5;have x:=h.cell 6;have z7:=h.cell 7;simp at j0 z0 j1 t j2 z2 j3 z3 j4 z4 j5 z5 j6 x j7 z7;have HZ:=au b2;clear b2 C D E F G K Z6 Z7 h;go_wp2_with fail;refine ax (v:=aB #[cg #[ai false,J ar 0,J ar 0,J ar 0,J ar 0,J ar 0,J ar 0,ae I 0 0],J V 1]) (by simp[aV,results273,go_sem,z0,t,z2,z3,z4,z5,x,z7]) rfl ⟨⟨false,0,0,0,0,0,0,.nil,by rw[HE.O];rfl⟩,?_⟩;exact((((((((r.O.trans (H.O.mono r.O.size)).setCell (p:=⟨r2,0,I⟩) g2 (ai false)).setCell (p:=⟨r2,1,I⟩) g2 (J ar 0)).setCell (p:=⟨r2,2,I⟩) g2 (J ar 0)).setCell (p:=⟨r2,3,I⟩) g2 (J ar 0)).setCell (p:=⟨r2,4,I⟩) g2 (J ar 0)).setCell (p:=⟨r2,5,I⟩) g2 (J ar 0)).setCell (p:=⟨r2,6,I⟩) g2 (J ar 0)).setCell (p:=⟨r2,7,I⟩) g2 (ae I 0 0)
 |true =>
  go_upto_region 3 with(go_big_may;go_at_call 259;refine TE.O.mono ?_;rintro e w1 ⟨rfl,bw⟩;have H:=au bw;clear bw)
  refine aW (λY=>aK Y r1 286 #[J bI count,J bI type,ae b.a b.n b.c]/\aK Y r2 284 #[ai false,J ar 0,J ar 0,J ar 0,J ar 0,J ar 0,J ar 0,ae I 0 0]/\b.B Y xs/\aC w Y) ⟨j.O.kept H.O,d.O.kept H.O,Tl.O.below H.O,r.O.trans (H.O.mono r.O.size)⟩ ?_;clear TE j d Tl r H k0 k1 k2 X;rintro X ⟨b1,b2,hb,fN⟩;have k0:=b1.cell 0;have k1:=b1.cell 1;have k2:=b1.cell 2;simp at k0 k1 k2;obtain⟨TR,j,d,r⟩:=cA (wz b.a b.n b.c xs X hb.tl z hb.zero) b1 b2 fN;clear b1 b2 hb fN;go_wp2_with fail;refine TR.O.mono ?_;rintro e w1 ⟨⟨g,rfl,hg,hR⟩,bw⟩;have b1:=j.O.kept bw;have TS:=b1.cell 1;have TT:=b1.cell 0;simp at TS TT;obtain⟨L,N,S0⟩:=bU b1 (d.O.kept bw) (⟨hR,.bn (r.O.trans (bw.mono r.O.size))⟩:RS w g w1 ⟨xs,0⟩);have TA:w.heap.size<=g:=aP r.O.size hg;clear b1 bw hR j d r TR k0 k1 k2 X hg;go_wp2_with fail;refine(kK g _ _ S0.O.rd).mono ?_;obtain⟨⟨x1,d1⟩,TF⟩:∃p,p=M.Rd.num ⟨xs,0⟩ 4:=⟨_,rfl⟩;rw[<-TF];have TV:=au TF;clear TF;rintro e W1 ⟨rfl,R,u⟩;obtain⟨S1,B1,B2⟩:=bU (S0.O.call R u) (S0.O.cw L.O aR u) (S0.O.cw N.O aR u);clear R u S0 L N TS TT;go_upto_region 5 with fail;obtain⟨r5,e5⟩:=dH W1.heap.size;rw[<-e5];have g5:w.heap.size<=r5:=by have:=S1.O.u.size;omega
  have n15:r1≠r5:=by have:=B1.O.lt;omega
  have n25:r2≠r5:=by have:=B2.O.lt;omega
  refine aW (λY=>RS w g Y d1/\aK Y r1 286 #[J bI count,J bI type,ae b.a b.n b.c]/\aK Y r2 284 #[ai false,J ar 0,J ar 0,J ar 0,J ar 0,J ar 0,J ar 0,ae I 0 0]/\aK Y r5 284 #[ai false,J ar x1,J ar 0,J ar 0,J ar 0,J ar 0,J ar 0,ae I 0 0]) ⟨S1.O.alloc _,B1.O.alloc _,B2.O.alloc _,aK.newAt _ _ _ _ e5⟩ ?_;clear e5 S1 B1 B2;rintro Y ⟨S1,b1,b2,b5⟩;have k1:=b1.cell 1;simp at k1;rcases HT.O with ht|ht
  ·subst ht;obtain⟨y,j,d,f⟩:=cA S1 b1 b2 b5;have m0:=b5.cell 0;have n0:=b5.frozen 0;simp at m0;clear S1 b1 b2 b5;go_upto_region 9 with fail;refine aW (λW=>RS w g W d1/\aK W r1 286 #[J bI count,J bI 200,ae b.a b.n b.c]/\aK W r2 284 #[ai false,J ar 0,J ar 0,J ar 0,J ar 0,J ar 0,J ar 0,ae I 0 0]/\aK W r5 284 #[ai true,J ar x1,J ar 0,J ar 0,J ar 0,J ar 0,J ar 0,ae I 0 0]) ⟨y.O.set f.O aR aR g5 0 _,j.O.dS (p:=⟨r5,0,I⟩) n15 _,d.O.dS (p:=⟨r5,0,I⟩) n25 _,by simpa using f.O.bC 0 (ai true)⟩ ?_;clear y j d f m0 n0 k1 Y;rintro Y ⟨S1,b1,b2,b5⟩;obtain⟨y,j,d,f⟩:=cA S1 b1 b2 b5;clear S1 b1 b2 b5;go_wp2_with fail;refine(Mu g d1 _ y.O.rd).mono ?_;obtain⟨d2,Tg⟩:=dH (M.iD [4,4,4,4,4] d1);rw[<-Tg];rintro e W2 ⟨⟨P,Q,T,U,y5,rfl⟩,R,u⟩;have S2:=y.O.call R u;have b1:=y.O.cw j.O aR u;have b2:=y.O.cw d.O aR u;have b5:=y.O.cw f.O aR u;have m2:=b5.cell 2;have m3:=b5.cell 3;have m4:=b5.cell 4;have m5:=b5.cell 5;have m6:=b5.cell 6;have n2:=b5.frozen 2;have n3:=b5.frozen 3;have n4:=b5.frozen 4;have n5:=b5.frozen 5;have n6:=b5.frozen 6;simp at m2 m3 m4 m5 m6;obtain⟨Tm,L,N,TC,TW⟩:=gY S2 b1 b2 b5 Tg;clear R u S2 b1 b2 b5 Tg y j d f;go_upto_region 10 with fail;have C:=TC.O;have T0:=Tm.O;have T1:=T0.set C aR aR g5 2 (J ar P);have D:=C.bC 2 (J ar P);have T2:=T1.set D aR aR g5 3 (J ar Q);have E:=D.bC 3 (J ar Q);have T3:=T2.set E aR aR g5 4 (J ar T);have F:=E.bC 4 (J ar T);have T4:=T3.set F aR aR g5 5 (J ar U);have G:=F.bC 5 (J ar U);have T5:=T4.set G aR aR g5 6 (J ar y5);have K:=G.bC 6 (J ar y5);refine aW (λW=>RS w g W d2/\aK W r1 286 #[J bI count,J bI 200,ae b.a b.n b.c]/\aK W r2 284 #[ai false,J ar 0,J ar 0,J ar 0,J ar 0,J ar 0,J ar 0,ae I 0 0]/\aK W r5 284 #[ai true,J ar x1,J ar P,J ar Q,J ar T,J ar U,J ar y5,ae I 0 0]) ⟨T5,(((((L.O).dS (p:=⟨r5,2,I⟩) n15 (J ar P)).dS (p:=⟨r5,3,I⟩) n15 (J ar Q)).dS (p:=⟨r5,4,I⟩) n15 (J ar T)).dS (p:=⟨r5,5,I⟩) n15 (J ar U)).dS (p:=⟨r5,6,I⟩) n15 (J ar y5),(((((N.O).dS (p:=⟨r5,2,I⟩) n25 (J ar P)).dS (p:=⟨r5,3,I⟩) n25 (J ar Q)).dS (p:=⟨r5,4,I⟩) n25 (J ar T)).dS (p:=⟨r5,5,I⟩) n25 (J ar U)).dS (p:=⟨r5,6,I⟩) n25 (J ar y5),by simpa using K⟩ ?_;clear T0 T1 T2 T3 T4 T5 C D E F G K Tm L N TC m2 m3 m4 m5 m6 n2 n3 n4 n5 n6 Y;obtain⟨sd,Tn⟩:=dH true;rw[<-Tn];clear Tn;rintro Y ⟨S2,b1,b2,b5⟩;have k0:=b1.cell 0;simp at k0;have TG:Hd ((if(200:Int)=200 then M.iD [4,4,4,4,4] d1 else d1)=d2):=au (by rw[if_pos rfl];exact TW.O.symm);obtain⟨H2,j,d,f⟩:=cA S2 b1 b2 b5;clear S2 b1 b2 b5 TW;obtain⟨i0,hi,To,Tp,Tq⟩:=cY IB;obtain⟨HI,TH,TI,TJ⟩:=cA hi To Tp Tq;clear hi To Tp Tq;go_upto_region 11 with fail;go_loopw [29] (λi wr=>∃(k:Nat) (q:List (List Value)) (v:Value) (s:M.Rd),i=J bI k/\(k:Int)<=count/\RS w g wr s/\aK wr r2 284 #[ai false,J ar 0,J ar 0,J ar 0,J ar 0,J ar 0,J ar 0,ae I 0 0]/\aK wr r5 284 #[ai sd,J ar x1,J ar P,J ar Q,J ar T,J ar U,J ar y5,v]/\wr.ownsRow w.heap.size 462 7 v k q.flatten/\M.kV count.toNat d2=M.kV (count.toNat-k) s) (λi _=>(count-bS i).toNat);case atStart=>exact⟨0,[],ae I 0 0,d2,rfl,TP,H2.O,d.O,f.O,⟨rfl,.inl ⟨rfl,rfl⟩⟩,rfl⟩
   case round =>
    clear H2 j d f k0;obtain⟨k,q,v,s,rfl,hk,S,b2,b5,own,m⟩:=hrel;obtain⟨A5,c5,rfl⟩:=bA own;have k7:=b5.cell 7;have f7:=b5.frozen 7;simp at k7;have Ub:=S.u.size;obtain⟨HS,d,f,HO,Ts⟩:=gY S b2 b5 own m;clear S b2 b5 own m;by_cases Uc:(k:Int)<count
    ·have l5:=f.O.lt;go_wp2_with fail;go_region_law (first
      |(rw[if_pos jP];go_simp;go_at_call 301;refine(BK g s _ (by first|exact HS.O.rd|exact(pF HS.O).rd)).mono ?_;rintro e w7 ⟨⟨z0,t,z2,z3,z4,z5,x,rfl⟩,R7,u7⟩;have S7:=(by first|exact(pF HS.O).call R7 u7|exact HS.O.call R7 u7:RS w g w7 _);have B7:=(by first|exact HS.O.cw f.O aR (show cS (One g) wr w7 from u7)|exact(pF HS.O).cw f.O.drew aR u7);have i7:=B7.cell 7;have g7:=B7.frozen 7;simp at i7;have O7:=(by first|exact HS.O.own HO.O (show cS (One g) wr w7 from u7) aR|exact(pF HS.O).own (show wr.drew.ownsRow _ _ _ _ _ _ from HO.O) u7 aR);have Tt:=(by first|exact HS.O.cw d.O aR (show cS (One g) wr w7 from u7)|exact(pF HS.O).cw d.O.drew aR u7);have l7:=B7.lt;have Ud:=S7.u.size;have TM:=au S7;have Tu:=au B7;have A:=au O7;have Tf:=au Tt;clear S7 B7 O7 Tt R7 u7;dsimp only)
      |(refine pU rfl (.tmp 32) (.tmp 35) 282 rfl w.heap.size 462 i0 (cg #[J ar 0,J bI 0,J .i32 0,J ar 0,J ar 0,J ar 0,J ar 0]) 7 28 underlying282 HI.O TH.O TI.O TJ.O rfl aR (ae A5 k c5) k q.flatten rfl (A.O.alloc _) ⟨w7.heap.size,0,I⟩ 1 1 [J ar z0,J bI t,J .i32 z2,J ar z3,J ar z4,J ar z5,J ar x] rfl rfl (fB w7 462 _) tk ui z dZ ?_;intro v8 w8 o g8 _;obtain⟨A8,c8,rfl⟩:=bA o;have S8:=(TM.O.alloc _).grown (A.O.alloc _) (aj _) g8 aR aR;have B8:=(Tu.O.alloc _).grown g8 (ej A.O Tu.O aR);have Tv:=(Tf.O.alloc _).grown g8 (ej A.O Tf.O aR);have e8:=B8.cell 7;have f8:=B8.frozen 7;simp at e8;have TN:=au S8;have Ti:=au B8;have Tw:=au Tv;have Tx:=au o;clear S8 B8 Tv o g8))
     all_goals
      go_wp2_with fail;go_roundw;case rel =>
       have O9:(w8.setCell ⟨r5,7,I⟩ (ae A8 (k+1) c8)).ownsRow w.heap.size 462 7 (ae A8 (k+1) c8) (k+1) (q++[[J ar z0,J bI t,J .i32 z2,J ar z3,J ar z4,J ar z5,J ar x]]).flatten:=by
        have Ue:=kJ Tx.O (ej Tx.O Ti.O aR) 7 (ae A8 (k+1) c8);simpa using Ue
       refine⟨k+1,_,ae A8 (k+1) c8,M.iD [4,1,3,4,4,4,4] s,by go_num,z,TN.O.set Ti.O aR aR g5 7 _,Tw.O.dS (p:=⟨r5,7,I⟩) n25 _,by simpa using Ti.O.bC 7 (ae A8 (k+1) c8),O9,?_⟩;rw[Ts.O,show count.toNat-k=(count.toNat-(k+1))+1 from z,M.kV]
      case measure=>simp[bS];omega
    ·have Ty:count.toNat-k=0:=z;have m:=Ts.O;rw[Ty,M.kV]at m;have l:err=s.end_:=by
      rw[Tk.O];unfold M.nN;rw[<-Tz.O];simp only[jV,cB,if_false];rw[<-TV.O];rw[TG.O,m]
     have Tj:=au l;clear l m Ty;go_wp2_with fail;refine(qy g s _ HS.O.rd).mono ?_;rintro e w8 ⟨rfl,e8⟩;subst e8;by_cases he:s.end_=0
     ·have HE:Hd (err=0):=au (Tj.O.trans he);rw[he];clear he;have b5:=f.O;have k0:=b5.cell 0;have k1:=b5.cell 1;have k2:=b5.cell 2;have k3:=b5.cell 3;have k4:=b5.cell 4;have k5:=b5.cell 5;have k6:=b5.cell 6;have k7:=b5.cell 7;have b2:=d.O;have j0:=b2.cell 0;have f0:=b2.frozen 0;have j1:=b2.cell 1;have f1:=b2.frozen 1;have j2:=b2.cell 2;have f2:=b2.frozen 2;have j3:=b2.cell 3;have f3:=b2.frozen 3;have j4:=b2.cell 4;have f4:=b2.frozen 4;have j5:=b2.cell 5;have f5:=b2.frozen 5;have j6:=b2.cell 6;have f6:=b2.frozen 6;have j7:=b2.cell 7;have f7:=b2.frozen 7;have C:=b2;have D:=C.bC 0 (ai sd);have E:=D.bC 1 (J ar x1);have F:=E.bC 2 (J ar P);have G:=F.bC 3 (J ar Q);have K:=G.bC 4 (J ar T);have Z6:=K.bC 5 (J ar U);have Z7:=Z6.bC 6 (J ar y5);have h:=Z7.bC 7 (ae A5 k c5);have z0:=h.cell 0;have t:=h.cell 1;have z2:=h.cell 2;have z3:=h.cell 3;have z4:=h.cell 4;have z5:=h.cell 5;have x:=h.cell 6;have z7:=h.cell 7;simp at j0 z0 k0 j1 t k1 j2 z2 k2 j3 z3 k3 j4 z4 k4 j5 z5 k5 j6 x k6 j7 z7 k7;clear b2 b5 C D E F G K Z6 Z7 h;go_wp2_with fail;refine ax (v:=aB #[cg #[ai sd,J ar x1,J ar P,J ar Q,J ar T,J ar U,J ar y5,ae A5 k c5],J V 0]) (by simp[aV,results273,go_sem,z0,t,z2,z3,z4,z5,x,z7]) rfl ⟨⟨sd,x1,P,Q,T,U,y5,⟨A5,k,c5⟩,by rw[HE.O]⟩,?_⟩;exact(((((((((HS.O.u.below (aj _) (λi hi=>by cases hi;exact TA))).setCell (p:=⟨r2,0,I⟩) g2 (ai sd)).setCell (p:=⟨r2,1,I⟩) g2 (J ar x1)).setCell (p:=⟨r2,2,I⟩) g2 (J ar P)).setCell (p:=⟨r2,3,I⟩) g2 (J ar Q)).setCell (p:=⟨r2,4,I⟩) g2 (J ar T)).setCell (p:=⟨r2,5,I⟩) g2 (J ar U)).setCell (p:=⟨r2,6,I⟩) g2 (J ar y5)).setCell (p:=⟨r2,7,I⟩) g2 (ae A5 k c5)
     ·have Uf:(s.end_ !=0)=true:=by simpa using he
      have HE:=au Tj.O;clear he;have b2:=d.O;have j0:=b2.cell 0;have f0:=b2.frozen 0;have j1:=b2.cell 1;have f1:=b2.frozen 1;have j2:=b2.cell 2;have f2:=b2.frozen 2;have j3:=b2.cell 3;have f3:=b2.frozen 3;have j4:=b2.cell 4;have f4:=b2.frozen 4;have j5:=b2.cell 5;have f5:=b2.frozen 5;have j6:=b2.cell 6;have f6:=b2.frozen 6;have j7:=b2.cell 7;have f7:=b2.frozen 7;have C:=b2;have D:=C.bC 0 (ai false);have E:=D.bC 1 (J ar 0);have F:=E.bC 2 (J ar 0);have G:=F.bC 3 (J ar 0);have K:=G.bC 4 (J ar 0);have Z6:=K.bC 5 (J ar 0);have Z7:=Z6.bC 6 (J ar 0);have h:=Z7.bC 7 (ae I 0 0);have z0:=h.cell 0;have t:=h.cell 1;have z2:=h.cell 2;have z3:=h.cell 3;have z4:=h.cell 4;have z5:=h.cell 5;have x:=h.cell 6;have z7:=h.cell 7;simp at j0 z0 j1 t j2 z2 j3 z3 j4 z4 j5 z5 j6 x j7 z7;clear b2 C D E F G K Z6 Z7 h;go_wp2_with fail;refine ax (v:=aB #[cg #[ai false,J ar 0,J ar 0,J ar 0,J ar 0,J ar 0,J ar 0,ae I 0 0],J V s.end_]) (by simp[aV,results273,go_sem,z0,t,z2,z3,z4,z5,x,z7]) rfl ⟨⟨false,0,0,0,0,0,0,.nil,by rw[Tj.O];rfl⟩,?_⟩;exact(((((((((HS.O.u.below (aj _) (λi hi=>by cases hi;exact TA))).setCell (p:=⟨r2,0,I⟩) g2 (ai false)).setCell (p:=⟨r2,1,I⟩) g2 (J ar 0)).setCell (p:=⟨r2,2,I⟩) g2 (J ar 0)).setCell (p:=⟨r2,3,I⟩) g2 (J ar 0)).setCell (p:=⟨r2,4,I⟩) g2 (J ar 0)).setCell (p:=⟨r2,5,I⟩) g2 (J ar 0)).setCell (p:=⟨r2,6,I⟩) g2 (J ar 0)).setCell (p:=⟨r2,7,I⟩) g2 (ae I 0 0)
  ·subst ht;obtain⟨d2,Tg⟩:=dH d1;rw[<-Tg]at S1;have TG:Hd ((if(201:Int)=200 then M.iD [4,4,4,4,4] d1 else d1)=d2):=au (by rw[if_neg aR];exact Tg.symm);obtain⟨Tm,j,d,f⟩:=cA S1 b1 b2 b5;clear S1 b1 b2 b5 Tg;go_upto_region 10 with fail;obtain⟨sd,Tn⟩:=dH false;obtain⟨P,TX⟩:=dH (0:Int);obtain⟨Q,TY⟩:=dH (0:Int);obtain⟨T,T8⟩:=dH (0:Int);obtain⟨U,T9⟩:=dH (0:Int);obtain⟨y5,Ua⟩:=dH (0:Int);refine aW (λW=>RS w g W d2/\aK W r1 286 #[J bI count,J bI 201,ae b.a b.n b.c]/\aK W r2 284 #[ai false,J ar 0,J ar 0,J ar 0,J ar 0,J ar 0,J ar 0,ae I 0 0]/\aK W r5 284 #[ai sd,J ar x1,J ar P,J ar Q,J ar T,J ar U,J ar y5,ae I 0 0]) ⟨Tm.O,j.O,d.O,by rw[Tn,TX,TY,T8,T9,Ua];exact f.O⟩ ?_;clear Tn TX TY T8 T9 Ua Tm j d f k1 Y;rintro Y ⟨S2,b1,b2,b5⟩;have k0:=b1.cell 0;simp at k0;obtain⟨H2,j,d,f⟩:=cA S2 b1 b2 b5;clear S2 b1 b2 b5;obtain⟨i0,hi,To,Tp,Tq⟩:=cY IB;obtain⟨HI,TH,TI,TJ⟩:=cA hi To Tp Tq;clear hi To Tp Tq;go_upto_region 11 with fail;go_loopw [29] (λi wr=>∃(k:Nat) (q:List (List Value)) (v:Value) (s:M.Rd),i=J bI k/\(k:Int)<=count/\RS w g wr s/\aK wr r2 284 #[ai false,J ar 0,J ar 0,J ar 0,J ar 0,J ar 0,J ar 0,ae I 0 0]/\aK wr r5 284 #[ai sd,J ar x1,J ar P,J ar Q,J ar T,J ar U,J ar y5,v]/\wr.ownsRow w.heap.size 462 7 v k q.flatten/\M.kV count.toNat d2=M.kV (count.toNat-k) s) (λi _=>(count-bS i).toNat);case atStart=>exact⟨0,[],ae I 0 0,d2,rfl,TP,H2.O,d.O,f.O,⟨rfl,.inl ⟨rfl,rfl⟩⟩,rfl⟩
   case round =>
    clear H2 j d f k0;obtain⟨k,q,v,s,rfl,hk,S,b2,b5,own,m⟩:=hrel;obtain⟨A5,c5,rfl⟩:=bA own;have k7:=b5.cell 7;have f7:=b5.frozen 7;simp at k7;have Ub:=S.u.size;obtain⟨HS,d,f,HO,Ts⟩:=gY S b2 b5 own m;clear S b2 b5 own m;by_cases Uc:(k:Int)<count
    ·have l5:=f.O.lt;go_wp2_with fail;go_region_law (first
      |(rw[if_pos jP];go_simp;go_at_call 301;refine(BK g s _ (by first|exact HS.O.rd|exact(pF HS.O).rd)).mono ?_;rintro e w7 ⟨⟨z0,t,z2,z3,z4,z5,x,rfl⟩,R7,u7⟩;have S7:=(by first|exact(pF HS.O).call R7 u7|exact HS.O.call R7 u7:RS w g w7 _);have B7:=(by first|exact HS.O.cw f.O aR (show cS (One g) wr w7 from u7)|exact(pF HS.O).cw f.O.drew aR u7);have i7:=B7.cell 7;have g7:=B7.frozen 7;simp at i7;have O7:=(by first|exact HS.O.own HO.O (show cS (One g) wr w7 from u7) aR|exact(pF HS.O).own (show wr.drew.ownsRow _ _ _ _ _ _ from HO.O) u7 aR);have Tt:=(by first|exact HS.O.cw d.O aR (show cS (One g) wr w7 from u7)|exact(pF HS.O).cw d.O.drew aR u7);have l7:=B7.lt;have Ud:=S7.u.size;have TM:=au S7;have Tu:=au B7;have A:=au O7;have Tf:=au Tt;clear S7 B7 O7 Tt R7 u7;dsimp only)
      |(refine pU rfl (.tmp 32) (.tmp 35) 282 rfl w.heap.size 462 i0 (cg #[J ar 0,J bI 0,J .i32 0,J ar 0,J ar 0,J ar 0,J ar 0]) 7 28 underlying282 HI.O TH.O TI.O TJ.O rfl aR (ae A5 k c5) k q.flatten rfl (A.O.alloc _) ⟨w7.heap.size,0,I⟩ 1 1 [J ar z0,J bI t,J .i32 z2,J ar z3,J ar z4,J ar z5,J ar x] rfl rfl (fB w7 462 _) tk ui z dZ ?_;intro v8 w8 o g8 _;obtain⟨A8,c8,rfl⟩:=bA o;have S8:=(TM.O.alloc _).grown (A.O.alloc _) (aj _) g8 aR aR;have B8:=(Tu.O.alloc _).grown g8 (ej A.O Tu.O aR);have Tv:=(Tf.O.alloc _).grown g8 (ej A.O Tf.O aR);have e8:=B8.cell 7;have f8:=B8.frozen 7;simp at e8;have TN:=au S8;have Ti:=au B8;have Tw:=au Tv;have Tx:=au o;clear S8 B8 Tv o g8))
     all_goals
      go_wp2_with fail;go_roundw;case rel =>
       have O9:(w8.setCell ⟨r5,7,I⟩ (ae A8 (k+1) c8)).ownsRow w.heap.size 462 7 (ae A8 (k+1) c8) (k+1) (q++[[J ar z0,J bI t,J .i32 z2,J ar z3,J ar z4,J ar z5,J ar x]]).flatten:=by
        have Ue:=kJ Tx.O (ej Tx.O Ti.O aR) 7 (ae A8 (k+1) c8);simpa using Ue
       refine⟨k+1,_,ae A8 (k+1) c8,M.iD [4,1,3,4,4,4,4] s,by go_num,z,TN.O.set Ti.O aR aR g5 7 _,Tw.O.dS (p:=⟨r5,7,I⟩) n25 _,by simpa using Ti.O.bC 7 (ae A8 (k+1) c8),O9,?_⟩;rw[Ts.O,show count.toNat-k=(count.toNat-(k+1))+1 from z,M.kV]
      case measure=>simp[bS];omega
    ·have Ty:count.toNat-k=0:=z;have m:=Ts.O;rw[Ty,M.kV]at m;have l:err=s.end_:=by
      rw[Tk.O];unfold M.nN;rw[<-Tz.O];simp only[jV,cB,if_false];rw[<-TV.O];rw[TG.O,m]
     have Tj:=au l;clear l m Ty;go_wp2_with fail;refine(qy g s _ HS.O.rd).mono ?_;rintro e w8 ⟨rfl,e8⟩;subst e8;by_cases he:s.end_=0
     ·have HE:Hd (err=0):=au (Tj.O.trans he);rw[he];clear he;have b5:=f.O;have k0:=b5.cell 0;have k1:=b5.cell 1;have k2:=b5.cell 2;have k3:=b5.cell 3;have k4:=b5.cell 4;have k5:=b5.cell 5;have k6:=b5.cell 6;have k7:=b5.cell 7;have b2:=d.O;have j0:=b2.cell 0;have f0:=b2.frozen 0;have j1:=b2.cell 1;have f1:=b2.frozen 1;have j2:=b2.cell 2;have f2:=b2.frozen 2;have j3:=b2.cell 3;have f3:=b2.frozen 3;have j4:=b2.cell 4;have f4:=b2.frozen 4;have j5:=b2.cell 5;have f5:=b2.frozen 5;have j6:=b2.cell 6;have f6:=b2.frozen 6;have j7:=b2.cell 7;have f7:=b2.frozen 7;have C:=b2;have D:=C.bC 0 (ai sd);have E:=D.bC 1 (J ar x1);have F:=E.bC 2 (J ar P);have G:=F.bC 3 (J ar Q);have K:=G.bC 4 (J ar T);have Z6:=K.bC 5 (J ar U);have Z7:=Z6.bC 6 (J ar y5);have h:=Z7.bC 7 (ae A5 k c5);have z0:=h.cell 0;have t:=h.cell 1;have z2:=h.cell 2;have z3:=h.cell 3;have z4:=h.cell 4;have z5:=h.cell 5;have x:=h.cell 6;have z7:=h.cell 7;simp at j0 z0 k0 j1 t k1 j2 z2 k2 j3 z3 k3 j4 z4 k4 j5 z5 k5 j6 x k6 j7 z7 k7;clear b2 b5 C D E F G K Z6 Z7 h;go_wp2_with fail;refine ax (v:=aB #[cg #[ai sd,J ar x1,J ar P,J ar Q,J ar T,J ar U,J ar y5,ae A5 k c5],J V 0]) (by simp[aV,results273,go_sem,z0,t,z2,z3,z4,z5,x,z7]) rfl ⟨⟨sd,x1,P,Q,T,U,y5,⟨A5,k,c5⟩,by rw[HE.O]⟩,?_⟩;exact(((((((((HS.O.u.below (aj _) (λi hi=>by cases hi;exact TA))).setCell (p:=⟨r2,0,I⟩) g2 (ai sd)).setCell (p:=⟨r2,1,I⟩) g2 (J ar x1)).setCell (p:=⟨r2,2,I⟩) g2 (J ar P)).setCell (p:=⟨r2,3,I⟩) g2 (J ar Q)).setCell (p:=⟨r2,4,I⟩) g2 (J ar T)).setCell (p:=⟨r2,5,I⟩) g2 (J ar U)).setCell (p:=⟨r2,6,I⟩) g2 (J ar y5)).setCell (p:=⟨r2,7,I⟩) g2 (ae A5 k c5)
     ·have Uf:(s.end_ !=0)=true:=by simpa using he
      have HE:=au Tj.O;clear he;have b2:=d.O;have j0:=b2.cell 0;have f0:=b2.frozen 0;have j1:=b2.cell 1;have f1:=b2.frozen 1;have j2:=b2.cell 2;have f2:=b2.frozen 2;have j3:=b2.cell 3;have f3:=b2.frozen 3;have j4:=b2.cell 4;have f4:=b2.frozen 4;have j5:=b2.cell 5;have f5:=b2.frozen 5;have j6:=b2.cell 6;have f6:=b2.frozen 6;have j7:=b2.cell 7;have f7:=b2.frozen 7;have C:=b2;have D:=C.bC 0 (ai false);have E:=D.bC 1 (J ar 0);have F:=E.bC 2 (J ar 0);have G:=F.bC 3 (J ar 0);have K:=G.bC 4 (J ar 0);have Z6:=K.bC 5 (J ar 0);have Z7:=Z6.bC 6 (J ar 0);have h:=Z7.bC 7 (ae I 0 0);have z0:=h.cell 0;have t:=h.cell 1;have z2:=h.cell 2;have z3:=h.cell 3;have z4:=h.cell 4;have z5:=h.cell 5;have x:=h.cell 6;have z7:=h.cell 7;simp at j0 z0 j1 t j2 z2 j3 z3 j4 z4 j5 z5 j6 x j7 z7;clear b2 C D E F G K Z6 Z7 h;go_wp2_with fail;refine ax (v:=aB #[cg #[ai false,J ar 0,J ar 0,J ar 0,J ar 0,J ar 0,J ar 0,ae I 0 0],J V s.end_]) (by simp[aV,results273,go_sem,z0,t,z2,z3,z4,z5,x,z7]) rfl ⟨⟨false,0,0,0,0,0,0,.nil,by rw[Tj.O];rfl⟩,?_⟩;exact(((((((((HS.O.u.below (aj _) (λi hi=>by cases hi;exact TA))).setCell (p:=⟨r2,0,I⟩) g2 (ai false)).setCell (p:=⟨r2,1,I⟩) g2 (J ar 0)).setCell (p:=⟨r2,2,I⟩) g2 (J ar 0)).setCell (p:=⟨r2,3,I⟩) g2 (J ar 0)).setCell (p:=⟨r2,4,I⟩) g2 (J ar 0)).setCell (p:=⟨r2,5,I⟩) g2 (J ar 0)).setCell (p:=⟨r2,6,I⟩) g2 (J ar 0)).setCell (p:=⟨r2,7,I⟩) g2 (ae I 0 0)
end Go.Proofs.YtkfblammcilfhaaGreatDoor
