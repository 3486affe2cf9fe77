import Derived.Test.YtkfblammcilfhaaGreatDoorP8
import Derived.Test.YtkfblammcilfhaaGreatDoorP9
set_option linter.all false
set_option maxRecDepth 100000
set_option maxHeartbeats 100000000
open Go.ChangeShapes Go.WideShapes Go.ChangeAt Go.RowKit Go.Proofs.Tryz
open Go renaming World->aw,Calls->aF,info_parts->cY,wpList_append_own->dM,bodyPost_ret->ax,results->aV
open Go.Proofs.Tryz renaming prog->af
open Go.RowKit renaming intOf->bS
open List renaming getElem?_eq_getElem->ay,range->kq
open Go.Instr renaming mapUpdate->eF
open Go.RowKit.Below renaming refl->ao
open Nat renaming le_refl->aj,le_trans->aP
open Option renaming getD_some->gS,isSome_some->fQ,getD_none->gy,isSome_none->fy,none->I,some->Z
open Go.IntKind renaming u16->aN,wrap_u16->mX,min->jI,max->jJ,signed->fR,bits->gM,i64->V,u32->ar,u8->bI
open Go.Value renaming int->J,slice->ae,bool->ai,pointer->aq,tuple->aB,agg->cg
open Go.Ending renaming returned->av
open Or renaming inl->aJ,inr->aZ
namespace Go.Proofs.YtkfblammcilfhaaGreatDoor
section
theorem GB(b c:Nat)(xs:List Int)(x:Int)(w:aw)(p:∀(j:Nat) y,xs[j]? = Z y->w.cell? ⟨b,j,I⟩=Z (J ar y))(B:xs.length<=1000) :
  aF af 210 #[ae (Z ⟨b,0,I⟩) xs.length c,J ar x] w λe w'=>∃r:Int,e=av (J V r)/\(0<=r↔x∈xs)/\w'=w:=by
 have s:=au p;clear p;go_enter func210,ntmps210;go_wp2_with fail;go_loopw [5,8] (λa i wr=>∃k:Nat,i=J V k/\k<=xs.length/\(∀(j:Nat) (y:Int),j<k->xs[j]? = Z y->y≠x)/\wr=w) (λa i _=>xs.length-(bS i).toNat);case atStart=>exact⟨0,rfl,z,λj y d=>absurd d z,rfl⟩
 case round =>
  obtain⟨k,rfl,C,f,rfl⟩:=hrel;by_cases g:k<xs.length
  ·have h:xs[k]? = Z xs[k]:=ay g;have t:=s.O k _ h;obtain⟨l,u⟩:=bu h f;generalize hy:xs[k]=y at t l;clear h f;by_cases he:y=x
   ·subst he;clear hy;have hm:y∈xs:=List.mem_of_getElem? l.O;go_wp2_with fail;go_ret;exact⟨k,rfl,by simp[hm],rfl⟩
   ·have v:(x==y)=false:=by simpa usingλq=>he q.symm
    clear hy;go_wp2_with fail;go_roundw;case rel =>
     refine⟨k+1,dt,z,λj A d m=>?_,?_⟩
     ·by_cases e:j=k
      ·subst e;rw[l.O]at m;cases m;exact he
      ·exact u.O j A z m
     ·first|rfl|trivial
    case measure=>simp[bS];omega
  ·have n:k=xs.length:=z;subst n;have hm:x∉xs:=λq=>by
    obtain⟨j,d,o⟩:=List.getElem_of_mem q;exact f j x d (by rw[ay d,o]) rfl
   clear f;go_wp2_with fail;go_ret;exact⟨-1,rfl,by simp[hm],rfl⟩
theorem sK(b c:Nat)(xs:List Int)(x:Int)(w:aw)(f:∀(j:Nat) y,xs[j]? = Z y->w.cell? ⟨b,j,I⟩=Z (J ar y))(g:xs.length<=1000) :
  aF af 145 #[ae (Z ⟨b,0,I⟩) xs.length c,J ar x] w λe w'=>e=av (ai (decide (x∈xs)))/\w'=w:=by
 have h:=au (GB b c xs x w f g);clear f;go_enter func145,ntmps145;go_wp2_with (refine h.O.mono ?_;rintro e w2 ⟨r,rfl,hr,d⟩;have a:=d.symm;subst a);go_ret;refine⟨?_,rfl⟩;by_cases hm:x∈xs
 ·have:=hr.2 hm;simp[hm,this]
 ·have:¬0<=r:=λq=>hm (hr.1 q);simp[hm];try omega
def xm(or:Int->Option M.bN)(so:M.bN->Option Int)(p s0 s1 s2:Int):Int:=
 if M.mB p=false then 1 else if s1=s0\/s2=s0\/s2=s1 then 1 else if(so (p,0)).isSome=true then 6
 else if(or s0).isSome=true\/(or s1).isSome=true\/(or s2).isSome=true then 6 else 0
def uz(or:Int->Option M.bN)(p s0 s1 s2:Int):Nat->Int->Option M.bN
 |0=>or
 |1=>M.set or s0 (Z (p,0))
 |2=>M.set (M.set or s0 (Z (p,0))) s1 (Z (p,1))
 |_=>M.set (M.set (M.set or s0 (Z (p,0))) s1 (Z (p,1))) s2 (Z (p,2))
def uy(so:M.bN->Option Int)(p s0 s1 s2:Int):Nat->M.bN->Option Int
 |0=>so
 |1=>M.set so (p,0) (Z s0)
 |2=>M.set (M.set so (p,0) (Z s0)) (p,1) (Z s1)
 |_=>M.set (M.set (M.set so (p,0) (Z s0)) (p,1) (Z s1)) (p,2) (Z s2)
abbrev Ng(x:Int):Prop:=(Lit.int ar x).wf=true
section
variable {T:sL} {or:Int->Option M.bN} {so:M.bN->Option Int} {su:Int->Option M.Sub} {N:Nat} {w:aw} (h:fA w T or so su N)
include h
theorem fA.Po(c:N<1000000)(x:Int)(d:Ng x)(y:M.bN) :
  ∃a,(eF 205 (.map (Z T.mo)) (J ar x) (pv y)).run af w=.ok () a/\fA a T (M.set or x (Z y)) so su (N+1)/\cS (One T.mo) w a:=by
 obtain⟨a,f,g,b⟩:=h.o.nX Hz yY c x (pv y) d;refine⟨a,f,⟨h.cw.dW b (λq=>h.o.ki h.cw q.symm),g.congr λi=>?_,(h.s.dW b (λq=>h.ne.1 q.symm)).mono z,(h.u.dW b (λq=>h.ne.2.1 q.symm)).mono z,h.ne⟩,b⟩;unfold M.set;by_cases e:i=x<;>simp[e]
theorem fA.Pn(c:N<1000000)(x:M.bN)(d:Gi x)(y:Int) :
  ∃a,(eF 82 (.map (Z T.ms)) (pv x) (J ar y)).run af w=.ok () a/\fA a T or (M.set so x (Z y)) su (N+1)/\cS (One T.ms) w a:=by
 obtain⟨a,f,g,b⟩:=h.s.nX xM BX c x (J ar y) d;refine⟨a,f,⟨h.cw.dW b (λq=>h.s.ki h.cw q.symm),(h.o.dW b (λq=>h.ne.1 q)).mono z,g.congr λi=>?_,(h.u.dW b (λq=>h.ne.2.2 q.symm)).mono z,h.ne⟩,b⟩;unfold M.set;by_cases e:i=x<;>simp[e]
theorem fA.LS(x:Int)(a:Ng x):(Instr.lookup 205 (.map (Z T.mo)) (J ar x) true).run af w=.ok (aB #[pv ((or x).getD (0,0)),ai (or x).isSome]) w:=by
 refine(h.o.my Hz yY x a (KK w)).trans ?_;cases or x<;>rfl
end
theorem M5(a b c:Int)(w:aw):(Instr.index 43 (cg #[J ar a,J ar b,J ar c]) (J V 0)).run af w=.ok (J ar a) w:=cC
theorem M4(a b c:Int)(w:aw):(Instr.index 43 (cg #[J ar a,J ar b,J ar c]) (J V 1)).run af w=.ok (J ar b) w:=cC
theorem M3(a b c:Int)(w:aw):(Instr.index 43 (cg #[J ar a,J ar b,J ar c]) (J V 2)).run af w=.ok (J ar c) w:=cC
theorem xW(T:sL)(or:Int->Option M.bN)(so:M.bN->Option Int)(su:Int->Option M.Sub)(N:Nat)(w:aw)(h:fA w T or so su N)(p s0 s1 s2:Int)(hN:N<900000)(w0:Ng s0)(w1:Ng s1)(w2:Ng s2) :
  aF af 85 #[aq (Z ⟨T.g,0,I⟩),J V p,cg #[J ar s0,J ar s1,J ar s2]] w λe w'=>e=av (J V (xm or so p s0 s1 s2)) /\
   fA w' T (if xm or so p s0 s1 s2=0 then uz or p s0 s1 s2 3 else or) (if xm or so p s0 s1 s2=0 then uy so p s0 s1 s2 3 else so) su (N+6)/\cS T.own w w':=by
 generalize x:xm or so p s0 s1 s2=E;unfold xm at x;have al:aC w (w.alloc (.cells #[J ar s0,J ar s1,J ar s2] 43)):=(ao _ w).alloc (aj _) _;have h2:=h.below al;have HM:=au (zC p (w.alloc (.cells #[J ar s0,J ar s1,J ar s2] 43)));cases hm:M.mB p with
 |false =>
  rw[if_pos hm]at x;subst x;rw[hm]at HM;have H2:=au (h2.mono (z:N<=N+6));clear h h2;go_enter func85,ntmps85;go_wp2_with (refine HM.O.mono ?_;rintro e w2 ⟨rfl,c⟩;have b:=c.symm;subst b);go_ret;exact⟨rfl,by simpa using H2.O,.bn al⟩
 |true =>
  rw[if_neg (by simp[hm])]at x;rw[hm]at HM;have eI:-1000000000000<=p/\p<=1000000000000:=by simp[M.mB]at hm;omega
  have ok:∀k:Int,0<=k->k<=2->Gi (p,k):=λk h1 h2=>ir eI ⟨by show -1000000000000<=k;omega,by show k<=1000000000000;omega⟩;obtain⟨OK,H2,hb⟩:=bU ok h2 (aK.new w 43 #[J ar s0,J ar s1,J ar s2]);clear h h2;go_enter func85,ntmps85;go_upto_region 3 with(refine HM.O.mono ?_;rintro e w2 ⟨rfl,c⟩;have b:=c.symm;subst b)
  obtain⟨r5,h5⟩:=dH w.heap.size;rw[<-h5]at hb ⊢;refine aW (λW=>aK W r5 43 #[J ar s0,J ar s1,J ar s2]/\fA W T or so su N/\aC w W) ⟨hb.O,H2.O,al⟩ ?_;rintro W ⟨b5,f,bl⟩;have SN:w.heap.size<=r5:=z;clear h5 hb H2 al;have k0:=b5.cell 0;have k1:=b5.cell 1;have k2:=b5.cell 2;simp at k0 k1 k2;obtain⟨B5,HT,BL⟩:=bU b5 f bl;have gX:∀(j:Nat) y,([s0]:List Int)[j]? = Z y->W.cell? ⟨r5,j,I⟩=Z (J ar y):=λj y U=>by
   rcases j with _|j
   ·simp at U;subst U;exact k0
   ·simp at U
  have mK:∀(j:Nat) y,([s0,s1]:List Int)[j]? = Z y->W.cell? ⟨r5,j,I⟩=Z (J ar y):=λj y U=>by
   rcases j with _|_|j
   ·simp at U;subst U;exact k0
   ·simp at U;subst U;exact k1
   ·simp at U
  obtain⟨SG,aI,df⟩:=bU (sK r5 3 [] s0 W dt dt) (sK r5 3 [s0] s1 W gX dt) (sK r5 3 [s0,s1] s2 W mK dt);clear b5 f bl gX mK;go_wp2_with fail;go_loopw [20] (λi wr=>∃k:Nat,i=J V k/\k<=3/\(2<=k->s1≠s0)/\(3<=k->s2≠s0/\s2≠s1)/\wr=W) (λi _=>3-(bS i).toNat);case atStart=>exact⟨0,rfl,z,z,z,rfl⟩
  case round =>
   obtain⟨k,rfl,hk,e1,e2,rfl⟩:=hrel;have a0:=M5 s0 s1 s2;have a1:=M4 s0 s1 s2;have a2:=M3 s0 s1 s2;obtain rfl|rfl|rfl|rfl:k=0\/k=1\/k=2\/k=3:=z
   ·go_wp2_with (refine SG.O.mono ?_;rintro e w3 ⟨rfl,c⟩;have b:=c.symm;subst b);go_roundw;case rel=>exact⟨1,rfl,z,z,z,by first|rfl|trivial⟩
    case measure=>simp[bS]
   ·by_cases h1:s1=s0
    ·rw[if_pos (aJ h1)]at x;subst x;subst h1;go_wp2_with (refine aI.O.mono ?_;rintro e w3 ⟨rfl,c⟩;have b:=c.symm;subst b;rw[show decide (s1∈[s1])=true by simp]);go_ret;exact⟨rfl,by simpa using HT.O.mono z,.bn BL.O⟩
    ·go_wp2_with (refine aI.O.mono ?_;rintro e w3 ⟨rfl,c⟩;have b:=c.symm;subst b;rw[show decide (s1∈[s0])=false by simp[h1]]);go_roundw;case rel=>exact⟨2,rfl,z,λ_=>h1,z,by first|rfl|trivial⟩
     case measure=>simp[bS]
   ·by_cases h1:s2=s0\/s2=s1
    ·rw[if_pos (aZ h1)]at x;subst x;have SJ:=au h1;clear h1;go_wp2_with (refine df.O.mono ?_;rintro e w3 ⟨rfl,c⟩;have b:=c.symm;subst b;rw[show decide (s2∈[s0,s1])=true by simpa using SJ.O]);go_ret;exact⟨rfl,by simpa using HT.O.mono z,.bn BL.O⟩
    ·have h2:s2≠s0/\s2≠s1:=⟨λq=>h1 (aJ q),λq=>h1 (aZ q)⟩;go_wp2_with (refine df.O.mono ?_;rintro e w3 ⟨rfl,c⟩;have b:=c.symm;subst b;rw[show decide (s2∈[s0,s1])=false by simpa using h2]);go_roundw;case rel=>exact⟨3,rfl,z,λ_=>e1 z,λ_=>h2,by first|rfl|trivial⟩
     case measure=>simp[bS]
   ·have d1:=e1 z;have d2:=e2 z;rw[if_neg (by rintro(q|q|q);exact d1 q;exact d2.1 q;exact d2.2 q)]at x;have HQ:=au (vt T or so su N _ HT.O p eI);clear SG aI df e1 e2;cases hq:(so (p,0)).isSome with
    |true =>
     rw[hq]at HQ;rw[if_pos hq]at x;subst x;go_wp2_with (refine HQ.O.mono ?_;rintro e w2 ⟨rfl,c⟩;have b:=c.symm;subst b);go_ret;exact⟨rfl,by simpa using HT.O.mono z,.bn BL.O⟩
    |false =>
     rw[hq]at HQ;rw[if_neg (by simp[hq])]at x;go_wp2_with (refine HQ.O.mono ?_;rintro e w2 ⟨rfl,c⟩;have b:=c.symm;subst b);clear k0 k1 k2;go_loopw [33] (λi wr=>∃k:Nat,i=J V k/\k<=3/\(1<=k->or s0=I)/\(2<=k->or s1=I)/\(3<=k->or s2=I)/\aK wr r5 43 #[J ar s0,J ar s1,J ar s2]/\fA wr T or so su N/\aC w wr) (λi _=>3-(bS i).toNat);case atStart=>exact⟨0,rfl,z,z,z,z,B5.O,HT.O,BL.O⟩
     case round =>
      obtain⟨k,rfl,hk,g1,g2,g3,b5,f,bl⟩:=hrel;have X:=f.cw.cell 0;simp at X;obtain rfl|rfl|rfl|rfl:k=0\/k=1\/k=2\/k=3:=z
      ·have l:=f.LS s0 w0;cases n:or s0 with
       |some y =>
        obtain⟨y1,y2⟩:=y;rw[n]at l;simp only[gS,fQ]at l;rw[if_pos (aJ (by simp[n]))]at x;subst x;obtain⟨H,K⟩:=bu (f.below ((ao _ wr).alloc (aj _) (.cells #[J V y1,J V y2] 91))) (bl.alloc bl.size (.cells #[J V y1,J V y2] 91));clear f bl b5 n;go_wp2_with fail;go_ret;exact⟨rfl,by simpa using H.O.mono z,.bn K.O⟩
       |none =>
        rw[n]at l;simp only[gy,fy]at l;obtain⟨KB,H,K⟩:=bU (b5.alloc (.cells #[J V 0,J V 0] 91)) (f.below ((ao _ wr).alloc (aj _) (.cells #[J V 0,J V 0] 91))) (bl.alloc bl.size (.cells #[J V 0,J V 0] 91));clear f bl b5;have HO:=au n;clear n;go_wp2_with fail;go_roundw;case rel=>have n:=HO.O;exact⟨1,rfl,z,λ_=>(by first|exact n|trivial),z,z,KB.O,H.O,K.O⟩
        case measure=>simp[bS]
      ·have l:=f.LS s1 w1;cases n:or s1 with
       |some y =>
        obtain⟨y1,y2⟩:=y;rw[n]at l;simp only[gS,fQ]at l;rw[if_pos (aZ (aJ (by simp[n])))]at x;subst x;obtain⟨H,K⟩:=bu (f.below ((ao _ wr).alloc (aj _) (.cells #[J V y1,J V y2] 91))) (bl.alloc bl.size (.cells #[J V y1,J V y2] 91));clear f bl b5 n;go_wp2_with fail;go_ret;exact⟨rfl,by simpa using H.O.mono z,.bn K.O⟩
       |none =>
        rw[n]at l;simp only[gy,fy]at l;obtain⟨KB,H,K⟩:=bU (b5.alloc (.cells #[J V 0,J V 0] 91)) (f.below ((ao _ wr).alloc (aj _) (.cells #[J V 0,J V 0] 91))) (bl.alloc bl.size (.cells #[J V 0,J V 0] 91));clear f bl b5;have HO:=au n;clear n;go_wp2_with fail;go_roundw;case rel=>have n:=HO.O;exact⟨2,rfl,z,λ_=>(by first|exact g1 z|trivial),λ_=>(by first|exact n|trivial),z,KB.O,H.O,K.O⟩
        case measure=>simp[bS]
      ·have l:=f.LS s2 w2;cases n:or s2 with
       |some y =>
        obtain⟨y1,y2⟩:=y;rw[n]at l;simp only[gS,fQ]at l;rw[if_pos (aZ (aZ (by simp[n])))]at x;subst x;obtain⟨H,K⟩:=bu (f.below ((ao _ wr).alloc (aj _) (.cells #[J V y1,J V y2] 91))) (bl.alloc bl.size (.cells #[J V y1,J V y2] 91));clear f bl b5 n;go_wp2_with fail;go_ret;exact⟨rfl,by simpa using H.O.mono z,.bn K.O⟩
       |none =>
        rw[n]at l;simp only[gy,fy]at l;obtain⟨KB,H,K⟩:=bU (b5.alloc (.cells #[J V 0,J V 0] 91)) (f.below ((ao _ wr).alloc (aj _) (.cells #[J V 0,J V 0] 91))) (bl.alloc bl.size (.cells #[J V 0,J V 0] 91));clear f bl b5;have HO:=au n;clear n;go_wp2_with fail;go_roundw;case rel=>have n:=HO.O;exact⟨3,rfl,z,λ_=>(by first|exact g1 z|trivial),λ_=>(by first|exact g2 z|trivial),λ_=>(by first|exact n|trivial),KB.O,H.O,K.O⟩
        case measure=>simp[bS]
      ·have n0:=g1 z;have n1:=g2 z;have n2:=g3 z;rw[if_neg (by simp[n0,n1,n2])]at x;subst x;clear n0 n1 n2 g1 g2 g3 X;have k0:=b5.cell 0;have k1:=b5.cell 1;have k2:=b5.cell 2;simp at k0 k1 k2;obtain⟨SK,SL,SM⟩:=bU b5 f bl;clear b5 f bl;go_upto_region 19 with fail;go_wp2_with fail;go_loopw [48] (λi wr=>∃k:Nat,i=J V k/\k<=3/\aK wr r5 43 #[J ar s0,J ar s1,J ar s2]/\fA wr T (uz or p s0 s1 s2 k) (uy so p s0 s1 s2 k) su (N+2*k)/\cS T.own w wr) (λi _=>3-(bS i).toNat);case atStart=>exact⟨0,rfl,z,SK.O,SL.O,.bn SM.O⟩
       case round =>
        obtain⟨k,rfl,hk,b5,f,L⟩:=hrel;have a0:=M5 s0 s1 s2;have a1:=M4 s0 s1 s2;have a2:=M3 s0 s1 s2;obtain rfl|rfl|rfl|rfl:k=0\/k=1\/k=2\/k=3:=z
        ·go_upto_region 22 with fail;obtain⟨t,m⟩:=dH wr.heap.size;rw[<-m];refine aW (λY=>aK Y t 91 #[J V p,J V 0]/\aK Y r5 43 #[J ar s0,J ar s1,J ar s2]/\fA Y T (uz or p s0 s1 s2 0) (uy so p s0 s1 s2 0) su (N+0)/\cS T.own w Y) ⟨aK.newAt _ _ _ _ m,b5.alloc _,f.below ((ao _ wr).alloc (aj _) _),L.alloc _⟩ ?_;rintro Y ⟨a,u,d,A⟩;have SH:w.heap.size<=t:=by rw[m];exact L.size
         clear m b5 f L;have X:=d.cw.cell 0;have P:=a.cell 0;have Q:=a.cell 1;simp at X P Q;obtain⟨SI,hZ,B,r⟩:=(d.dW (F:=cr) (cS.refl cr Y).drew (λ_ _ q=>q)).Po z s0 w0 (p,0);have hZ:(eF 205 (.map (Z T.mo)) (J ar s0) (cg #[J V p,J V 0])).run af Y.drew=.ok () SI:=hZ;have C:=a.drew.dW r (λq=>d.o.ki a q.symm);have z5:=u.drew.dW r (λq=>d.o.ki u q.symm);have D:=(A.drew.trans (r.mono λi _ q=>(show T.own i from aZ (aJ q))));obtain⟨K1,K2,R,S⟩:=cA C z5 B D;clear a u d A C z5 B D r;go_region;all_goals
          refine gN (λv=>aK v t 91 #[J V p,J V 0]/\aK v r5 43 #[J ar s0,J ar s1,J ar s2]/\fA v T (M.set (uz or p s0 s1 s2 0) s0 (Z (p,0))) (uy so p s0 s1 s2 0) su (N+0+1)/\cS T.own w v) (by first|exact⟨K1.O,K2.O,R.O,S.O⟩|exact⟨K1.O.drewN _,K2.O.drewN _,R.O.dW (F:=cr) ((cS.refl cr _).drewN _) (λ_ _ q=>q),S.O.drewN _⟩) ?_;rintro v ⟨a,u,d,A⟩;have c1:=d.cw.cell 1;have P:=a.cell 0;have Q:=a.cell 1;simp at c1 P Q;obtain⟨Z',G,B,r⟩:=(d.dW (F:=cr) (cS.refl cr v).drew (λ_ _ q=>q)).Pn z (p,0) (OK.O 0 z z) s0;have G:(eF 82 (.map (Z T.ms)) (cg #[J V p,J V 0]) (J ar s0)).run af v.drew=.ok () Z':=G;have z5:=u.drew.dW r (λq=>d.s.ki u q.symm);have D:=(A.drew.trans (r.mono λi _ q=>(show T.own i from aZ (aZ (aJ q)))));obtain⟨J2,J3,J4⟩:=bU z5 B D;clear a u d A z5 B D r;go_wp2_with fail;go_region;all_goals
           go_wp2_with fail;go_roundw;case rel =>
            refine⟨1,rfl,z,?_,?_,?_⟩
            ·first|exact J2.O|exact J2.O.drewN _
            ·first|exact J3.O|exact J3.O.dW (F:=cr) ((cS.refl cr _).drewN _) (λ_ _ q=>q)
            ·first|exact J4.O|exact J4.O.drewN _
           case measure=>simp[bS]
        ·go_upto_region 22 with fail;obtain⟨t,m⟩:=dH wr.heap.size;rw[<-m];refine aW (λY=>aK Y t 91 #[J V p,J V 1]/\aK Y r5 43 #[J ar s0,J ar s1,J ar s2]/\fA Y T (uz or p s0 s1 s2 1) (uy so p s0 s1 s2 1) su (N+2)/\cS T.own w Y) ⟨aK.newAt _ _ _ _ m,b5.alloc _,f.below ((ao _ wr).alloc (aj _) _),L.alloc _⟩ ?_;rintro Y ⟨a,u,d,A⟩;have SH:w.heap.size<=t:=by rw[m];exact L.size
         clear m b5 f L;have X:=d.cw.cell 0;have P:=a.cell 0;have Q:=a.cell 1;simp at X P Q;obtain⟨SI,hZ,B,r⟩:=(d.dW (F:=cr) (cS.refl cr Y).drew (λ_ _ q=>q)).Po z s1 w1 (p,1);have hZ:(eF 205 (.map (Z T.mo)) (J ar s1) (cg #[J V p,J V 1])).run af Y.drew=.ok () SI:=hZ;have C:=a.drew.dW r (λq=>d.o.ki a q.symm);have z5:=u.drew.dW r (λq=>d.o.ki u q.symm);have D:=(A.drew.trans (r.mono λi _ q=>(show T.own i from aZ (aJ q))));obtain⟨K1,K2,R,S⟩:=cA C z5 B D;clear a u d A C z5 B D r;go_region;all_goals
          refine gN (λv=>aK v t 91 #[J V p,J V 1]/\aK v r5 43 #[J ar s0,J ar s1,J ar s2]/\fA v T (M.set (uz or p s0 s1 s2 1) s1 (Z (p,1))) (uy so p s0 s1 s2 1) su (N+2+1)/\cS T.own w v) (by first|exact⟨K1.O,K2.O,R.O,S.O⟩|exact⟨K1.O.drewN _,K2.O.drewN _,R.O.dW (F:=cr) ((cS.refl cr _).drewN _) (λ_ _ q=>q),S.O.drewN _⟩) ?_;rintro v ⟨a,u,d,A⟩;have c1:=d.cw.cell 1;have P:=a.cell 0;have Q:=a.cell 1;simp at c1 P Q;obtain⟨Z',G,B,r⟩:=(d.dW (F:=cr) (cS.refl cr v).drew (λ_ _ q=>q)).Pn z (p,1) (OK.O 1 z z) s1;have G:(eF 82 (.map (Z T.ms)) (cg #[J V p,J V 1]) (J ar s1)).run af v.drew=.ok () Z':=G;have z5:=u.drew.dW r (λq=>d.s.ki u q.symm);have D:=(A.drew.trans (r.mono λi _ q=>(show T.own i from aZ (aZ (aJ q)))));obtain⟨J2,J3,J4⟩:=bU z5 B D;clear a u d A z5 B D r;go_wp2_with fail;go_region;all_goals
           go_wp2_with fail;go_roundw;case rel =>
            refine⟨2,rfl,z,?_,?_,?_⟩
            ·first|exact J2.O|exact J2.O.drewN _
            ·first|exact J3.O|exact J3.O.dW (F:=cr) ((cS.refl cr _).drewN _) (λ_ _ q=>q)
            ·first|exact J4.O|exact J4.O.drewN _
           case measure=>simp[bS]
        ·go_upto_region 22 with fail;obtain⟨t,m⟩:=dH wr.heap.size;rw[<-m];refine aW (λY=>aK Y t 91 #[J V p,J V 2]/\aK Y r5 43 #[J ar s0,J ar s1,J ar s2]/\fA Y T (uz or p s0 s1 s2 2) (uy so p s0 s1 s2 2) su (N+4)/\cS T.own w Y) ⟨aK.newAt _ _ _ _ m,b5.alloc _,f.below ((ao _ wr).alloc (aj _) _),L.alloc _⟩ ?_;rintro Y ⟨a,u,d,A⟩;have SH:w.heap.size<=t:=by rw[m];exact L.size
         clear m b5 f L;have X:=d.cw.cell 0;have P:=a.cell 0;have Q:=a.cell 1;simp at X P Q;obtain⟨SI,hZ,B,r⟩:=(d.dW (F:=cr) (cS.refl cr Y).drew (λ_ _ q=>q)).Po z s2 w2 (p,2);have hZ:(eF 205 (.map (Z T.mo)) (J ar s2) (cg #[J V p,J V 2])).run af Y.drew=.ok () SI:=hZ;have C:=a.drew.dW r (λq=>d.o.ki a q.symm);have z5:=u.drew.dW r (λq=>d.o.ki u q.symm);have D:=(A.drew.trans (r.mono λi _ q=>(show T.own i from aZ (aJ q))));obtain⟨K1,K2,R,S⟩:=cA C z5 B D;clear a u d A C z5 B D r;go_region;all_goals
          refine gN (λv=>aK v t 91 #[J V p,J V 2]/\aK v r5 43 #[J ar s0,J ar s1,J ar s2]/\fA v T (M.set (uz or p s0 s1 s2 2) s2 (Z (p,2))) (uy so p s0 s1 s2 2) su (N+4+1)/\cS T.own w v) (by first|exact⟨K1.O,K2.O,R.O,S.O⟩|exact⟨K1.O.drewN _,K2.O.drewN _,R.O.dW (F:=cr) ((cS.refl cr _).drewN _) (λ_ _ q=>q),S.O.drewN _⟩) ?_;rintro v ⟨a,u,d,A⟩;have c1:=d.cw.cell 1;have P:=a.cell 0;have Q:=a.cell 1;simp at c1 P Q;obtain⟨Z',G,B,r⟩:=(d.dW (F:=cr) (cS.refl cr v).drew (λ_ _ q=>q)).Pn z (p,2) (OK.O 2 z z) s2;have G:(eF 82 (.map (Z T.ms)) (cg #[J V p,J V 2]) (J ar s2)).run af v.drew=.ok () Z':=G;have z5:=u.drew.dW r (λq=>d.s.ki u q.symm);have D:=(A.drew.trans (r.mono λi _ q=>(show T.own i from aZ (aZ (aJ q)))));obtain⟨J2,J3,J4⟩:=bU z5 B D;clear a u d A z5 B D r;go_wp2_with fail;go_region;all_goals
           go_wp2_with fail;go_roundw;case rel =>
            refine⟨3,rfl,z,?_,?_,?_⟩
            ·first|exact J2.O|exact J2.O.drewN _
            ·first|exact J3.O|exact J3.O.dW (F:=cr) ((cS.refl cr _).drewN _) (λ_ _ q=>q)
            ·first|exact J4.O|exact J4.O.drewN _
           case measure=>simp[bS]
        ·obtain⟨R,S⟩:=bu f L;clear f L b5;go_wp2_with fail;go_ret;exact⟨rfl,by simpa using R.O,S.O⟩
end
section
def yP{w:aw}{b:Nat}{κ:Type}[DecidableEq κ]{S:Keys κ}{ds:List κ}{f:κ->Value}(h:gE S w b ds f):PY w b:=by
 obtain⟨D,h1,_⟩:=h;obtain⟨es,k,he,_⟩:=h1;exact aJ ⟨es,k,he⟩
def gA.mut{w:aw}{b N:Nat}{κ:Type}[DecidableEq κ]{S:Keys κ}{F:κ->Option Value}(h:gA S w b F N):PY w b:=by
 obtain⟨ds,f,h1,_⟩:=h;exact yP h1
def gC.ni{w:aw}{B:vi}{aG cX:Int}{b:M.mf}(h:gC w B aG cX b):vP w B.own:=by
 rintro i (rfl|a)
 ·exact .cw h.cw aR aR
 ·obtain⟨t,cs,ht,c⟩:=ib h.row i a;simp at ht;subst ht;exact .cw c aR aR
def fA.ni{w:aw}{T:sL}{or:Int->Option M.bN}{so:M.bN->Option Int}{su:Int->Option M.Sub}{N:Nat}(h:fA w T or so su N):vP w T.own:=by
 rintro i (rfl|rfl|rfl|rfl)
 ·exact .cw h.cw aR aR
 ·exact h.o.mut
 ·exact h.s.mut
 ·exact h.u.mut
def eD.ni{w:aw}{g m N:Nat}{bk:Bk}(h:eD w g m bk N):vP w (jK g m):=by
 obtain⟨ds,v,h1,h2,_⟩:=h;rintro i (rfl|rfl)
 ·exact .cw h1 aR aR
 ·exact yP h2
structure SB where
 g:Nat
 b:vi
def SB.own(B:SB)(i:Nat):Prop:=i=B.g\/B.b.own i
abbrev kI(B:SB)(s:M.eu):Array Value:=#[aq (Z ⟨B.b.g,0,I⟩),ai s.any,J V s.dv,ai s.dJ.wanted,ai s.dJ.any,J V s.dJ.fH,J V s.dJ.gB,ai s.jc]
structure gh(w:aw)(B:SB)(eJ cX:Int)(s:M.eu)(N:Nat):Prop where
 cw:aK w B.g 172 (kI B s)
 buf:gC w B.b eJ cX s.bQ
 uE:-100000*(N:Int)<=s.dv/\s.dv<=100000*(N:Int)+200000
 fH:0<=s.dJ.fH/\s.dJ.fH<=N
 gB:0<=s.dJ.gB/\s.dJ.gB<=N
section
variable {w w':aw} {B:SB} {eJ cX:Int} {s:M.eu} {N:Nat}
def gh.fr{F:Nat->Prop}(h:gh w B eJ cX s N)(f:Fr F w w')(hF:∀i,B.own i->¬F i):gh w' B eJ cX s N:=
 ⟨h.cw.dW f.u (hF _ (aJ rfl)),h.buf.dW f.u (λi a=>hF i (aZ a)),h.uE,h.fH,h.gB⟩
def gh.mono{M':Nat}(h:gh w B eJ cX s N)(a:N<=M'):gh w B eJ cX s M':=
 ⟨h.cw,h.buf,by have:=h.uE;omega,by have:=h.fH;omega,by have:=h.gB;omega⟩
def gh.lt(h:gh w B eJ cX s N):∀i,B.own i->i<w.heap.size:=by
 rintro i (rfl|a)
 ·exact h.cw.lt
 ·exact h.buf.lt i a
def gh.ni(h:gh w B eJ cX s N):vP w B.own:=by
 rintro i (rfl|a)
 ·exact .cw h.cw aR aR
 ·exact h.buf.ni i a
end
abbrev RZ(a:M.kM)(s e y:Sl):List Value:=[J V a.origin.1,J V a.origin.2,J V a.bO,ai a.bW.dR,J bI a.bW.type,J aN a.bW.dQ,J ar a.bW.aU,J ar a.bW.bJ,ae s.a s.n s.c,ai a.bW.has,J aN a.bW.bV,ae e.a e.n e.c,ae y.a y.n y.c]
def uJ(w:aw)(a:M.kM)(c:List Value):Prop:=∃s e y,c=RZ a s e y/\iT w a.bW s e y
abbrev Rl(q:M.Request)(b:Sl):List Value:=[J V q.origin.1,J V q.origin.2,J V q.at_,ae b.a b.n b.c]
def tm(w:aw)(q:M.Request)(c:List Value):Prop:=∃(b:Sl) (xs:M.cQ),c=Rl q b/\b.B w xs/\b.n<=400
def Dd(w:aw)(x:M.cQ)(c:List Value):Prop:=∃b:Sl,c=[ae b.a b.n b.c]/\b.B w x/\b.n<=400
def uJ.rows{w w':aw}{x:M.kM}{c:List Value}(h:uJ w x c)(r:Rows w w'):uJ w' x c:=by
 obtain⟨s,e,y,h1,h2⟩:=h;exact⟨s,e,y,h1,h2.rows r⟩
def tm.rows{w w':aw}{x:M.Request}{c:List Value}(h:tm w x c)(r:Rows w w'):tm w' x c:=by
 obtain⟨b,xs,h1,h2,h3⟩:=h;exact⟨b,xs,h1,h2.rows (aJ rfl) r,h3⟩
def Dd.rows{w w':aw}{x:M.cQ}{c:List Value}(h:Dd w x c)(r:Rows w w'):Dd w' x c:=by
 obtain⟨b,h1,h2,h3⟩:=h;exact⟨b,h1,h2.rows (aJ rfl) r,h3⟩
structure RB where
 g:Nat
 bg:Nat
 bm:Nat
 ret:Nat
 qg:Nat
 qp:Nat
 t:sL
 lm:Nat
 sm:Nat
 lb:Int->Option LB
 sb:M.bN->Option SB
 pv:Value
 rv:Value
inductive xN where
 |aG
 |di
 |ret
 |dm
 |table
 |aD
 |az
 |fo (s:Int)
 |fO (o:M.bN)
 |aO
 |cj
def RB.own(B:RB):xN->Nat->Prop
 | .aG,i=>i=B.g
 | .di,i=>jK B.bg B.bm i
 | .ret,i=>i=B.ret
 | .dm,i=>jK B.qg B.qp i
 | .table,i=>B.t.own i
 | .aD,i=>i=B.lm
 | .az,i=>i=B.sm
 | .fo s,i=>∃L,B.lb s=Z L/\L.own i
 | .fO o,i=>∃S,B.sb o=Z S/\S.own i
 | .aO,i=>B.pv.ownBlock=Z i
 | .cj,i=>B.rv.ownBlock=Z i
def RB.all(B:RB)(i:Nat):Prop:=∃X,B.own X i
abbrev oS(B:RB)(R:M.Room):Array Value:=#[aq (Z ⟨B.bg,0,I⟩),J V R.dA.aG,J V R.dA.eJ,J V R.dA.cX,J V R.dA.eA,J V R.dA.ek,J V R.dA.aT,ai R.cN,.map (Z B.ret),J V R.cJ,aq (Z ⟨B.qg,0,I⟩),aq (Z ⟨B.t.g,0,I⟩),.map (Z B.lm),.map (Z B.sm),B.pv,B.rv,J V R.bp.jw,J V R.bp.cI,J V R.bp.gR,J V R.bp.ff,J V R.bp.fP]
def qx(L:LB):Value:=aq (Z ⟨L.g,0,I⟩)
def tS(S:SB):Value:=aq (Z ⟨S.g,0,I⟩)
def lX{α β:Type}(P:α->β->Prop):Option α->Option β->Prop
 |some a,some b=>P a b
 |none,none=>True
 |_,_=>False
def lX.some{α β:Type}{P:α->β->Prop}{a:α}{y:Option β}(h:lX P (Option.some a) y):∃b,y=Option.some b/\P a b:=by
 cases y with
 |none=>exact h.elim
 |some b=>exact⟨b,rfl,h⟩
def lX.none{α β:Type}{P:α->β->Prop}{y:Option β}(h:lX P Option.none y):y=Option.none:=by
 cases y with
 |none=>rfl
 |some b=>exact h.elim
def lX.mono{α β:Type}{P Q:α->β->Prop}{x:Option α}{y:Option β}(h:lX P x y)(c:∀a b,x=Option.some a->y=Option.some b->P a b->Q a b):lX Q x y:=by
 cases x<;>cases y
 ·trivial
 ·exact h.elim
 ·exact h.elim
 ·exact c _ _ rfl rfl h
def lX.isSome{α β:Type}{P:α->β->Prop}{x:Option α}{y:Option β}(h:lX P x y):x.isSome=y.isSome:=by
 cases x<;>cases y
 ·rfl
 ·exact h.elim
 ·exact h.elim
 ·rfl
def ly(w:aw)(B:RB)(R:M.Room)(N:Nat):xN->Prop
 | .aG=>aK w B.g 61 (oS B R)
 | .di=>eD w B.bg B.bm R.di N
 | .ret=>gE KW w B.ret R.returned (λ_=>ai true)
 | .dm=>∃q,ko w B.qg B.qp R.dA.aG q/\Fit (Dd w) R.dm q
 | .table=>fA w B.t R.cW R.aQ R.bh N
 | .aD=>gA KI w B.lm (λs=>(B.lb s).map qx) N
 | .az=>gA KO w B.sm (λo=>(B.sb o).map tS) N
 | .fo s=>lX (λl L=>ca w L R.dA.aG R.dA.aT l N) (R.aD s) (B.lb s)
 | .fO o=>lX (λs S=>gh w S R.dA.eJ R.dA.cX s N) (R.az o) (B.sb o)
 | .aO=>∃q,w.ownsRow 0 101 13 B.pv R.aO.length q.flatten/\Fit (uJ w) R.aO q
 | .cj=>∃q,w.ownsRow 0 94 4 B.rv R.cj.length q.flatten/\Fit (tm w) R.cj q
def ly.lt{w:aw}{B:RB}{R:M.Room}{N:Nat}:∀{X:xN},ly w B R N X->∀i,B.own X i->i<w.heap.size
 | .aG,h=>λi a=>by have h:aK _ _ _ _:=h;cases a;exact h.lt
 | .di,h=>λi a=>by
  have h:eD _ _ _ _ _:=h;rcases a with rfl|rfl
  ·exact h.lt.1
  ·exact h.lt.2
 | .ret,h=>λi a=>by have h:gE _ _ _ _ _:=h;cases a;exact h.lt
 | .dm,h=>λi a=>by
  obtain⟨q,h1,h2⟩:=h;rcases a with rfl|rfl
  ·exact h1.lt.1
  ·exact h1.lt.2
 | .table,h=>λi a=>fA.lt h i a
 | .aD,h=>λi a=>by have h:gA _ _ _ _ _:=h;cases a;exact h.lt
 | .az,h=>λi a=>by have h:gA _ _ _ _ _:=h;cases a;exact h.lt
 | .fo s,h=>λi a=>by
  obtain⟨L,e,a⟩:=a;have h:lX _ (R.aD s) (B.lb s):=h;rw[e]at h;cases q:R.aD s<;>rw[q]at h
  ·exact h.elim
  ·exact ca.lt h i a
 | .fO o,h=>λi a=>by
  obtain⟨L,e,a⟩:=a;have h:lX _ (R.az o) (B.sb o):=h;rw[e]at h;cases q:R.az o<;>rw[q]at h
  ·exact h.elim
  ·exact gh.lt h i a
 | .aO,h=>λi a=>by obtain⟨q,h1,h2⟩:=h;exact(h1.lt i a).2
 | .cj,h=>λi a=>by obtain⟨q,h1,h2⟩:=h;exact(h1.lt i a).2
def ly.ni{w:aw}{B:RB}{R:M.Room}{N:Nat}:∀{X:xN},ly w B R N X->vP w (B.own X)
 | .aG,h=>λi a=>by have h:aK _ _ _ _:=h;cases a;exact .cw h aR aR
 | .di,h=>eD.ni h
 | .ret,h=>λi a=>by have h:gE _ _ _ _ _:=h;cases a;exact yP h
 | .dm,h=>λi a=>by obtain⟨q,h1,h2⟩:=h;exact h1.typed.ni aR aR i a
 | .table,h=>fA.ni h
 | .aD,h=>λi a=>by have h:gA _ _ _ _ _:=h;cases a;exact h.mut
 | .az,h=>λi a=>by have h:gA _ _ _ _ _:=h;cases a;exact h.mut
 | .fo s,h=>λi a=>by
  obtain⟨L,e,a⟩:=a;have h:lX _ (R.aD s) (B.lb s):=h;rw[e]at h;cases q:R.aD s<;>rw[q]at h
  ·exact h.elim
  ·exact ca.ni h i a
 | .fO o,h=>λi a=>by
  obtain⟨L,e,a⟩:=a;have h:lX _ (R.az o) (B.sb o):=h;rw[e]at h;cases q:R.az o<;>rw[q]at h
  ·exact h.elim
  ·exact gh.ni h i a
 | .aO,h=>λi a=>by obtain⟨q,h1,h2⟩:=h;exact(ib h1).ni aR aR i a
 | .cj,h=>λi a=>by obtain⟨q,h1,h2⟩:=h;exact(ib h1).ni aR aR i a
def ly.fr{w w':aw}{B:RB}{R:M.Room}{N:Nat}{F:Nat->Prop}(f:Fr F w w'):∀{X:xN},ly w B R N X->(∀i,B.own X i->¬F i)->ly w' B R N X
 | .aG,h,hF=>aK.dW h f.u (hF _ rfl)
 | .di,h,hF=>eD.dW h f.u (hF _ (aJ rfl)) (hF _ (aZ rfl))
 | .ret,h,hF=>gE.dW h f.u (hF _ rfl)
 | .dm,h,hF=>by obtain⟨q,h1,h2⟩:=h;exact⟨q,h1.dW f.u (hF _ (aJ rfl)) (hF _ (aZ rfl)),h2.mono λx c k=>k.rows f.r⟩
 | .table,h,hF=>fA.dW h f.u hF
 | .aD,h,hF=>gA.dW h f.u (hF _ rfl)
 | .az,h,hF=>gA.dW h f.u (hF _ rfl)
 | .fo s,h,hF=>lX.mono h λa b h1 h2 k=>k.fr f λi d=>hF i ⟨b,h2,d⟩
 | .fO o,h,hF=>lX.mono h λa b h1 h2 k=>k.fr f λi d=>hF i ⟨b,h2,d⟩
 | .aO,h,hF=>by obtain⟨q,h1,h2⟩:=h;exact⟨q,du h1 f.u hF,h2.mono λx c k=>k.rows f.r⟩
 | .cj,h,hF=>by obtain⟨q,h1,h2⟩:=h;exact⟨q,du h1 f.u hF,h2.mono λx c k=>k.rows f.r⟩
structure yz(R:M.Room)(N:Nat):Prop where
 dA:M.jr R.dA.aG R.dA.eJ R.dA.cX R.dA.eA R.dA.ek R.dA.aT=true
 cJ:0<=R.cJ/\R.cJ<=N
 aO:R.aO.length<=N
 cj:R.cj.length<=N
 jw:0<=R.bp.jw/\R.bp.jw<=N
 cI:0<=R.bp.cI/\R.bp.cI<=N
 gR:0<=R.bp.gR/\R.bp.gR<=N
 ff:0<=R.bp.ff/\R.bp.ff<=N
 fP:0<=R.bp.fP/\R.bp.fP<=N
structure aL(w:aw)(B:RB)(R:M.Room)(N:Nat):Prop where
 part:∀X,ly w B R N X
 vd:∀X Y i,B.own X i->B.own Y i->X=Y
 et:yz R N
structure fK(w w':aw)(B B':RB):Prop where
 g:B'.g=B.g
 fr:Fr B.all w w'
 own:∀i,B'.all i->B.all i\/w.heap.size<=i
def fK.refl(w:aw)(B:RB):fK w w B B:=⟨rfl,Fr.refl _ _,λi h=>aJ h⟩
def fK.trans{a b c:aw}{A B C:RB}(h:fK a b A B)(k:fK b c B C):fK a c A C:=
 ⟨k.g.trans h.g,h.fr.step k.fr h.own,λi d=>by
  rcases k.own i d with q|q
  ·exact h.own i q
  ·exact aZ (aP h.fr.size q)⟩
section
variable {w w':aw} {B B':RB} {R R':M.Room} {N:Nat}
def aL.fr{F:Nat->Prop}(h:aL w B R N)(f:Fr F w w')(hF:∀i,B.all i->¬F i):aL w' B R N:=
 ⟨λX=>(h.part X).fr f λi a=>hF i ⟨X,a⟩,h.vd,h.et⟩
def aL.below(h:aL w B R N)(u:aC w w'):aL w' B R N:=h.fr (F:=cr) (.bn u) λ_ _ q=>q
def aL.lt(h:aL w B R N):∀i,B.all i->i<w.heap.size:=λi ⟨X,a⟩=>(h.part X).lt i a
def aL.IW(h:aL w B R N)(S:xN->Prop)(X:xN)(f:Fr (λi=>∃Y,S Y/\B.own Y i) w w')(m:∀Y,S Y->ly w' B' R' N Y)(hg:B'.g=B.g)
  (n:∀Y,¬S Y->ly w' B R N Y->ly w' B' R' N Y) (d:∀Y i,B'.own Y i->B.own Y i\/Y=X/\w.heap.size<=i) (o:yz R' N):aL w' B' R' N/\fK w w' B B':=by
 have b:∀Y i,B.own Y i->i<w.heap.size:=λY=>(h.part Y).lt;refine⟨⟨λY=>?_,λY a i h1 h2=>?_,o⟩,hg,f.mono λi _ ⟨Y,_,q⟩=>⟨Y,q⟩,λi ⟨Y,j⟩=>?_⟩
 ·by_cases e:S Y
  ·exact m Y e
  ·exact n Y e ((h.part Y).fr f λi j ⟨a,p,q⟩=>e (h.vd Y a i j q ▸ p))
 ·rcases d Y i h1 with k | ⟨r,k⟩
  ·rcases d a i h2 with c | ⟨l,c⟩
   ·exact h.vd Y a i k c
   ·have:=b Y i k;omega
  ·rcases d a i h2 with c | ⟨l,c⟩
   ·have:=b a i c;omega
   ·rw[r,l]
 ·rcases d Y i j with q | ⟨_,q⟩
  ·exact aJ ⟨Y,q⟩
  ·exact aZ q
def aL.yZ(h:aL w B R N)(X:xN)(f:Fr (B.own X) w w')(a:ly w' B' R' N X)(hg:B'.g=B.g)
  (b:∀Y,Y≠X->ly w' B R N Y->ly w' B' R' N Y) (c:∀Y i,B'.own Y i->B.own Y i\/Y=X/\w.heap.size<=i) (d:yz R' N):aL w' B' R' N/\fK w w' B B':=
 h.IW (λY=>Y=X) X (f.mono λi _ q=>⟨X,rfl,q⟩) (λY e=>e ▸ a) hg b c d
end
def eD.mono{w:aw}{g m N M':Nat}{bk:Bk}(h:eD w g m bk N)(a:N<=M'):eD w g m bk M':=by
 obtain⟨ds,v,h1,h2,h3⟩:=h;exact⟨ds,v,h1,h2,⟨h3.at_,h3.wb,h3.sJ,aP h3.small a⟩⟩
section
variable {w w':aw} {B B':RB} {R R':M.Room} {N M':Nat}
def yz.mono(h:yz R N)(a:N<=M'):yz R M':=
 ⟨h.dA,by have:=h.cJ;omega,by have:=h.aO;omega,by have:=h.cj;omega,by have:=h.jw;omega,by have:=h.cI;omega,by have:=h.gR;omega,by have:=h.ff;omega,by have:=h.fP;omega⟩
def ly.mono(c:N<=M'):∀{X:xN},ly w B R N X->ly w B R M' X
 | .aG,h=>h
 | .di,h=>eD.mono h c
 | .ret,h=>h
 | .dm,h=>h
 | .table,h=>fA.mono h c
 | .aD,h=>gA.mono h c
 | .az,h=>gA.mono h c
 | .fo s,h=>lX.mono h λa b _ _ k=>k.mono c
 | .fO o,h=>lX.mono h λa b _ _ k=>k.mono c
 | .aO,h=>h
 | .cj,h=>h
def aL.mono(h:aL w B R N)(a:N<=M'):aL w B R M':=⟨λX=>(h.part X).mono a,h.vd,h.et.mono a⟩
def aL.qJ(h:aL w B R N){s:Int}{l c:M.dP}{L a:LB}(o:R.aD s=Z l)(d:B.lb s=Z L)(f:Fr L.own w w')(j:ca w' a R.dA.aG R.dA.aT c N)(hg:a.g=L.g)(m:∀i,a.own i->L.own i\/w.heap.size<=i) :
  aL w' { B with lb:=M.set B.lb s (Z a) } { R with aD:=M.set R.aD s (Z c) } N/\fK w w' B { B with lb:=M.set B.lb s (Z a) }:=by
 refine h.yZ (.fo s) (f.mono λi _ q=>⟨L,d,q⟩) ?_ rfl ?_ ?_ { h.et with }
 ·show lX _ (M.set R.aD s (Z c) s) (M.set B.lb s (Z a) s);simp only[M.set,if_true];exact j
 ·intro Y n k;cases Y with
  |aD =>
   refine gA.congr k λt=>?_;show(B.lb t).map qx=(M.set B.lb s (Z a) t).map qx;unfold M.set;split
   ·rename_i e;subst e;rw[d];simp[qx,hg]
   ·rfl
  |fo t =>
   have e:t≠s:=λe=>n (e ▸ rfl);show lX _ (M.set R.aD s (Z c) t) (M.set B.lb s (Z a) t);simp only[M.set,if_neg e];exact k
  |_=>exact k
 ·intro Y i b;cases Y with
  |fo t =>
   obtain⟨K,q,b⟩:=b;simp only[M.set]at q;split at q
   ·rename_i e;simp only[Option.some.injEq]at q;subst q e;rcases m i b with q|q
    ·exact aJ ⟨L,d,q⟩
    ·exact aZ ⟨rfl,q⟩
   ·exact aJ ⟨K,q,b⟩
  |_=>exact aJ b
def aL.nL(h:aL w B R N){o:M.bN}{s s':M.eu}{S S':SB}(l:R.az o=Z s)(b:B.sb o=Z S)(f:Fr S.own w w')(c:gh w' S' R.dA.eJ R.dA.cX s' N)(hg:S'.g=S.g)(d:∀i,S'.own i->S.own i\/w.heap.size<=i) :
  aL w' { B with sb:=M.set B.sb o (Z S') } { R with az:=M.set R.az o (Z s') } N/\fK w w' B { B with sb:=M.set B.sb o (Z S') }:=by
 refine h.yZ (.fO o) (f.mono λi _ q=>⟨S,b,q⟩) ?_ rfl ?_ ?_ { h.et with }
 ·show lX _ (M.set R.az o (Z s') o) (M.set B.sb o (Z S') o);simp only[M.set,if_true];exact c
 ·intro Y j k;cases Y with
  |az =>
   refine gA.congr k λt=>?_;show(B.sb t).map tS=(M.set B.sb o (Z S') t).map tS;unfold M.set;split
   ·rename_i e;subst e;rw[b];simp[tS,hg]
   ·rfl
  |fO t =>
   have e:t≠o:=λe=>j (e ▸ rfl);show lX _ (M.set R.az o (Z s') t) (M.set B.sb o (Z S') t);simp only[M.set,if_neg e];exact k
  |_=>exact k
 ·intro Y i a;cases Y with
  |fO t =>
   obtain⟨K,q,a⟩:=a;simp only[M.set]at q;split at q
   ·rename_i e;simp only[Option.some.injEq]at q;subst q e;rcases d i a with q|q
    ·exact aJ ⟨S,b,q⟩
    ·exact aZ ⟨rfl,q⟩
   ·exact aJ ⟨K,q,a⟩
  |_=>exact aJ a
def aL.ve(h:aL w B R N){bk:Bk}(f:Fr (One B.bm) w w')(a:eD w' B.bg B.bm bk N):aL w' B { R with di:=bk } N/\fK w w' B B:=by
 refine h.yZ .di (f.mono λi _ q=>aZ q) a rfl ?_ (λY i b=>aJ b) { h.et with };intro Y c k;cases Y with
 |di=>exact absurd rfl c
 |_=>exact k
def aL.kS(h:aL w B R N){or:Int->Option M.bN}{so:M.bN->Option Int}{su:Int->Option M.Sub}(f:Fr B.t.own w w')(a:fA w' B.t or so su N):aL w' B { R with cW:=or,aQ:=so,bh:=su } N/\fK w w' B B:=by
 refine h.yZ .table f a rfl ?_ (λY i b=>aJ b) { h.et with };intro Y c k;cases Y with
 |table=>exact absurd rfl c
 |_=>exact k
def aL.vF(h:aL w B R N){l:List M.cQ}(f:Fr (jK B.qg B.qp) w w')(a:∃q,ko w' B.qg B.qp R.dA.aG q/\Fit (Dd w') l q):aL w' B { R with dm:=l } N/\fK w w' B B:=by
 refine h.yZ .dm f a rfl ?_ (λY i b=>aJ b) { h.et with };intro Y c k;cases Y with
 |dm=>exact absurd rfl c
 |_=>exact k
def aL.rq(h:aL w B R N){cJ:Int}{cN:Bool}{bp:M.nH}(f:Fr (One B.g) w w')(a:aK w' B.g 61 (oS B { R with cJ:=cJ,cN:=cN,bp:=bp }))(b:yz { R with cJ:=cJ,cN:=cN,bp:=bp } N) :
  aL w' B { R with cJ:=cJ,cN:=cN,bp:=bp } N/\fK w w' B B:=by
 refine h.yZ .aG f a rfl ?_ (λY i c=>aJ c) b;intro Y d k;cases Y with
 |aG=>exact absurd rfl d
 |_=>exact k
end
end
def Fm(n:Int)(a:0<=n)(b:n<2 ^ 16):aN.wrap n=n:=by rw[mX];omega
def nZ(bO mask:Int)(k:Nat):List Int:=bO::(kq k).filterMap λ(k:Nat)=>if mask / 2 ^ k % 2=1 then Z ((bO+(k:Int)+1) % 65536) else I
def D9(bO mask:Int)(k:Nat):nZ bO mask (k+1)=nZ bO mask k++if mask / 2 ^ k % 2=1 then[(bO+(k:Int)+1) % 65536] else[]:=by
 unfold nZ;rw[List.range_succ,List.filterMap_append];simp only[List.cons_append,List.filterMap_cons,List.filterMap_nil];split
 ·rename_i h;split at h
  ·cases h
  ·rename_i q;rw[if_neg q]
 ·rename_i h;split at h
  ·rename_i q;rw[if_pos q];simp at h;rw[h]
  ·cases h
def zD(bO mask:Int)(k:Nat):(nZ bO mask k).length<=k+1:=by
 unfold nZ;have:=List.length_filterMap_le (λ(k:Nat)=>if mask / 2 ^ k % 2=1 then Z ((bO+(k:Int)+1) % 65536) else I) (kq k);simp at this ⊢;omega
def OV{x:Int}(h:0<=x/\x<=65535):(Lit.int aN x).wf=true:=by
 simp[Lit.wf,jI,jJ,fR,gM];omega
def LR(bO mask:Int)(w:aw)(hn:0<=bO/\bO<=65535)(hm:0<=mask/\mask<=65535):aF af 327 #[cg #[J aN bO,J aN mask]] w λe w' =>
  (∃(A:Option Addr) (c:Nat),e=av (ae A (M.lq bO mask).length c)/\w'.ownsRow w.heap.size 42 1 (ae A (M.lq bO mask).length c) (M.lq bO mask).length ((M.lq bO mask).map (J aN)))/\aC w w':=by
 have em:M.lq bO mask=nZ bO mask 16:=rfl;rw[em];obtain⟨i0,N,n,o,p⟩:=cY Mx;obtain⟨U,x,y,B⟩:=cA N n o p;clear N n o p em;go_enter func327,ntmps327;go_upto_region 2 with fail;obtain⟨r1,C⟩:=dH w.heap.size;obtain⟨r7,D⟩:=dH (w.heap.size+1);rw[<-D,<-C];refine aW (λX=>aK X r1 483 #[J aN bO,J aN mask]/\X.ownsRow w.heap.size 42 1 (ae (Z ⟨r7,0,I⟩) 1 1) (nZ bO mask 0).length ((nZ bO mask 0).map (J aN))/\aC w X) ⟨(aK.newAt _ _ _ _ C).alloc _,⟨rfl,aZ ⟨r7,1,#[J aN bO],rfl,z,aK.newAt _ _ _ _ (by simp[D]),aj _,ui,rfl,rfl⟩⟩,((ao _ w).alloc (aj _) _).alloc dt _⟩ ?_;clear C D;rintro X ⟨b1,own,P⟩;obtain⟨b,f,Q⟩:=bU b1 own P;clear b1 own P;go_wp2_with fail;go_loopw [3,4,8] (λv _ i wr=>∃k:Nat,i=J V k/\k<=16/\aK wr r1 483 #[J aN bO,J aN mask]/\wr.ownsRow w.heap.size 42 1 v (nZ bO mask k).length ((nZ bO mask k).map (J aN))/\aC w wr) (λ_ _ i _=>16-(bS i).toNat);case atStart=>exact⟨0,rfl,z,b.O,f.O,Q.O⟩
 case round =>
  clear b f Q;obtain⟨k,rfl,hk,b1,own,R⟩:=hrel;obtain⟨A5,c5,rfl⟩:=bA own;have S:=b1.cell 0;have c1:=b1.cell 1;simp at S c1;have hlen:=zD bO mask k;have q:=D9 bO mask k;obtain⟨b,f,r,s⟩:=cA b1 own R q;clear b1 own R q;by_cases W:k<16
  ·have a:bits .and aN (mask / 2 ^ k) 1=mask / 2 ^ k % 2:=by
    have h0:0<=mask / 2 ^ k:=Int.ediv_nonneg hm.1 (Int.pow_nonneg aR);have h1:mask / 2 ^ k<=mask:=Int.ediv_le_self _ hm.1;exact bits_mask aN 16 aR Fm 1 aR _ h0 z
   by_cases m:mask / 2 ^ k % 2=1
   ·have Y:(bits .and aN (mask / 2 ^ k) 1==1)=true:=by rw[a,m];rfl
    have E:=au m;have g:aN.wrap (aN.wrap (bO+(k:Int))+1)=(bO+(k:Int)+1) % 65536:=by rw[mX,mX];omega
    have t:=au g;clear m a g;go_upto_region 6 with fail;go_wp2_with (at_builtin;go_loud (refine dM _ rfl _ _ 275 rfl w.heap.size 42 i0 (J aN 0) 1 2 underlying275 U.O x.O y.O B.O rfl aR _ _ _ rfl (f.O.alloc _) ⟨wr.heap.size,0,I⟩ 1 1 [J aN (aN.wrap (aN.wrap (bO+(k:Int))+1))] rfl rfl (fB wr 42 _) tk ?c3 ?c4 ?c5 ?_));case c3=>unfold maxLen;omega
    case c4=>omega
    case c5=>have:=r.O.size;simp;omega
    intro v5 F d g5 _;have G:=r.O.size;have h:aC w F:=(r.O.alloc G _).grown g5 dZ (λj hj=>by have:=(f.O.lt j hj).1;omega);have T:aK F r1 483 #[J aN bO,J aN mask]:=(b.O.alloc _).grown g5 (ej f.O b.O aR);have l:F.ownsRow w.heap.size 42 1 v5 (nZ bO mask (k+1)).length ((nZ bO mask (k+1)).map (J aN)):=by
     rw[s.O,if_pos E.O];rw[t.O]at d;simpa using d
    obtain⟨u,H,K⟩:=bU h T l;clear h T l d g5 S c1;go_wp2_with fail;go_roundw;case rel=>exact⟨k+1,by go_num,z,H.O,K.O,u.O⟩
    case measure=>simp[bS];omega
   ·have Y:(bits .and aN (mask / 2 ^ k) 1==1)=false:=by rw[a];simpa using m
    have E:=au m;clear m a;go_wp2_with fail;go_roundw;case rel =>
     refine⟨k+1,by go_num,z,b.O,?_,r.O⟩;have e:nZ bO mask (k+1)=nZ bO mask k:=by rw[s.O,if_neg E.O];simp
     rw[e];exact f.O
    case measure=>simp[bS];omega
  ·have L:k=16:=z;subst L;go_wp2_with fail;go_ret;exact⟨⟨_,_,rfl,f.O⟩,r.O⟩
def Ap(f:Nat)(l:List Int)(d:M.Rd)(a b:Int)(d1 d2:M.Rd)(h0:0<d.left.length)(c:d.num 2=(a,d1))(e:d1.num 2=(b,d2)) :
  M.lp (f+1) l d=M.lp f (l++M.lq a b) (match l.getLast? with | some x=>if M.nx x a<=0 then d2.fail 2 else d2 | none=>d2):=by
 rw[M.lp,if_pos h0];simp only[c,e];cases l.getLast? <;> rfl
def Cr(g:Nat)(d0:M.Rd)(w:aw)(h:iG w g d0)(ok:d0.Ok)(hl:d0.left.length<=200):aF af 304 #[aq (Z ⟨g,0,I⟩)] w λe w' =>
  (∃(A:Option Addr) (n c:Nat),e=av (ae A n c))/\iG w' g (M.lp 60 [] (if d0.left.length=0 then d0.fail 2 else d0))/\cS (One g) w w':=by
 obtain⟨i0,hi,SW,SX,SY⟩:=cY Mx;obtain⟨HI,Tr,Ts,Tt,H0,l,HL⟩:=lV hi SW SX SY (RS.start h) ok hl;clear hi SW SX SY h ok hl;obtain⟨dd,SG⟩:=dH (if d0.left.length=0 then d0.fail 2 else d0);rw[<-SG];have P:=au SG;clear SG;go_enter func304,ntmps304;go_upto_if 7 with(go_big_may;go_at_call 53;refine(lr g d0 _ H0.O.rd).mono ?_;rintro e t ⟨rfl,e9⟩;subst e9)
 go_cut [] (λW=>RS t g W dd);case first =>
  by_cases hz:d0.left.length=0
  ·have Tu:((d0.left.length:Int)==0)=true:=by simp[hz]
   have HZ:=au hz;clear hz;go_wp2_with fail;refine(mP g d0 2 _ H0.O.rd).mono ?_;rintro e v6 ⟨rfl,R6,u6⟩;have S6:=au (H0.O.call R6 u6);clear R6 u6;go_wp2_with fail;go_meet;rw[P.O,if_pos HZ.O];exact S6.O
  ·have HZ:=au hz;have Tu:((d0.left.length:Int)==0)=false:=by rw[beq_eq_false_iff_ne];omega
   clear hz;go_wp2_with fail;go_meet;rw[P.O,if_neg HZ.O];exact H0.O
 case rest =>
  have SZ:dd.Ok:=by
   rw[P.O];split
   ·exact l.O.fail 2
   ·exact l.O
  have Ta:dd.left.length<=200:=by
   rw[P.O];split
   ·exact aP (M.se _ _) HL.O
   ·exact HL.O
  obtain⟨HC,aI,Tb⟩:=bU hcut SZ Ta;clear hcut SZ Ta H0 l HL;go_wp2_with fail;go_loopw [3] (λv wr=>∃(L:List Int) (f:Nat) (d:M.Rd),RS t g wr d/\d.Ok/\d.left.length<=4*f/\L.length+17*f<=1020/\M.lp 60 [] dd=M.lp f L d/\wr.ownsRow t.heap.size 42 1 v L.length (L.map (J aN))/\∀y∈L,0<=y/\y<=65535) (λ_ wr=>wh wr (aq (Z ⟨g,0,I⟩)));case atStart=>exact⟨[],60,dd,HC.O,aI.O,by have:=Tb.O;omega,dt,rfl,⟨rfl,aJ ⟨rfl,rfl⟩⟩,λy hy=>absurd hy dt⟩
  case round =>
   clear HC aI Tb;obtain⟨L,f,d,S,ok,hf,hlen,heq,own,Tc⟩:=hrel;obtain⟨A5,c5,rfl⟩:=bA own;obtain⟨HS,l,HF,Td,HO,Tv⟩:=lH S ok hf heq own Tc;clear S ok hf heq own Tc;by_cases Te:0<d.left.length
   ·have TP:1<=f:=by have:=HF.O;omega
    obtain⟨f',rfl⟩:∃f',f=f'+1:=⟨f-1,z⟩;have SH:=au Te;go_wp2_with (go_at_call 53;refine(lr g d _ HS.O.rd).mono ?_;rintro e w8 ⟨rfl,e8⟩;subst e8);refine(qH g d _ HS.O.rd).mono ?_;have q1:=ev HS.O.rd 2 z;obtain⟨⟨b,d1⟩,SI⟩:∃p,p=M.Rd.num d 2:=⟨_,rfl⟩;rw[<-SI]at q1 ⊢;have Q:=au SI;simp only at q1;have Tw:0<=b/\b<=65535:=q1;obtain⟨Tf,Tg⟩:=Tw;clear SI q1;rintro e W1 ⟨rfl,R,u⟩;have O1:=HS.O.own HO.O u aR;have S1:=HS.O.call R u;obtain⟨B,Th⟩:=bu S1 O1;clear R u S1 O1;go_wp2_with fail;refine(qH g d1 _ B.O.rd).mono ?_;have q2:=ev B.O.rd 2 z;obtain⟨⟨m,d2⟩,SJ⟩:∃p,p=M.Rd.num d1 2:=⟨_,rfl⟩;rw[<-SJ]at q2 ⊢;have T:=au SJ;simp only at q2;have Tx:0<=m/\m<=65535:=q2;obtain⟨Ty,Tz⟩:=Tx;clear SJ q2;rintro e W2 ⟨rfl,R,u⟩;have O2:=B.O.own Th.O u aR;have S2:=B.O.call R u;obtain⟨SK,Ti⟩:=bu S2 O2;clear R u S2 O2 B Th;go_upto_region 6 with fail;obtain⟨r4,e4⟩:=dH W2.heap.size;rw[<-e4];have al:aC W2 (W2.alloc (.cells #[J aN b,J aN m] 483)):=(ao _ _).alloc (aj _) _;have g4:t.heap.size<=r4:=by have:=SK.O.u.size;omega
    refine aW (λX=>RS t g X d2/\aK X r4 483 #[J aN b,J aN m]/\X.ownsRow t.heap.size 42 1 (ae A5 L.length c5) L.length (L.map (J aN))) ⟨SK.O.alloc _,aK.newAt _ _ _ _ e4,du Ti.O (.bn (F:=cr) al) (λi _ q=>q.elim)⟩ ?_;clear al e4 SK Ti;rintro X ⟨S3,B4,O3⟩;obtain⟨bad,a⟩:=dH (match L.getLast? with|some x=>decide (M.nx x b<=0)|none=>false);have C:=au a;have k0:=B4.cell 0;have k1:=B4.cell 1;simp at k0 k1;obtain⟨D,SL,U⟩:=bU S3 B4 O3;clear S3 B4 a;go_cut [32] (λs W=>s=ai bad/\RS t g W d2/\aK W r4 483 #[J aN b,J aN m]/\W.ownsRow t.heap.size 42 1 (ae A5 L.length c5) L.length (L.map (J aN)));case first =>
     by_cases hL:0<L.length
     ·obtain⟨r9,TM,e9,TN⟩:∃r cap,(Value.slice A5 L.length c5)=ae (Z ⟨r,0,I⟩) L.length cap/\L.length<=cap:=by
       rcases O3.2 with⟨e,e'⟩ | ⟨r,cap,dx,e,_,_,q1,_⟩
       ·omega
       ·exact⟨r,cap,e,q1⟩
      injection e9 with e9 TQ TA
      subst e9 TA;have kl:=O3.cellAt (L.length-1) z;obtain⟨y,hy⟩:∃y,L[L.length-1]? = Z y:=⟨_,ay z⟩;rw[List.getElem?_map,hy]at kl;have E:L.getLast? = Z y:=by rw[List.getLast?_eq_getElem?];exact hy
      have a:=C.O;rw[E]at a;simp only at a;simp only[Option.map_some]at kl;have TR:((L.length:Int)-1).toNat=L.length-1:=z;have TC:decide (0<L.length)=true:=decide_eq_true hL;have Tj:decide (0<M.nx y b)=!bad:=by
       rw[a];by_cases ha:M.nx y b<=0
       ·rw[decide_eq_true ha,decide_eq_false z];rfl
       ·rw[decide_eq_false ha,decide_eq_true z];rfl
      have TD:=au Tj;have df:∀W,aF af 326 #[J aN y,J aN b] W λe w'=>e=av (ai (!bad))/\w'=W:=λW=>by have:=NS y b W;rw[TD.O]at this;exact this
      have Tk:=au df;have SM:=U.O.1;clear a Tj df hy E O3 SM;go_quiet ((go_at_call 326;exact Calls.quiet_of_same (Tk.O _)));go_wp2_with fail;go_meet;exact⟨dt,⟨D.O.rd,D.O.u.drewN _⟩,SL.O,U.O⟩
     ·have SN:L=[]:=List.length_eq_zero_iff.1 z;have a:=C.O;rw[SN]at a;simp at a;have TE:=au a;have TC:decide (0<L.length)=false:=decide_eq_false hL;have SH:=au SN;clear SN a O3;go_quiet (fail);go_wp2_with fail;go_meet;exact⟨by rw[TE.O],⟨D.O.rd,D.O.u.drewN _⟩,SL.O,U.O⟩
    case rest =>
     obtain⟨rfl,S4,B4,O4⟩:=hcut;obtain⟨o,SO,SP⟩:=bU S4 B4 O4;clear S4 B4 O4 O3 D SL U k0 k1;go_upto_if 32 with fail;go_cut [] (λW=>RS t g W (if bad then d2.fail 2 else d2)/\aK W r4 483 #[J aN b,J aN m]/\W.ownsRow t.heap.size 42 1 (ae A5 L.length c5) L.length (L.map (J aN)));case first =>
      cases bad with
      |false =>
       go_wp2_with fail;go_meet;exact⟨o.O,SO.O,SP.O⟩
      |true =>
       go_wp2_with fail;refine(mP g d2 2 _ o.O.rd).mono ?_;rintro e v6 ⟨rfl,R6,u6⟩;obtain⟨S6,B6,O6⟩:=bU (o.O.call R6 u6) (o.O.cw SO.O aR u6) (o.O.own SP.O u6 aR);clear R6 u6;go_wp2_with fail;go_meet;exact⟨S6.O,B6.O,O6.O⟩
     case rest =>
      obtain⟨S5,B5,O5⟩:=hcut;have k0:=B5.cell 0;have k1:=B5.cell 1;simp at k0 k1;obtain⟨d3,SQ⟩:=dH (if bad then d2.fail 2 else d2);rw[<-SQ]at S5;obtain⟨Y,Tl,Tm⟩:=bU SQ S5 O5;clear S5 B5 O5 SQ o SO SP;go_wp2_with fail;refine(LR b m _ ⟨Tf,Tg⟩ ⟨Ty,Tz⟩).mono ?_;have TF:(M.lq b m).length<=17:=zD b m 16;have SU:∀y∈M.lq b m,0<=y/\y<=65535:=by
       intro y hy;unfold M.lq at hy;rcases List.mem_cons.1 hy with rfl|hy
       ·exact⟨Tf,Tg⟩
       ·obtain⟨k,_,hk⟩:=List.mem_filterMap.1 hy;split at hk
        ·simp at hk;omega
        ·cases hk
      have TG:1<=(M.lq b m).length:=by unfold M.lq;simp
      obtain⟨ml,G⟩:=dH (M.lq b m);rw[<-G]at TF SU TG ⊢;obtain⟨Tn,TH⟩:=bu G SU;clear G SU;rintro e W6 ⟨⟨AM,cm,rfl,H⟩,b6⟩;have S6:=Tl.O.below b6;have O6:=du Tm.O (.bn (F:=cr) b6) (λi _ q=>q.elim);obtain⟨rM,TO,eM⟩:∃r cap,AM=Z ⟨r,0,I⟩/\ml.length<=cap:=by
       rcases H.2 with⟨e,e'⟩ | ⟨r,cap,dx,e,_,_,q1,_⟩
       ·omega
       ·injection e with e _ _;exact⟨r,cap,e,q1⟩
      obtain⟨rfl,-⟩:=eM;have K:∀j u,(ml.map (J aN))[j]? = Z u->W6.cell? ((⟨rM,0,I⟩:Addr).add j)=Z u:=λj u hu=>by
       have hj:j<ml.length*1:=by
        have:=(List.getElem?_eq_some_iff.1 hu).1;simpa using this
       have e:=H.cellAt j hj;rw[hu]at e;rw[add_lit,Nat.zero_add];exact e
      obtain⟨To,SV,N⟩:=bU S6 O6 K;have TS:=S6.u.size;clear S6 O6 H b6 K Tl Tm k0 k1;go_wp2_with (at_builtin;go_loud (refine dM _ rfl _ _ 275 rfl t.heap.size 42 i0 (J aN 0) 1 2 underlying275 HI.O Tr.O Ts.O Tt.O rfl aR _ _ _ rfl SV.O ⟨rM,0,I⟩ ml.length cm (ml.map (J aN)) rfl dt N.O uQ ?c3 ?c4 ?c5 ?_));case c3=>unfold maxLen;omega
      case c4=>omega
      case c5=>omega
      intro v7 W7 eI g7 _;have S7:=To.O.grown SV.O (aj _) g7 aR aR;have gX:W7.ownsRow t.heap.size 42 1 v7 (L++ml).length ((L++ml).map (J aN)):=by simpa using eI
      obtain⟨Tp,TI⟩:=bu S7 gX;clear S7 gX eI g7 To SV N;go_wp2_with fail;go_roundw;case rel =>
       have o1:=l.O.num 2;rw[<-Q.O]at o1;have o2:=o1.num 2;simp only at o2;rw[<-T.O]at o2;have n1:=M.jn l.O (s:=2) z;rw[<-Q.O]at n1;simp only at n1 o1;have n2:=M.jn o1 (s:=2) z;rw[<-T.O]at n2;simp only at n2 o2;have o3:d3.Ok:=by
        rw[Y.O];split
        ·exact o2.fail 2
        ·exact o2
       have n3:d3.left.length<=d2.left.length:=by
        rw[Y.O];split
        ·exact M.se _ _
        ·exact aj _
       refine⟨L++ml,f',d3,Tp.O,o3,by have:=HF.O;omega,dZ,?_,TI.O,?_⟩
       ·rw[Td.O,Ap f' L d b m d1 d2 SH.O Q.O.symm T.O.symm,<-Tn.O,Y.O,C.O];congr 1;cases L.getLast? with
        |none=>rfl
        |some TJ =>
         show(if M.nx TJ b<=0 then d2.fail 2 else d2)=(if decide (M.nx TJ b<=0)=true then d2.fail 2 else d2);by_cases ha:M.nx TJ b<=0<;>simp[ha]
       ·intro y hy;rcases List.mem_append.1 hy with q|q
        ·exact Tv.O y q
        ·exact TH.O y q
      case measure =>
       have n1:=M.jn l.O (s:=2) z;have n2:=M.uR d1 2;rw[<-Q.O]at n1;rw[<-T.O]at n2;simp only at n1 n2;have n3:d3.left.length<=d2.left.length:=by
        rw[Y.O];split
        ·exact M.se _ _
        ·exact aj _
       rw[Tp.O.rd.len,HS.O.rd.len];have:=SH.O;omega
   ·have mK:M.lp f L d=d:=by
     cases f with
     |zero=>rfl
     |succ f=>rw[M.lp,if_neg Te]
    have Tq:=au mK;clear mK;go_wp2_with (go_at_call 53;refine(lr g d _ HS.O.rd).mono ?_;rintro e w8 ⟨rfl,e8⟩;subst e8);go_ret;have e1:M.lp 60 [] dd=d:=by rw[Td.O,Tq.O]
    rw[e1];exact⟨⟨_,_,_,rfl⟩,HS.O.rd,HS.O.u⟩
def xA(w:aw):aF af 322 #[J V 1] w λe w'=>e=av (aB #[J bI 206,J bI 1])/\w'=w:=by
 go_enter func322,ntmps322;go_wp2_with fail;go_ret2;exact⟨rfl,rfl⟩
def xz(w:aw):aF af 322 #[J V 2] w λe w'=>e=av (aB #[J bI 206,J bI 4])/\w'=w:=by
 go_enter func322,ntmps322;go_wp2_with fail;go_ret2;exact⟨rfl,rfl⟩
def xy(w:aw):aF af 322 #[J V 3] w λe w'=>e=av (aB #[J bI 205,J bI 1])/\w'=w:=by
 go_enter func322,ntmps322;go_wp2_with fail;go_ret2;exact⟨rfl,rfl⟩
def Gw(count type:Int)(A:Option Addr)(n c:Nat)(xs:M.cQ)(w:aw) :
  aF af 302 #[cg #[J bI count,J bI type,ae A n c]] w λe w'=>e=av (J V (M.kindOf ⟨count,type,xs⟩))/\aC w w':=by
 obtain⟨K,t⟩:=dH (M.kindOf ⟨count,type,xs⟩);rw[<-t];have p:=au (show K=if type=206/\count=1 then 1 else if type=206/\count=4 then 2 else if type=205/\count=1 then 3 else 0 from t);clear t;go_enter func302,ntmps302;go_upto_region 2 with fail;obtain⟨r1,u⟩:=dH w.heap.size;obtain⟨r7,v⟩:=dH (w.heap.size+1);rw[<-v,<-u];refine aW (λX=>aK X r1 286 #[J bI count,J bI type,ae A n c]/\aK X r7 3 #[J V 1,J V 2,J V 3]/\aC w X) ⟨(aK.newAt _ _ _ _ u).alloc _,aK.newAt _ _ _ _ (by simp[v]),((ao _ w).alloc (aj _) _).alloc dt _⟩ ?_;clear u v;rintro X ⟨b1,b7,x⟩;obtain⟨o,m,r⟩:=bU b1 b7 x;clear b1 b7 x;go_loopw [4,5,6,9] (λ_ _ _ i wr=>∃k:Nat,i=J V k/\k<=3/\(1<=k->¬(type=206/\count=1))/\(2<=k->¬(type=206/\count=4))/\(3<=k->¬(type=205/\count=1))/\wr=X) (λ_ _ _ i _=>3-(bS i).toNat);case atStart=>exact⟨0,rfl,z,λh=>z,λh=>z,λh=>z,rfl⟩
 case round =>
  obtain⟨k,rfl,C,h1,h2,h3,rfl⟩:=hrel;obtain⟨H1,s,y⟩:=bU h1 h2 h3;clear h1 h2 h3;have B:=o.O.cell 0;have c1:=o.O.cell 1;have j0:=m.O.cell 0;have j1:=m.O.cell 1;have j2:=m.O.cell 2;simp at B c1 j0 j1 j2;rcases k with _|_|_|_|k
  ·by_cases ht:type=206
   ·have d:(type==206)=true:=by simp[ht]
    have f:=au ht;clear ht;by_cases a:count=1
    ·have g:(count==1)=true:=by simp[a]
     have j:=au a;clear a;go_wp2_with (go_at_call 322;refine(xA _).mono ?_;rintro e l ⟨rfl,b⟩;subst b);go_ret;exact⟨by rw[p.O,if_pos ⟨f.O,j.O⟩];first|rfl|simp,r.O⟩
    ·have g:(count==1)=false:=by simpa using a
     have j:=au a;clear a;go_wp2_with (go_at_call 322;refine(xA _).mono ?_;rintro e l ⟨rfl,b⟩;subst b);go_roundw;case rel=>exact⟨1,by go_num,z,λh=>λq=>j.O q.2,λh=>z,λh=>z,(by first|rfl|trivial)⟩
     case measure=>simp[bS]
   ·have d:(type==206)=false:=by simpa using ht
    have f:=au ht;clear ht;go_wp2_with (go_at_call 322;refine(xA _).mono ?_;rintro e l ⟨rfl,b⟩;subst b);go_roundw;case rel=>exact⟨1,by go_num,z,λh=>λq=>f.O q.1,λh=>z,λh=>z,(by first|rfl|trivial)⟩
    case measure=>simp[bS]
  ·by_cases ht:type=206
   ·have d:(type==206)=true:=by simp[ht]
    have f:=au ht;clear ht;by_cases a:count=4
    ·have g:(count==4)=true:=by simp[a]
     have j:=au a;clear a;go_wp2_with (go_at_call 322;refine(xz _).mono ?_;rintro e l ⟨rfl,b⟩;subst b);go_ret;exact⟨by rw[p.O,if_neg (H1.O z),if_pos ⟨f.O,j.O⟩];first|rfl|simp,r.O⟩
    ·have g:(count==4)=false:=by simpa using a
     have j:=au a;clear a;go_wp2_with (go_at_call 322;refine(xz _).mono ?_;rintro e l ⟨rfl,b⟩;subst b);go_roundw;case rel=>exact⟨2,by go_num,z,λh=>H1.O z,λh=>λq=>j.O q.2,λh=>z,(by first|rfl|trivial)⟩
     case measure=>simp[bS]
   ·have d:(type==206)=false:=by simpa using ht
    have f:=au ht;clear ht;go_wp2_with (go_at_call 322;refine(xz _).mono ?_;rintro e l ⟨rfl,b⟩;subst b);go_roundw;case rel=>exact⟨2,by go_num,z,λh=>H1.O z,λh=>λq=>f.O q.1,λh=>z,(by first|rfl|trivial)⟩
    case measure=>simp[bS]
  ·by_cases ht:type=205
   ·have d:(type==205)=true:=by simp[ht]
    have f:=au ht;clear ht;by_cases a:count=1
    ·have g:(count==1)=true:=by simp[a]
     have j:=au a;clear a;go_wp2_with (go_at_call 322;refine(xy _).mono ?_;rintro e l ⟨rfl,b⟩;subst b);go_ret;exact⟨by rw[p.O,if_neg (H1.O z),if_neg (s.O z),if_pos ⟨f.O,j.O⟩];first|rfl|simp,r.O⟩
    ·have g:(count==1)=false:=by simpa using a
     have j:=au a;clear a;go_wp2_with (go_at_call 322;refine(xy _).mono ?_;rintro e l ⟨rfl,b⟩;subst b);go_roundw;case rel=>exact⟨3,by go_num,z,λh=>H1.O z,λh=>s.O z,λh=>λq=>j.O q.2,(by first|rfl|trivial)⟩
     case measure=>simp[bS]
   ·have d:(type==205)=false:=by simpa using ht
    have f:=au ht;clear ht;go_wp2_with (go_at_call 322;refine(xy _).mono ?_;rintro e l ⟨rfl,b⟩;subst b);go_roundw;case rel=>exact⟨3,by go_num,z,λh=>H1.O z,λh=>s.O z,λh=>λq=>f.O q.1,(by first|rfl|trivial)⟩
    case measure=>simp[bS]
  ·go_wp2_with fail;go_ret;exact⟨by rw[p.O,if_neg (H1.O z),if_neg (s.O z),if_neg (y.O z)];rfl,r.O⟩
  ·omega
def BC(A:Option Addr)(n c:Nat)(l:List Int)(w:aw)(r:l.length=n)(s:0<n->∃b,A=Z ⟨b,0,I⟩/\∀i,i<n->w.cell? ⟨b,i,I⟩=Z (J V (l.getD i 0)))(v:n<=c)(h:c<=maxLen) :
  aF af 227 #[ae A n c] w λe w'=>e=av (J V (M.nj l))/\w'=w:=by
 unfold maxLen at h;have key:∀(k:Nat) (m:List Int),(∀i,i<k->m.getD i 0=0)->k<=m.length->M.nj m=M.nj (m.drop k):=by
  intro k;induction k with
  |zero=>intro m _ _;rfl
  |succ k x =>
   intro m h1 h2;cases m with
   |nil=>simp at h2
   |cons e m =>
    have h0:=h1 0 z;simp at h0;subst h0;rw[M.nj,if_neg dt,List.drop_succ_cons];exact x m (λi H=>by have:=h1 (i+1) z;simpa using this) (by simpa using h2)
 obtain⟨B,g,f⟩:=bU s r key;clear s r key;go_enter func227,ntmps227;go_wp2_with fail;go_loopw [4,7] (λ_ i wr=>∃k:Nat,i=J V k/\k<=n/\(∀j,j<k->l.getD j 0=0)/\wr=w) (λ_ i _=>n-(bS i).toNat);case atStart=>exact⟨0,rfl,z,λj C=>z,rfl⟩
 case round =>
  obtain⟨k,rfl,K,t,rfl⟩:=hrel;have o:=au t;clear t;by_cases p:k<n
  ·obtain⟨b,rfl,a⟩:=B.O z;have D:=a k p;obtain⟨y,hy⟩:=dH (l.getD k 0);rw[<-hy]at D;have u:=au hy;clear a hy;by_cases d:y=0
   ·subst d;go_wp2_with fail;go_roundw;case rel =>
     refine⟨k+1,by go_num,z,λj C=>?_,(by first|rfl|trivial)⟩;by_cases e:j=k
     ·rw[e];exact u.O.symm
     ·exact o.O j z
    case measure=>simp[bS];omega
   ·have E:(y !=0)=true:=by simpa using d
    have q:=au d;clear d;go_wp2_with fail;go_ret;refine⟨?_,by first|rfl|trivial⟩;rw[f.O k l o.O (lE g.O)];have hlen:k<l.length:=by have:=g.O;omega
    rw[List.drop_eq_getElem_cons hlen,M.nj];have F:l[k]=y:=by rw[u.O,List.getD_eq_getElem?_getD,ay hlen];rfl
    rw[F,if_pos q.O];rfl
  ·go_wp2_with fail;go_ret;refine⟨?_,by first|rfl|trivial⟩;have G:k=n:=z;rw[f.O k l o.O (lE g.O),List.drop_of_length_le (lE g.O)];rfl
def Gv(c:M.Chunk):M.kindOf c=0\/M.kindOf c=1\/M.kindOf c=2\/M.kindOf c=3:=by
 unfold M.kindOf;by_cases h1:c.type=206/\c.count=1
 ·simp[h1]
 ·by_cases h2:c.type=206/\c.count=4
  ·simp[h2]
  ·by_cases h3:c.type=205/\c.count=1<;>simp[h1,h2,h3]
def mU(w:aw)(b:M.Sk×Int)(e:Ending)(w':aw):Prop:=
 (∃(s:Int) (v:Value) (u:Sl) (q:List (List Value)),e=av (aB #[cg #[J V b.1.kind,J ar s,J ar b.1.zA,v,ae u.a u.n u.c],J V b.2])/\w'.ownsRow w.heap.size 396 2 v b.1.dJ.length q.flatten/\Fit BQ b.1.dJ q/\b.1.dJ.length<=30/\(Lit.int ar b.1.zA).wf=true)/\aC w w'
def mU.zero{w w':aw}{err:Int}{e:Ending}(b:aC w w')(he:e=av (aB #[cg #[J V 0,J ar 0,J ar 0,ae I 0 0,ae I 0 0],J V err])):mU w (⟨0,0,[]⟩,err) e w':=by
 refine⟨⟨0,ae I 0 0,.nil,[],he,⟨rfl,aJ ⟨rfl,rfl⟩⟩,trivial,dt,by rfl⟩,b⟩
def mU.full{w w':aw}(k s x:Int)(v:Value)(u:Sl)(d:List Int)(q:List (List Value))(own:w'.ownsRow w.heap.size 396 2 v d.length q.flatten)(fit:Fit BQ d q)(l:d.length<=30)(wf:(Lit.int ar x).wf=true)(b:aC w w'):mU w (⟨k,x,d⟩,0) (av (aB #[cg #[J V k,J ar s,J ar x,v,ae u.a u.n u.c],J V 0])) w':=
 ⟨⟨s,v,u,q,rfl,own,fit,l,wf⟩,b⟩
def Jj{c:M.Chunk}{b a:Int}{d1 d2:M.Rd}(hr:c.right=true)(d:M.kindOf c=1)(h1:M.Rd.num ⟨c.body,0⟩ 4=(b,d1))(h2:d1.num 4=(a,d2)):M.nu c=if d2.end_≠0 then(⟨0,0,[]⟩,d2.end_) else(⟨1,a,[]⟩,0):=by
 unfold M.nu;simp[hr,d,h1,h2]
def Ji{c:M.Chunk}{d b:Int}{d1 d2:M.Rd}(hr:c.right=true)(e:M.kindOf c=2)(h1:M.Rd.num ⟨c.body,0⟩ 4=(d,d1))(h2:d1.num 4=(b,d2))(a:M.Rd)(f:a=if b≠0\/d2.left.length=0\/d2.left.length % 8≠0 then d2.fail 2 else d2):M.nu c=if(M.iE 30 a).2.end_≠0 then(⟨0,0,[]⟩,(M.iE 30 a).2.end_) else(⟨2,b,(M.iE 30 a).1⟩,0):=by
 subst f;unfold M.nu;simp only[hr,e,h1,h2];simp
def Jh{c:M.Chunk}{d b:Int}{d1 d2:M.Rd}(hr:c.right=true)(e:M.kindOf c=3)(h1:M.Rd.num ⟨c.body,0⟩ 4=(d,d1))(h2:d1.num 4=(b,d2))(a:M.Rd)(f:a=M.lp 60 [] (if d2.left.length=0 then d2.fail 2 else d2)):M.nu c=if a.end_≠0 then(⟨0,0,[]⟩,a.end_) else(⟨3,b,[]⟩,0):=by
 subst f;unfold M.nu;simp only[hr,e,h1,h2];simp
def MI(count type:Int)(b:Sl)(xs:M.cQ)(w:aw)(E:b.B w xs)(hn:b.n<=200)(hc:0<=count/\count<=31) :
  aF af 274 #[cg #[J bI count,J bI type,ae b.a b.n b.c]] w (mU w (M.nu ⟨count,type,xs⟩)):=by
 obtain⟨me,o⟩:=dH (M.nu ⟨count,type,xs⟩);rw[<-o];obtain⟨rg,Td⟩:=dH (M.Chunk.right ⟨count,type,xs⟩);obtain⟨kd,SP⟩:=dH (M.kindOf ⟨count,type,xs⟩);have SQ:=Gv ⟨count,type,xs⟩;rw[<-SP]at SQ;obtain⟨W,aI,N,mK,Tn⟩:=gY o Td E SP SQ;have hlen:=E.tl.len;obtain⟨SL,HN,HC⟩:=bU hlen hn hc;clear E hlen o Td SP SQ hn hc;go_enter func274,ntmps274;go_upto_region 1 with fail;obtain⟨r1,e1⟩:=dH w.heap.size;obtain⟨r2,e2⟩:=dH (w.heap.size+1);rw[<-e2,<-e1];have g2:w.heap.size<=r2:=z;have Tu:r1≠r2:=z;have al:aC w ((w.alloc (.cells #[J bI count,J bI type,ae b.a b.n b.c] 286)).alloc (.cells #[J V 0,J ar 0,J ar 0,ae I 0 0,ae I 0 0] 277)):=((ao _ w).alloc (aj _) _).alloc dt _;refine aW (λX=>aK X r1 286 #[J bI count,J bI type,ae b.a b.n b.c]/\aK X r2 277 #[J V 0,J ar 0,J ar 0,ae I 0 0,ae I 0 0]/\b.B X xs/\aC w X) ⟨(aK.newAt _ _ _ _ e1).alloc _,aK.newAt _ _ _ _ (by simp[e2]),N.O.below al,al⟩ ?_;clear e1 e2 al N;rintro X ⟨b1,b2,E,fN⟩;have k0:=b1.cell 0;have k1:=b1.cell 1;have k2:=b1.cell 2;simp at k0 k1 k2;have SU:=rj count type b.a b.n b.c xs X SL.O (lE HN.O);rw[<-aI.O]at SU;obtain⟨SV,F,d,N,m⟩:=gY SU b1 b2 E fN;clear SU b1 b2 E fN;cases rg with
 |false =>
  have he:me=(⟨0,0,[]⟩,1):=by rw[W.O];unfold M.nu;rw[<-aI.O];rfl
  subst he;go_upto_region 2 with(go_big_may;go_at_call 259;refine SV.O.mono ?_;rintro e w1 ⟨rfl,bw⟩;have r:=au bw;clear bw)
  have k:=au (d.O.kept r.O);have b2:=k.O;have j0:=b2.cell 0;have f0:=b2.frozen 0;have j1:=b2.cell 1;have f1:=b2.frozen 1;have j2:=b2.cell 2;have f2:=b2.frozen 2;have j3:=b2.cell 3;have f3:=b2.frozen 3;have j4:=b2.cell 4;have f4:=b2.frozen 4;have x:=b2;have y:=x.bC 0 (J V 0);have A:=y.bC 1 (J ar 0);have C:=A.bC 2 (J ar 0);have D:=C.bC 3 (ae I 0 0);have h:=D.bC 4 (ae I 0 0);have z0:=h.cell 0;have G:=h.cell 1;have z2:=h.cell 2;have z3:=h.cell 3;have z4:=h.cell 4;simp at j0 z0 j1 G j2 z2 j3 z3 j4 z4;clear b2 x y A C D h;go_wp2_with fail;refine ax (v:=aB #[cg #[J V 0,J ar 0,J ar 0,ae I 0 0,ae I 0 0],J V 1]) (by simp[aV,results274,go_sem,z0,G,z2,z3,z4]) rfl (mU.zero ?_ rfl);exact(((((m.O.trans (r.O.mono m.O.size)).setCell (p:=⟨r2,0,I⟩) g2 (J V 0)).setCell (p:=⟨r2,1,I⟩) g2 (J ar 0)).setCell (p:=⟨r2,2,I⟩) g2 (J ar 0)).setCell (p:=⟨r2,3,I⟩) g2 (ae I 0 0)).setCell (p:=⟨r2,4,I⟩) g2 (ae I 0 0)
 |true =>
  go_upto_region 3 with(go_big_may;go_at_call 259;refine SV.O.mono ?_;rintro e w1 ⟨rfl,bw⟩;have r:=au bw;clear bw)
  refine aW (λY=>aK Y r1 286 #[J bI count,J bI type,ae b.a b.n b.c]/\aK Y r2 277 #[J V 0,J ar 0,J ar 0,ae I 0 0,ae I 0 0]/\b.B Y xs/\aC w Y) ⟨F.O.kept r.O,d.O.kept r.O,N.O.below r.O,m.O.trans (r.O.mono m.O.size)⟩ ?_;clear SV F d N m r k0 k1 k2 X;rintro X ⟨b1,b2,E,fN⟩;have k0:=b1.cell 0;have k1:=b1.cell 1;have k2:=b1.cell 2;simp at k0 k1 k2;have SW:=Gw count type b.a b.n b.c xs X;rw[<-mK.O]at SW;obtain⟨Te,F,d,N,m⟩:=gY SW b1 b2 E fN;clear b1 b2 E fN SW;go_upto_region 4 with(go_big_may;go_at_call 302;refine Te.O.mono ?_;rintro e w1 ⟨rfl,bw⟩;have r:=au bw;clear bw)
  obtain⟨r4,e4⟩:=dH w1.heap.size;rw[<-e4];have g4:w.heap.size<=r4:=by have:=m.O.size;have:=r.O.size;omega
  have al:aC X (w1.alloc (.cells #[J V kd,J ar 0,J ar 0,ae I 0 0,ae I 0 0] 277)):=r.O.alloc r.O.size _;have Tv:r1≠r4:=by have:=(F.O.kept r.O).lt;omega
  have n24:r2≠r4:=by have:=(d.O.kept r.O).lt;omega
  refine aW (λY=>aK Y r4 277 #[J V kd,J ar 0,J ar 0,ae I 0 0,ae I 0 0]/\aK Y r1 286 #[J bI count,J bI type,ae b.a b.n b.c]/\aK Y r2 277 #[J V 0,J ar 0,J ar 0,ae I 0 0,ae I 0 0]/\b.B Y xs/\aC w Y) ⟨aK.newAt _ _ _ _ e4,F.O.kept al,d.O.kept al,N.O.below al,m.O.trans (al.mono m.O.size)⟩ ?_;clear e4 al F d N m r Te k0 k1 k2 X;rintro X ⟨b4,b1,b2,E,fN⟩;have k2:=b1.cell 2;have m0:=b4.cell 0;simp at k2 m0;by_cases SJ:kd=0
  ·have he:me=(⟨0,0,[]⟩,5):=by rw[W.O];unfold M.nu;rw[<-aI.O,<-mK.O,SJ];rfl
   subst he;subst SJ;obtain⟨d,m⟩:=bu b2 fN;clear b1 b2 b4 E fN k2;go_upto_region 5 with fail;have b2:=d.O;have j0:=b2.cell 0;have f0:=b2.frozen 0;have j1:=b2.cell 1;have f1:=b2.frozen 1;have j2:=b2.cell 2;have f2:=b2.frozen 2;have j3:=b2.cell 3;have f3:=b2.frozen 3;have j4:=b2.cell 4;have f4:=b2.frozen 4;have x:=b2;have y:=x.bC 0 (J V 0);have A:=y.bC 1 (J ar 0);have C:=A.bC 2 (J ar 0);have D:=C.bC 3 (ae I 0 0);have h:=D.bC 4 (ae I 0 0);have z0:=h.cell 0;have G:=h.cell 1;have z2:=h.cell 2;have z3:=h.cell 3;have z4:=h.cell 4;simp at j0 z0 j1 G j2 z2 j3 z3 j4 z4;clear b2 x y A C D h;go_wp2_with fail;refine ax (v:=aB #[cg #[J V 0,J ar 0,J ar 0,ae I 0 0,ae I 0 0],J V 5]) (by simp[aV,results274,go_sem,z0,G,z2,z3,z4]) rfl (mU.zero ?_ rfl);exact(((((m.O).setCell (p:=⟨r2,0,I⟩) g2 (J V 0)).setCell (p:=⟨r2,1,I⟩) g2 (J ar 0)).setCell (p:=⟨r2,2,I⟩) g2 (J ar 0)).setCell (p:=⟨r2,3,I⟩) g2 (ae I 0 0)).setCell (p:=⟨r2,4,I⟩) g2 (ae I 0 0)
  ·have Tw:(kd==0)=false:=by simpa using SJ
   obtain⟨Tf,F,d,f,m⟩:=gY (wz b.a b.n b.c xs X E.tl (lE HN.O) E.zero) b1 b2 b4 fN;clear b1 b2 b4 E fN;go_wp2_with fail;refine Tf.O.mono ?_;rintro e w1 ⟨⟨g,rfl,hg,hR⟩,bw⟩;obtain⟨SM,k,j,l⟩:=cA (F.O.kept bw) (d.O.kept bw) (f.O.kept bw) (⟨hR,.bn (m.O.trans (bw.mono m.O.size))⟩:RS w g w1 ⟨xs,0⟩);have SX:w.heap.size<=g:=aP m.O.size hg;clear bw hR F d f m Tf k2 m0 X hg;go_wp2_with fail;refine(kK g _ _ l.O.rd).mono ?_;obtain⟨⟨H,d1⟩,SG⟩:∃p,p=M.Rd.num ⟨xs,0⟩ 4:=⟨_,rfl⟩;have SY:d1.Ok:=by have:=(M.Rd.Ok.new xs).num 4;rw[<-SG]at this;exact this
   have To:d1.left.length<=200:=by have:=M.jn (M.Rd.Ok.new xs) (s:=4) z;rw[<-SG]at this;have h1:=HN.O;have h2:=SL.O;simp at this;omega
   rw[<-SG];have SZ:=au SG;clear SG;rintro e W1 ⟨rfl,R,u⟩;have S1:=au (l.O.call R u);have b1:=l.O.cw SM.O aR u;have b2:=l.O.cw k.O aR u;have b4:=l.O.cw j.O aR u;have m1:=b4.cell 1;have n1:=b4.frozen 1;simp at m1;obtain⟨F,d,f⟩:=bU b1 b2 b4;clear b1 b2 b4 R u l SM k j;go_upto_region 8 with fail;refine aW (λY=>RS w g Y d1/\aK Y r2 277 #[J V 0,J ar 0,J ar 0,ae I 0 0,ae I 0 0]/\aK Y r4 277 #[J V kd,J ar H,J ar 0,ae I 0 0,ae I 0 0]) ⟨S1.O.set f.O aR aR g4 1 _,d.O.dS (p:=⟨r4,1,I⟩) n24 _,by simpa using f.O.bC 1 (J ar H)⟩ ?_;clear S1 F d f m1 n1 W1;rintro Y ⟨S1,b2,b4⟩;obtain⟨⟨t,d2⟩,df⟩:∃p,p=M.Rd.num d1 4:=⟨_,rfl⟩;have P:(Lit.int ar t).wf=true:=by have:=ev S1.rd 4 z;rw[<-df]at this;exact Ca this
   have Tg:d2.Ok:=by have:=SY.num 4;rw[<-df]at this;exact this
   have Th:d2.left.length<=200:=by have:=M.jn SY (s:=4) z;rw[<-df]at this;simp at this;omega
   obtain⟨Ta,eI,SH,Tb,l,k,j⟩:=lV P Tg Th df S1 b2 b4;clear S1 b2 b4 P SY Tg To Th;go_wp2_with fail;refine(kK g _ _ l.O.rd).mono ?_;rw[<-df];clear df;rintro e W2 ⟨rfl,R,u⟩;have S1:=au (l.O.call R u);have b2:=l.O.cw k.O aR u;have b4:=l.O.cw j.O aR u;have m1:=b4.cell 2;have n1:=b4.frozen 2;simp at m1;obtain⟨d,f⟩:=bu b2 b4;clear b2 b4 R u l k j Y;go_upto_region 9 with fail;refine aW (λY=>RS w g Y d2/\aK Y r2 277 #[J V 0,J ar 0,J ar 0,ae I 0 0,ae I 0 0]/\aK Y r4 277 #[J V kd,J ar H,J ar t,ae I 0 0,ae I 0 0]) ⟨S1.O.set f.O aR aR g4 2 _,d.O.dS (p:=⟨r4,2,I⟩) n24 _,by simpa using f.O.bC 2 (J ar t)⟩ ?_;clear S1 d f m1 n1 W2;rintro Y ⟨S1,b2,b4⟩;have m0:=b4.cell 0;have m2:=b4.cell 2;simp at m0 m2;obtain⟨l,d,f⟩:=bU S1 b2 b4;clear S1 b2 b4;rcases Tn.O.resolve_left SJ with hk|hk|hk
   ·subst hk;have HM:=au (W.O.trans (Jj aI.O.symm mK.O.symm SZ.O.symm Tb.O.symm));have HS:=l;go_wp2_with fail;refine(qy g d2 _ HS.O.rd).mono ?_;rintro e w8 ⟨rfl,e8⟩;subst e8;have Q:=HS.O.u.below (aj _) (λi hi=>by cases hi;exact SX);by_cases he:d2.end_=0
    ·have o:me=(⟨1,t,[]⟩,0):=by rw[HM.O,if_neg (by simpa using he)]
     subst o;rw[he];clear he;have b4:=f.O;have p0:=b4.cell 0;have p1:=b4.cell 1;have p2:=b4.cell 2;have p3:=b4.cell 3;have p4:=b4.cell 4;simp at p0 p1 p2 p3 p4;have b2:=d.O;have j0:=b2.cell 0;have f0:=b2.frozen 0;have j1:=b2.cell 1;have f1:=b2.frozen 1;have j2:=b2.cell 2;have f2:=b2.frozen 2;have j3:=b2.cell 3;have f3:=b2.frozen 3;have j4:=b2.cell 4;have f4:=b2.frozen 4;have x:=b2;have y:=x.bC 0 (J V 1);have A:=y.bC 1 (J ar H);have C:=A.bC 2 (J ar t);have D:=C.bC 3 (ae I 0 0);have h:=D.bC 4 (ae I 0 0);have z0:=h.cell 0;have G:=h.cell 1;have z2:=h.cell 2;have z3:=h.cell 3;have z4:=h.cell 4;simp at j0 z0 j1 G j2 z2 j3 z3 j4 z4;clear b2 x y A C D h;go_wp2_with fail;refine ax (v:=aB #[cg #[J V 1,J ar H,J ar t,ae I 0 0,ae I 0 0],J V 0]) (by simp[aV,results274,go_sem,z0,G,z2,z3,z4]) rfl ?_;have P:=Ta.O;refine mU.full (w:=w) 1 H t (ae I 0 0) .nil ([]) [] ⟨rfl,aJ ⟨rfl,rfl⟩⟩ trivial dt P ?_;exact(((((Q).setCell (p:=⟨r2,0,I⟩) g2 (J V 1)).setCell (p:=⟨r2,1,I⟩) g2 (J ar H)).setCell (p:=⟨r2,2,I⟩) g2 (J ar t)).setCell (p:=⟨r2,3,I⟩) g2 (ae I 0 0)).setCell (p:=⟨r2,4,I⟩) g2 (ae I 0 0)
    ·have Ti:(d2.end_ !=0)=true:=by simpa using he
     have o:me=(⟨0,0,[]⟩,d2.end_):=by rw[HM.O,if_pos he]
     subst o;clear he;have b2:=d.O;have j0:=b2.cell 0;have f0:=b2.frozen 0;have j1:=b2.cell 1;have f1:=b2.frozen 1;have j2:=b2.cell 2;have f2:=b2.frozen 2;have j3:=b2.cell 3;have f3:=b2.frozen 3;have j4:=b2.cell 4;have f4:=b2.frozen 4;have x:=b2;have y:=x.bC 0 (J V 0);have A:=y.bC 1 (J ar 0);have C:=A.bC 2 (J ar 0);have D:=C.bC 3 (ae I 0 0);have h:=D.bC 4 (ae I 0 0);have z0:=h.cell 0;have G:=h.cell 1;have z2:=h.cell 2;have z3:=h.cell 3;have z4:=h.cell 4;simp at j0 z0 j1 G j2 z2 j3 z3 j4 z4;clear b2 x y A C D h;go_wp2_with fail;refine ax (v:=aB #[cg #[J V 0,J ar 0,J ar 0,ae I 0 0,ae I 0 0],J V d2.end_]) (by simp[aV,results274,go_sem,z0,G,z2,z3,z4]) rfl (mU.zero ?_ rfl);exact(((((Q).setCell (p:=⟨r2,0,I⟩) g2 (J V 0)).setCell (p:=⟨r2,1,I⟩) g2 (J ar 0)).setCell (p:=⟨r2,2,I⟩) g2 (J ar 0)).setCell (p:=⟨r2,3,I⟩) g2 (ae I 0 0)).setCell (p:=⟨r2,4,I⟩) g2 (ae I 0 0)
   ·subst hk;obtain⟨bad,SI⟩:=dH ((decide (t≠0)||(decide (d2.left.length=0)||decide (d2.left.length % 8≠0))):Bool);obtain⟨S,L⟩:=dH (if bad=true then d2.fail 2 else d2);have HM:=au (W.O.trans (Ji aI.O.symm mK.O.symm SZ.O.symm Tb.O.symm S (by rw[L,SI];simp)));have Tj:S.Ok:=by rw[L];split;exact eI.O.fail 2;exact eI.O
    have Tk:S.left.length<=200:=by have:=SH.O;have:=M.se d2 2;rw[L];split<;>omega
    obtain⟨U,Tc,SN,SO⟩:=cA SI L Tj Tk;clear SI L Tj Tk;go_upto_region 11 with fail;go_cut [44] (λv wc=>v=ai bad/\RS w g wc d2/\aK wc r2 277 #[J V 0,J ar 0,J ar 0,ae I 0 0,ae I 0 0]/\aK wc r4 277 #[J V 2,J ar H,J ar t,ae I 0 0,ae I 0 0]);case first =>
     by_cases hx:t=0
     ·have Tp:(t !=0)=false:=by simpa using hx
      by_cases hl:d2.left.length=0
      ·have Tq:((d2.left.length:Int)==0)=true:=by simp[hl]
       have E:bad=true:=by rw[U.O];simp[hx,hl]
       have HB:=au E;clear hx hl E;go_wp2_with (go_at_call 53;refine(lr g d2 _ l.O.rd).mono ?_;rintro e w3 ⟨rfl,rfl⟩);go_meet;exact⟨by rw[HB.O],l.O,d.O,f.O⟩
      ·have Tq:((d2.left.length:Int)==0)=false:=by simp;simpa using hl
       have E:bad=((d2.left.length:Int) % 8 !=0):=by rw[U.O,Bool.eq_iff_iff];simp[hx,hl];omega
       have HB:=au E;clear hx hl E;go_wp2_with (go_at_call 53;refine(lr g d2 _ l.O.rd).mono ?_;rintro e w3 ⟨rfl,rfl⟩);go_meet;exact⟨by rw[HB.O],l.O,d.O,f.O⟩
     ·have Tp:(t !=0)=true:=by simpa using hx
      have E:bad=true:=by rw[U.O];simp[hx]
      have HB:=au E;clear hx E;go_wp2_with fail;go_meet;exact⟨by rw[HB.O],l.O,d.O,f.O⟩
    case rest =>
     obtain⟨rfl,gX,b2,b4⟩:=hcut;clear l d f;obtain⟨l,d,f⟩:=bU gX b2 b4;clear gX b2 b4 m0 m2;go_upto_if 44 with fail;go_cut [] (λwd=>RS w g wd S/\aK wd r2 277 #[J V 0,J ar 0,J ar 0,ae I 0 0,ae I 0 0]/\aK wd r4 277 #[J V 2,J ar H,J ar t,ae I 0 0,ae I 0 0]);case first =>
      cases bad with
      |false =>
       have e:S=d2:=Tc.O;go_wp2_with fail;go_meet;exact⟨e ▸ l.O,d.O,f.O⟩
      |true =>
       have e:S=d2.fail 2:=Tc.O;have HE:=au e;clear e;go_wp2_with (go_at_call 51;refine(mP g d2 2 _ l.O.rd).mono ?_;rw[<-HE.O];rintro e W3 ⟨rfl,R,u⟩;have HR:=au R;have HU:=au u;clear R u);go_meet;exact⟨l.O.call HR.O HU.O,l.O.cw d.O aR HU.O,l.O.cw f.O aR HU.O⟩
     case rest =>
      obtain⟨gX,b2,b4⟩:=hcut;clear l d f eI SH Tc U W;obtain⟨l,d,f⟩:=bU gX b2 b4;have eI:=SN;have SH:=SO;clear gX b2 b4 SN SO;go_upto_region 13 with fail;go_wp2_with fail;obtain⟨⟨ak,d3⟩,Tl⟩:∃p,p=M.iE 30 S:=⟨_,rfl⟩;have SK:=Ct g S _ l.O.rd eI.O SH.O;rw[<-Tl]at SK HM;simp only at SK HM;clear Tl;refine SK.mono ?_;clear SK;rintro e w7 ⟨⟨va,q,rfl,own,fit,Tm⟩,R,u⟩;have own:=qS own l.O.u.size;obtain⟨K,c5,rfl⟩:=bA own;have T:=l.O.call R u;have b2:=l.O.cw d.O aR u;have b4:=l.O.cw f.O aR u;have m3:=b4.cell 3;have f3:=b4.frozen 3;simp at m3;have gX:=l;obtain⟨k,j,HT,HO,HF,Tr⟩:=lH b2 b4 T own fit Tm;clear b2 b4 R u l d f T own fit Tm;go_upto_region 16 with fail;obtain⟨HS,d,Ts⟩:=bU (HT.O.set j.O aR aR g4 3 (ae K ak.length c5)) (k.O.dS (p:=⟨r4,3,I⟩) n24 (ae K ak.length c5)) (kJ HO.O (ej HO.O j.O aR) 3 (ae K ak.length c5));have f:Hd (aK _ r4 277 #[J V 2,J ar H,J ar t,ae K ak.length c5,ae I 0 0]):=au (by simpa using j.O.bC 3 (ae K ak.length c5));clear k j HT HO m3 f3;go_wp2_with fail;refine(qy g d3 _ HS.O.rd).mono ?_;rintro e w8 ⟨rfl,e8⟩;subst e8;have Q:=HS.O.u.below (aj _) (λi hi=>by cases hi;exact SX);by_cases he:d3.end_=0
      ·have o:me=(⟨2,t,ak⟩,0):=by rw[HM.O,if_neg (by simpa using he)]
       subst o;rw[he];clear he;have b4:=f.O;have p0:=b4.cell 0;have p1:=b4.cell 1;have p2:=b4.cell 2;have p3:=b4.cell 3;have p4:=b4.cell 4;simp at p0 p1 p2 p3 p4;have O0:=Ts.O;have x:=d.O;have O1:=kJ O0 (ej O0 x aR) 0 (J V 2);have y:=x.bC 0 (J V 2);have O2:=kJ O1 (ej O1 y aR) 1 (J ar H);have A:=y.bC 1 (J ar H);have O3:=kJ O2 (ej O2 A aR) 2 (J ar t);have C:=A.bC 2 (J ar t);have O4:=kJ O3 (ej O3 C aR) 3 (ae K ak.length c5);have D:=C.bC 3 (ae K ak.length c5);have O5:=kJ O4 (ej O4 D aR) 4 (ae I 0 0);have h:=D.bC 4 (ae I 0 0);have Tt:=au O5;clear O0 O1 O2 O3 O4 O5 x y A C D h;have b2:=d.O;have j0:=b2.cell 0;have f0:=b2.frozen 0;have j1:=b2.cell 1;have f1:=b2.frozen 1;have j2:=b2.cell 2;have f2:=b2.frozen 2;have j3:=b2.cell 3;have f3:=b2.frozen 3;have j4:=b2.cell 4;have f4:=b2.frozen 4;have x:=b2;have y:=x.bC 0 (J V 2);have A:=y.bC 1 (J ar H);have C:=A.bC 2 (J ar t);have D:=C.bC 3 (ae K ak.length c5);have h:=D.bC 4 (ae I 0 0);have z0:=h.cell 0;have G:=h.cell 1;have z2:=h.cell 2;have z3:=h.cell 3;have z4:=h.cell 4;simp at j0 z0 j1 G j2 z2 j3 z3 j4 z4;clear b2 x y A C D h;go_wp2_with fail;refine ax (v:=aB #[cg #[J V 2,J ar H,J ar t,ae K ak.length c5,ae I 0 0],J V 0]) (by simp[aV,results274,go_sem,z0,G,z2,z3,z4]) rfl ?_;have P:=Ta.O;refine mU.full (w:=w) 2 H t (ae K ak.length c5) .nil (ak) q Tt.O HF.O Tr.O P ?_;exact(((((Q).setCell (p:=⟨r2,0,I⟩) g2 (J V 2)).setCell (p:=⟨r2,1,I⟩) g2 (J ar H)).setCell (p:=⟨r2,2,I⟩) g2 (J ar t)).setCell (p:=⟨r2,3,I⟩) g2 (ae K ak.length c5)).setCell (p:=⟨r2,4,I⟩) g2 (ae I 0 0)
      ·have Ti:(d3.end_ !=0)=true:=by simpa using he
       have o:me=(⟨0,0,[]⟩,d3.end_):=by rw[HM.O,if_pos he]
       subst o;clear he;have b2:=d.O;have j0:=b2.cell 0;have f0:=b2.frozen 0;have j1:=b2.cell 1;have f1:=b2.frozen 1;have j2:=b2.cell 2;have f2:=b2.frozen 2;have j3:=b2.cell 3;have f3:=b2.frozen 3;have j4:=b2.cell 4;have f4:=b2.frozen 4;have x:=b2;have y:=x.bC 0 (J V 0);have A:=y.bC 1 (J ar 0);have C:=A.bC 2 (J ar 0);have D:=C.bC 3 (ae I 0 0);have h:=D.bC 4 (ae I 0 0);have z0:=h.cell 0;have G:=h.cell 1;have z2:=h.cell 2;have z3:=h.cell 3;have z4:=h.cell 4;simp at j0 z0 j1 G j2 z2 j3 z3 j4 z4;clear b2 x y A C D h;go_wp2_with fail;refine ax (v:=aB #[cg #[J V 0,J ar 0,J ar 0,ae I 0 0,ae I 0 0],J V d3.end_]) (by simp[aV,results274,go_sem,z0,G,z2,z3,z4]) rfl (mU.zero ?_ rfl);exact(((((Q).setCell (p:=⟨r2,0,I⟩) g2 (J V 0)).setCell (p:=⟨r2,1,I⟩) g2 (J ar 0)).setCell (p:=⟨r2,2,I⟩) g2 (J ar 0)).setCell (p:=⟨r2,3,I⟩) g2 (ae I 0 0)).setCell (p:=⟨r2,4,I⟩) g2 (ae I 0 0)
   ·subst hk;obtain⟨S,L⟩:=dH (M.lp 60 [] (if d2.left.length=0 then d2.fail 2 else d2));have HM:=au (W.O.trans (Jh aI.O.symm mK.O.symm SZ.O.symm Tb.O.symm S L));go_upto_region 15 with fail;go_wp2_with fail;refine(Cr g d2 _ l.O.rd eI.O SH.O).mono ?_;rw[<-L];rintro e w7 ⟨⟨K,n5,c5,rfl⟩,R,u⟩;have T:=l.O.call R u;have b2:=l.O.cw d.O aR u;have b4:=l.O.cw f.O aR u;have m3:=b4.cell 4;have f3:=b4.frozen 4;simp at m3;obtain⟨k,j,HT⟩:=bU b2 b4 T;clear b2 b4 R u l d f T L;go_upto_region 16 with fail;obtain⟨HS,d⟩:=bu (HT.O.set j.O aR aR g4 4 (ae K n5 c5)) (k.O.dS (p:=⟨r4,4,I⟩) n24 (ae K n5 c5));have f:Hd (aK _ r4 277 #[J V 3,J ar H,J ar t,ae I 0 0,ae K n5 c5]):=au (by simpa using j.O.bC 4 (ae K n5 c5));clear k j HT m3 f3;go_wp2_with fail;refine(qy g S _ HS.O.rd).mono ?_;rintro e w8 ⟨rfl,e8⟩;subst e8;have Q:=HS.O.u.below (aj _) (λi hi=>by cases hi;exact SX);by_cases he:S.end_=0
    ·have o:me=(⟨3,t,[]⟩,0):=by rw[HM.O,if_neg (by simpa using he)]
     subst o;rw[he];clear he;have b4:=f.O;have p0:=b4.cell 0;have p1:=b4.cell 1;have p2:=b4.cell 2;have p3:=b4.cell 3;have p4:=b4.cell 4;simp at p0 p1 p2 p3 p4;have b2:=d.O;have j0:=b2.cell 0;have f0:=b2.frozen 0;have j1:=b2.cell 1;have f1:=b2.frozen 1;have j2:=b2.cell 2;have f2:=b2.frozen 2;have j3:=b2.cell 3;have f3:=b2.frozen 3;have j4:=b2.cell 4;have f4:=b2.frozen 4;have x:=b2;have y:=x.bC 0 (J V 3);have A:=y.bC 1 (J ar H);have C:=A.bC 2 (J ar t);have D:=C.bC 3 (ae I 0 0);have h:=D.bC 4 (ae K n5 c5);have z0:=h.cell 0;have G:=h.cell 1;have z2:=h.cell 2;have z3:=h.cell 3;have z4:=h.cell 4;simp at j0 z0 j1 G j2 z2 j3 z3 j4 z4;clear b2 x y A C D h;go_wp2_with fail;refine ax (v:=aB #[cg #[J V 3,J ar H,J ar t,ae I 0 0,ae K n5 c5],J V 0]) (by simp[aV,results274,go_sem,z0,G,z2,z3,z4]) rfl ?_;have P:=Ta.O;refine mU.full (w:=w) 3 H t (ae I 0 0) ⟨K,n5,c5⟩ ([]) [] ⟨rfl,aJ ⟨rfl,rfl⟩⟩ trivial dt P ?_;exact(((((Q).setCell (p:=⟨r2,0,I⟩) g2 (J V 3)).setCell (p:=⟨r2,1,I⟩) g2 (J ar H)).setCell (p:=⟨r2,2,I⟩) g2 (J ar t)).setCell (p:=⟨r2,3,I⟩) g2 (ae I 0 0)).setCell (p:=⟨r2,4,I⟩) g2 (ae K n5 c5)
    ·have Ti:(S.end_ !=0)=true:=by simpa using he
     have o:me=(⟨0,0,[]⟩,S.end_):=by rw[HM.O,if_pos he]
     subst o;clear he;have b2:=d.O;have j0:=b2.cell 0;have f0:=b2.frozen 0;have j1:=b2.cell 1;have f1:=b2.frozen 1;have j2:=b2.cell 2;have f2:=b2.frozen 2;have j3:=b2.cell 3;have f3:=b2.frozen 3;have j4:=b2.cell 4;have f4:=b2.frozen 4;have x:=b2;have y:=x.bC 0 (J V 0);have A:=y.bC 1 (J ar 0);have C:=A.bC 2 (J ar 0);have D:=C.bC 3 (ae I 0 0);have h:=D.bC 4 (ae I 0 0);have z0:=h.cell 0;have G:=h.cell 1;have z2:=h.cell 2;have z3:=h.cell 3;have z4:=h.cell 4;simp at j0 z0 j1 G j2 z2 j3 z3 j4 z4;clear b2 x y A C D h;go_wp2_with fail;refine ax (v:=aB #[cg #[J V 0,J ar 0,J ar 0,ae I 0 0,ae I 0 0],J V S.end_]) (by simp[aV,results274,go_sem,z0,G,z2,z3,z4]) rfl (mU.zero ?_ rfl);exact(((((Q).setCell (p:=⟨r2,0,I⟩) g2 (J V 0)).setCell (p:=⟨r2,1,I⟩) g2 (J ar 0)).setCell (p:=⟨r2,2,I⟩) g2 (J ar 0)).setCell (p:=⟨r2,3,I⟩) g2 (ae I 0 0)).setCell (p:=⟨r2,4,I⟩) g2 (ae I 0 0)
end Go.Proofs.YtkfblammcilfhaaGreatDoor
