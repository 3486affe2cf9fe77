import Derived.Test.YtkfblammcilfhaaGreatDoorRows
import Derived.Below
import Derived.Carry
import Derived.HandedShaped
import Derived.Handed
import Derived.LaidLaws
import Derived.Lay
import Derived.Stop.LaidErr
import Derived.MakeChecks
import Derived.Shelf.Vars
import Derived.Lib.LaidTab
import Derived.Test.YtkfblammcilfhaaGreatDoorP18
set_option linter.all false
set_option maxRecDepth 100000
set_option maxHeartbeats 100000000
open Go.ChangeShapes Go.WideShapes Go.ChangeAt Go.RowKit Go.Proofs.Tryz
open Go renaming World->aw,Calls->aF,wpList_load_mid->gQ,Program->jB,MemPlace->tE,wp_region_held_drew->fC,wpAnyH_ready->cH,wpAnyH_done->gV,results->aV
open Go.RowKit.Below renaming refl->ao
open Nat renaming le_refl->aj,eq_zero_or_pos->iV,zero_add->cO,le_trans->aP,zero_mul->qA,add_mul->jG
open Go.Proofs.Tryz renaming prog->af
open List renaming flatten_cons->jM,length_eq_zero_iff->cU,getElem?_eq_getElem->ay,getElem_mem->dy,mem_cons_of_mem->dI,mem_cons_self->ec,mem_cons->fw,getElem?_eq_some_iff->aS,range->kq,mem_map->eU,getElem?_map->dE,length_append->cG,drop_zero->mI
open Bool renaming and_eq_true->cM
open Go.Lit renaming wf->pD,int->dU
open Go.IntKind renaming i64->V,min->jI,max->jJ,signed->fR,bits->gM,u32->ar,u16->aN,u8->bI
open Go.Joins renaming ownsRow_form->lR
open Go.DataW renaming trod->mL
open Option.some renaming injEq->bf,inj->ny
open Go.Act renaming put->aA
open Go.AllReadyH renaming cons->bH,nil->cy
open Go.Value renaming int->J,string->jA,slice->ae,bool->ai,pointer->aq,tuple->aB,agg->cg
open Go.Ending renaming returned->av
open Option renaming none->I,some->Z
namespace Go.Proofs.YtkfblammcilfhaaGreatDoor
section
def Bt{R:M.Room}{G:Int->M.ij}{n:Nat}(h:M.lG R G n):M.lG (M.eQ R) G n:=⟨show M.Inv (R.count λc=>{ c with cI:=c.cI+1 }) G n from h.inv.count _,h.wf.Nh (show M.gk R (R.count λc=>{ c with cI:=c.cI+1 }) from M.gk.count R _),h.back⟩
def zF{l:List M.Act}(h:qV l=false):l.length<=120/\∀x∈l,x.b.length<=400:=by
 unfold qV at h;rw[Bool.or_eq_false_iff,decide_eq_false_iff_not,List.any_eq_false]at h;refine⟨z,λx a=>?_⟩;have:=h.2 x a;simp at this;exact this
def Hs(S:M.Room)(s:Int):De (M.eQ S) S s:=⟨rfl,rfl,rfl,rfl⟩
structure rQ(w wr:aw)(B C:RB)(R S:M.Room)(N:Nat)(bl:List (Nat×TypeId×Array Value))(g n c:Nat)(q:List (List Value)):Prop where
 tb:kB w wr B C R S N bl
 own:wr.ownsRow w.heap.size 45 14 (ae (Z ⟨g,0,I⟩) n c) n q.flatten
 off:sM wr B C g
section
variable {w wr w':aw} {B C B' C':RB} {R S R' S':M.Room} {N N':Nat} {bl:List (Nat×TypeId×Array Value)} {g n c:Nat} {q:List (List Value)}
def rQ.below(h:rQ w wr B C R S N bl g n c q)(b:aC wr w'):rQ w w' B C R S N bl g n c q:=⟨h.tb.below b,gI h.own b,h.off.below b⟩
def rQ.mono(h:rQ w wr B C R S N bl g n c q)(k:N<=N'):rQ w wr B C R S N' bl g n c q:=⟨h.tb.mono k,h.own,h.off⟩
def rQ.left(h:rQ w wr B C R S N bl g n c q)(hR:aL w' B' R' N')(a:fK wr w' B B')(b:N<=N'):rQ w w' B' C R' S N' bl g n c q:=
 ⟨h.tb.left hR a b,du h.own a.fr.u (λi d q=>by cases d;exact h.off.1 q),h.off.left a⟩
def rQ.right(h:rQ w wr B C R S N bl g n c q)(hR:aL w' C' S' N')(a:fK wr w' C C')(b:N<=N'):rQ w w' B C' R S' N' bl g n c q:=
 ⟨h.tb.right hR a b,du h.own a.fr.u (λi d q=>by cases d;exact h.off.2.1 q),h.off.right a⟩
def rQ.alloc(h:rQ w wr B C R S N bl g n c q)(t:TypeId)(cs:Array Value){r:Nat}(hr:r=wr.heap.size):rQ w (wr.alloc (.cells cs t)) B C R S N ((r,t,cs)::bl) g n c q:=
 ⟨h.tb.alloc t cs hr,gI h.own ((ao _ _).alloc (aj _) _),h.off.below ((ao _ _).alloc (aj _) _)⟩
def rQ.drop(h:rQ w wr B C R S N bl g n c q){a:List (Nat×TypeId×Array Value)}(b:∀x∈a,x∈bl):rQ w wr B C R S N a g n c q:=⟨h.tb.drop b,h.own,h.off⟩
end
def GI{R:M.Room}{G:Int->M.ij}{n:Nat}(h:M.lG R G n)(b:M.cQ)(a:∀y∈b,0<=y/\y<256):M.lG (R.fT b).1 G (n+1):=
 ⟨(h.inv.fT b a).more z,(h.act ⟨0,0,0,0,b,(0,0),false,0,0,0,0,0,0⟩ ⟨a,dt,dt,dt⟩ dt).wf,by
  have:=h.back
  have e:(R.fT b).1.returned=R.returned:=by unfold M.Room.fT;split<;>rfl
  rw[e];omega⟩
abbrev GR(c:M.nH):Array Value:=#[J V c.jw,J V c.cI,J V c.gR,J V c.ff,J V c.fP]
def PC:(af.info? 45).map (λi=>(i.zero,i.size,i.bytes))=Z (Z (cg #[J V 0,J V 0,J V 0,J V 0,ae I 0 0,J V 0,J V 0,ai false,J ar 0,J ar 0,J aN 0,J ar 0,J ar 0,J ar 0]),14,104):=cC
def qU:M.Act:=⟨9,0,0,0,[],(0,0),false,0,0,0,0,0,0⟩
def AP(w:aw)(x:M.Act)(c:List Value):Prop:=∃d:Sl,c=(jQ x d).toList/\pL w d.a d.n d.c x.b
def vA{w:aw}{b:Nat}:∀(l:List M.Act) (off:Nat),(∀(i:Nat) x,l[i]? = Z x->Fi w b (off+i*14) x)->∃q,Fit (AP w) l q/\∀j u,q.flatten[j]? = Z u->w.cell? ⟨b,off+j,I⟩=Z u
 |[],off,_=>⟨[],trivial,dt⟩
 |x::l,off,h=>by
  obtain⟨c,r,g⟩:=h 0 x rfl;obtain⟨q,f,k⟩:=vA l (off+14) (λi y hy=>by
   have a:=h (i+1) y (by simpa using hy)
   rw[show off+(i+1)*14=off+14+i*14 by omega]at a
   exact a)
  refine⟨(jQ x c).toList::q,⟨⟨c,rfl,g⟩,f⟩,λj u hu=>?_⟩;rw[jM]at hu;by_cases d:j<14
  ·rw[List.getElem?_append_left (by simpa using d)]at hu;have a:=r j u hu;rw[show off+0*14+j=off+j by omega]at a;exact a
  ·rw[List.getElem?_append_right (by simpa using d)]at hu;have a:=k _ u hu;have e:(jQ x c).toList.length=14:=rfl;rw[e,show off+14+(j-14)=off+j by omega]at a;exact a
def Ff{w:aw}{x:M.Act}{c:List Value}(h:AP w x c):c.length=14:=by obtain⟨a,rfl,_⟩:=h;rfl
def Hu{w:aw}{A:Option Addr}{n:Nat}{l:List M.Act}(h:pZ w A n l):∃q,Fit (AP w) l q/\q.flatten.length=n*14/\∀j u,q.flatten[j]? = Z u->∃b off,A=Z ⟨b,off,I⟩/\w.cell? ⟨b,off+j,I⟩=Z u:=by
 obtain⟨h1,h2,h3⟩:=h;rcases iV n with h0|h0
 ·subst h0;have e:l=[]:=cU.1 h1;subst e;exact⟨[],trivial,rfl,dt⟩
 ·obtain⟨b,off,e,k⟩:=h3 h0;obtain⟨q,f,a⟩:=vA l off k;refine⟨q,f,?_,λj u hu=>⟨b,off,e,a j u hu⟩⟩;have d:∀c∈q,c.length=14:=Fit.len (R:=AP w) (λx c k=>Ff k) f;rw[wK d,f.length,h1]
def AP.one{w:aw}{x:M.Act}{c:List Value}(h:AP w x c):∀u∈c,u.oneCell'=true:=by
 obtain⟨a,rfl,_⟩:=h;intro u hu;simp[jQ]at hu;repeat (first|(subst hu;rfl)|(rcases hu with rfl|hu;rfl))
def Ld:(af.info? 59).map (·.size)=Z 5:=cC
def qL{w:aw}{g:Nat}{t:TypeId}{cs:Array Value}(h:aK w g t cs):w.rangeAt g 0 cs.toList:=λj v a=>by rw[cO];exact(h.cell j).trans (by simpa using a)
def IM(w:aw):Prop:=∀W,aC w W->aF af 8 #[] W λe W'=>e=av (ai true)/\aC W W'
def NR(aG eJ cX eA ek aT:Int)(A1 A2 A3:Option Addr)(n1 n2 n3 c1 c2 c3:Nat)(l more:List M.Act)(b:M.cQ)(w:aw)(h1:pZ w A1 n1 l)(h2:pZ w A2 n2 more)(h3:pL w A3 n3 c3 b)(VG:A2=I->c2=0)(HA:IM w) :
  aF af 7 #[cg #[J V aG,J V eJ,J V cX,J V eA,J V ek,J V aT],ae A1 n1 c1,ae A2 n2 c2,ae A3 n3 c3] w λe w'=>e=av (ai true)/\aC w w':=by
 obtain⟨H1,H2,H3,UJ⟩:=cA h1 h2 h3 HA;have Wa:=h1.1;have Wb:=h2.1;clear h1 h2 h3 HA;go_enter func7,ntmps7;go_upto_region 1 with fail;obtain⟨r4,e4⟩:=dH w.heap.size;rw[<-e4];refine aW (λX=>aK X r4 25 #[J V aG,J V eJ,J V cX,J V eA,J V ek,J V aT]/\aC w X) ⟨aK.newAt _ _ _ _ e4,(ao _ w).alloc (aj _) _⟩ ?_;clear e4;rintro X ⟨b4,bX⟩;obtain⟨UK,Tl,Uk⟩:=bU (UJ.O X bX) b4 bX;clear b4 bX UJ;go_upto_region 3 with(go_at_call 8;refine UK.O.mono ?_;rintro e w2 ⟨rfl,b2⟩;have Ul:=au b2;clear b2)
 have bw:=Uk.O.trans (Ul.O.mono Uk.O.size);have b4:=Tl.O.kept Ul.O;have k0:=b4.cell 0;have k1:=b4.cell 1;have k2:=b4.cell 2;have k3:=b4.cell 3;have k4:=b4.cell 4;have k5:=b4.cell 5;simp at k0 k1 k2 k3 k4 k5;obtain⟨Tl,Ta⟩:=bu b4 bw;clear b4 bw Uk Ul UK;cases hc:M.jr aG eJ cX eA ek aT with
 |false =>
  have UL:=λW=>xV aG eJ cX eA ek aT W hc;have HN:=au UL;clear UL hc;go_wp2_with (go_at_call 9;refine(HN.O _).mono ?_;rintro e w3 ⟨rfl,b3⟩;have Ta:=au (Ta.O.trans (b3.mono Ta.O.size));have k0:=aM b3 k0;have k1:=aM b3 k1;have k2:=aM b3 k2;have k3:=aM b3 k3;have k4:=aM b3 k4;have k5:=aM b3 k5;clear b3);go_ret;exact⟨rfl,Ta.O⟩
 |true =>
  obtain⟨rm,rfl⟩:∃rm:Nat,aG=(rm:Int):=by
   have q:=hc;simp only[M.jr,cM,decide_eq_true_eq]at q;exact⟨aG.toNat,z⟩
  have UM:1<=rm/\rm<=8:=by
   have q:=hc;simp only[M.jr,cM,decide_eq_true_eq]at q;omega
  obtain⟨cf,UN⟩:=dH (⟨rm,eJ,cX,eA,ek,aT⟩:M.Ou);have SL:=λW=>tM rm eJ cX eA ek aT W hc;rw[<-UN]at SL;have Um:cf.aG=rm:=by rw[UN]
  have SM:=au SL;clear SL hc;go_upto_region 4 with(go_at_call 9;refine(SM.O _).mono ?_;rintro e w3 ⟨⟨B,rfl,hR,SQ⟩,b3⟩;have SK:=au b3;have HR:=au hR;have Tp:=au SQ;clear b3 hR SQ)
  have k0:=aM SK.O k0;have k1:=aM SK.O k1;have k2:=aM SK.O k2;have k3:=aM SK.O k3;have k4:=aM SK.O k4;have k5:=aM SK.O k5;go_upto_region 5 with(go_at_call 9;refine(SM.O _).mono ?_;rintro e w4 ⟨⟨C,rfl,hS,SQ⟩,b4⟩;have Tq:=au b4;have HS:=au hS;have SN:=au SQ;clear b4 hS SQ)
  have f:kB w w4 B C (.new cf) (.new cf) 0 [(r4,25,#[J V (rm:Int),J V eJ,J V cX,J V eA,J V ek,J V aT])]:=by
   have VH:=Ta.O.size;have Wc:=SK.O.size;have Wd:=Tl.O.lt;refine⟨⟨HR.O.below Tq.O,HS.O,λi q k=>?_,λi q=>?_,λi q=>?_⟩,(Ta.O.trans (SK.O.mono VH)).trans (Tq.O.mono z),λx hx=>?_⟩
   ·have:=HR.O.lt i q;have:=SN.O i k;omega
   ·have:=Tp.O i q;omega
   ·have:=SN.O i q;omega
   ·simp at hx;subst hx;refine⟨(Tl.O.kept SK.O).kept Tq.O,λq=>?_,λq=>?_,?_⟩
    ·have:=Tp.O _ q;simp only at this;omega
    ·have:=SN.O _ q;simp only at this;omega
    ·have:=Tq.O.size;simp only;omega
  have d:=au f;clear f SK Tq HR HS Tp SN SM Ta Tl k0 k1 k2 k3 k4 k5;have UO:=λW (b:aC w W)=>xt A1 n1 c1 l W (H1.O.below b);have UP:=λW (b:aC w W)=>xt A2 n2 c2 more W (H2.O.below b);obtain⟨SU,Tm⟩:=bu UO UP;clear UO UP;cases SV:qV l with
  |true =>
   rw[SV]at SU;clear SV;go_wp2_with (go_at_call 10;refine(SU.O _ d.O.bw).mono ?_;rintro e w9 ⟨rfl,D⟩;have d:=au (d.O.below D);clear D);go_ret;exact⟨rfl,d.O.bw⟩
  |false =>
   cases Tn:qV more with
   |true =>
    rw[SV]at SU;rw[Tn]at Tm;clear SV Tn;go_wp2_with (go_at_call 10;first|(with_reducible refine(SU.O _ d.O.bw).mono ?_;rintro e w9 ⟨rfl,D⟩;have d:=au (d.O.below D);clear D)|(with_reducible refine(Tm.O _ d.O.bw).mono ?_;rintro e w9 ⟨rfl,D⟩;have d:=au (d.O.below D);clear D));go_ret;exact⟨rfl,d.O.bw⟩
   |false =>
    rw[SV]at SU;rw[Tn]at Tm;by_cases We:400<n3
    ·have UQ:(400:Int)<(n3:Int):=z;clear SV Tn;go_wp2_with (go_at_call 10;first|(with_reducible refine(SU.O _ d.O.bw).mono ?_;rintro e w9 ⟨rfl,D⟩;have d:=au (d.O.below D);clear D)|(with_reducible refine(Tm.O _ d.O.bw).mono ?_;rintro e w9 ⟨rfl,D⟩;have d:=au (d.O.below D);clear D));go_ret;exact⟨rfl,d.O.bw⟩
    have UQ:¬(400:Int)<(n3:Int):=z;have VI:=zF SV;have VJ:=zF Tn;clear SV Tn;go_upto_region 8 with(go_at_call 10;first|(with_reducible refine(SU.O _ d.O.bw).mono ?_;rintro e w9 ⟨rfl,D⟩;have d:=au (d.O.below D);clear D)|(with_reducible refine(Tm.O _ d.O.bw).mono ?_;rintro e w9 ⟨rfl,D⟩;have d:=au (d.O.below D);clear D))
    clear SU Tm;obtain⟨BL,Un⟩:=dH ([(r4,25,#[J V (rm:Int),J V eJ,J V cX,J V eA,J V ek,J V aT])]:List (Nat×TypeId×Array Value));rw[<-Un]at d;have UR:=au Un;clear Un Tl k0 k1 k2 k3 k4 k5;go_loopw [58] (λi wr=>∃(k:Nat) (Bk Ck:RB) (R:M.Room) (G:Int->M.ij),i=J V k/\k<=n1/\Bk.g=B.g/\Ck.g=C.g/\kB w wr Bk Ck R R (40*k) BL/\M.lG R G k/\R.cN=false/\R.dA=cf) (λi _=>n1-(intOf i).toNat);case atStart=>exact⟨0,B,C,_,λ_=>⟨0,0,0,0,[],[],[]⟩,rfl,z,rfl,rfl,d.O,.start cf (by rw[Um];exact UM.1) _,rfl,rfl⟩
    case round =>
     clear d;obtain⟨k,Bk,Ck,R,G,rfl,hk,U,gX,f,df,SW,mK⟩:=hrel;by_cases Wg:k<n1
     ·have SX:((k:Int)<(n1:Int)):=z;have Uo:k<l.length:=z;obtain⟨bb,off,hA1,hc⟩:=H1.O.2.2 z;obtain⟨sl,q1,q2⟩:=hc k l[k] (ay Uo);have SO:=H1.O.2.1 l[k] (dy Uo);have Tr:=VI.2 l[k] (dy Uo);have q1:wr.rangeAt bb (off+k*14) (jQ l[k] sl).toList:=λj v hv=>aM f.bw (q1 j v hv);generalize l[k]=x at q1 q2 SO Tr;have Ts:sl.n<=400:=by rw[<-q2.len];exact Tr
      subst hA1;obtain⟨d,HQ,Tt,To,T⟩:=gY f q1 q2 SO df;clear hc q1 q2 SO Tr f df;by_cases h8:x.nv=8
      ·have US:=d.O.alloc 45 (jQ x sl) rfl;simp only[jQ,h8]at US;go_wp2_with (refine gQ rfl 45 (.tmp 60) rfl bb (off+k*14) rfl (jQ x sl).toList _ HQ.O underlying45 rfl pV ?_);go_roundw;case rel=>exact⟨k+1,Bk,Ck,R,G,by go_num,z,U,gX,(US.drop (λ_ h=>dI _ h)).mono z,T.O.more z,SW,mK⟩
       case measure=>simp[intOf];omega
      ·go_upto_region 11 with(refine gQ rfl 45 (.tmp 60) rfl bb (off+k*14) rfl (jQ x sl).toList _ HQ.O underlying45 rfl pV ?_)
       obtain⟨Up,Uq⟩:=dH wr.heap.size;rw[<-Uq];refine aW (λY=>kB w Y Bk Ck R R (40*k) ((Up,45,jQ x sl)::BL)) (d.O.alloc 45 _ Uq) ?_;clear Uq d HQ;rintro Y f;have UT:=au (qL (f.get (ec ..)));have N:=xF f.two.a T.O z z x To.O sl (Tt.O.below f.bw) Ts;rw[U]at N;have Tu:=au N;have d:=au f;clear N f;go_upto_region 12 with(first
        |(go_at_call 14;refine Tu.O.mono ?_;rintro e w9 ⟨B9,rfl,E,r⟩;have H:=r.g.trans U;have P:=au (d.O.left E r z);clear E r)
        |(refine gQ rfl 45 (.tmp 14) rfl Up 0 rfl (jQ x sl).toList _ UT.O underlying45 rfl pV ?_))
       have VK:=au (qL (P.O.get (ec ..)));have N:=xF P.O.two.b T.O z z x To.O sl (Tt.O.below P.O.bw) Ts;rw[gX]at N;have Td:=au N;have TX:=M.Op.act R x h8;have UU:=au TX;have SH:=au (T.O.act x To.O.ok To.O.src);clear N d Tu UT TX;go_wp2_with (first
        |(go_at_call 14;refine Td.O.mono ?_;rintro e Ur ⟨C9,rfl,E,r⟩;have aI:=r.g.trans gX;have SI:=au (P.O.right E r z);clear E r)
        |(refine gQ rfl 45 (.tmp 14) rfl Up 0 rfl (jQ x sl).toList _ VK.O underlying45 rfl pV ?_))
       go_roundw;case rel=>exact⟨k+1,B9,C9,_,_,by go_num,z,H,aI,(SI.O.drop (λ_ h=>dI _ h)).mono z,SH.O,UU.O.cN.trans SW,UU.O.dA.trans mK⟩
       case measure=>simp[intOf];omega
     ·have VL:k=n1:=z;subst VL;have VM:R.dm.length<=rm:=by
       obtain⟨qq,VN,VO⟩:=f.two.a.Qb;have h1:=VN.le;have h2:=VO.length;rw[mK,Um]at h1;omega
      obtain⟨d,T,TY⟩:=bU f df (f.get (g:=r4) (t:=25) (cs:=#[J V (rm:Int),J V eJ,J V cX,J V eA,J V ek,J V aT]) (by rw[UR.O];exact List.mem_singleton.2 rfl));clear f df;go_upto_region 15 with fail;obtain⟨Us,Ut⟩:=dH wr.heap.size;rw[<-Ut];refine aW (λY=>kB w Y Bk Ck R R (40*k) ((Us,40,#[J V 0,J V 0])::BL)) (d.O.alloc 40 _ Ut) ?_;clear Ut d TY;rintro Y f;have b4:=f.get (g:=r4) (t:=25) (cs:=#[J V (rm:Int),J V eJ,J V cX,J V eA,J V ek,J V aT]) (by rw[UR.O];simp);have k0:=b4.cell 0;simp at k0;have d:=au f;clear f b4;go_upto_region 16 with fail;have SJ:∃L:List (Nat×TypeId×Array Value),L=(Us,40,#[J V 0,J V 0])::BL:=⟨_,rfl⟩;obtain⟨SJ,Te⟩:=SJ;rw[<-Te]at d;have TY:=au Te;have T8:((Us,40,#[J V 0,J V 0]):Nat×TypeId×Array Value)∈SJ:=by rw[Te];exact ec ..
      have Tf:=au T8;clear Te T8 k0;go_loopw [75] (λi wr=>∃(j:Nat) (Bj Cj:RB) (Q:M.Room) (Gj:Int->M.ij),i=J V j/\j<=rm/\Bj.g=B.g/\Cj.g=C.g/\kB w wr Bj Cj Q Q (5000+20*j) SJ/\M.lG Q Gj (120+j)/\Q.cN=false/\Q.dA=cf/\Q.dm.length<=rm-j) (λi _=>rm-(intOf i).toNat);case atStart=>exact⟨0,Bk,Ck,R,G,rfl,z,U,gX,d.O.mono z,T.O.more z,SW,mK,z⟩
      case round =>
       clear d T VM SW mK U gX;obtain⟨j,Bj,Cj,Q,Gj,rfl,hj,U,gX,f,df,SW,mK,TQ⟩:=hrel;by_cases Wh:j<rm
       ·have Wi:((j:Int)<(rm:Int)):=z;have eI:=f.get Tf.O;have y0:=eI.cell 0;have y1:=eI.cell 1;simp at y0 y1;obtain⟨⟨p1,p2,p3⟩,_⟩:=M.xX Q SW;have hp:=sY f.two.a 0 0 false (ta df z) z;rw[U]at hp;have T9:=df.pick (0,0) false;obtain⟨HP,d,T,SH,Uu⟩:=gY hp f df T9 (And.intro p1 (And.intro p2 p3));clear hp f df T9 eI p1 p2 p3;go_upto_region 18 with(go_at_call 25;refine HP.O.mono ?_;rintro e w9 ⟨B9,rfl,E,r⟩;have H:=r.g.trans U;have P:=au (d.O.left E r z);clear E r)
        have eI:=P.O.get Tf.O;have y0:=eI.cell 0;have y1:=eI.cell 1;simp at y0 y1;have hp:=sY P.O.two.b 0 0 false (ta T.O z) z;rw[gX]at hp;have VP:=au hp;clear hp eI HP d T;go_wp2_with (go_at_call 25;refine VP.O.mono ?_;rintro e Ur ⟨C9,rfl,E,r⟩;have aI:=r.g.trans gX;have SI:=au (P.O.right E r z);clear E r);go_roundw;case rel=>exact⟨j+1,B9,C9,_,_,by go_num,z,H,aI,SI.O.mono z,SH.O.more z,Uu.O.2.1,Uu.O.2.2.trans mK,by rw[Uu.O.1,List.length_tail];omega⟩
        case measure=>simp[intOf];omega
       ·have VQ:j=rm:=z;subst VQ;have Tv:Q.dm=[]:=cU.1 z;obtain⟨d,T⟩:=bu f df;clear f df TQ;obtain⟨o1,o2,o3⟩:=M.LP Q b SW Tv (by rw[mK,Um];exact UM.1);have UW:∀y∈b,0<=y/\y<256:=λy hy=>by
         have q:=H3.O.wf y hy;unfold pD at q;rw[cM,decide_eq_true_iff,decide_eq_true_iff]at q;have e1:IntKind.u8.min=0:=rfl;have e2:IntKind.u8.max=255:=rfl;omega
        have TR:M.lG (Q.fT b).1 Gj (200+0):=(GI T.O b UW).more z;have Tw:=TR.pick (0,0) false;obtain⟨R1,Uv⟩:=dH ((Q.fT b).1);obtain⟨R2,Uw⟩:=dH ((R1.pick (0,0) false).1);rw[<-Uv]at o2 o3 TR Tw;rw[<-Uw]at o3 Tw;obtain⟨UX,UY,UZ,U0,U1,U2,U3⟩:=lV o3 TR Tw Uv Uw o1 o2;have Tb:=nM d.O.two.a;rw[U]at Tb;have Tx:=au Tb;clear o1 o2 o3 TR Tw Uv Uw Tb UW Tv;go_upto_region 21 with(go_at_call 22;refine Tx.O.mono ?_;rintro e w9 ⟨rfl,D⟩;have d:=au (d.O.below D);clear D)
        obtain⟨K,TS⟩:=dH w9.heap.size;rw[<-TS];have Ty:∀x∈SJ,x.1<K:=λx hx=>by rw[TS];exact d.O.lt x hx
        have Tz:w.heap.size<=K:=by have:=d.O.bw.size;omega
        refine aW (λY=>kB w Y Bj Cj Q Q (5000+20*j) ((K,59,GR Q.bp)::SJ)) (d.O.alloc 59 _ TS) ?_;clear TS d Tx;rintro Y f;have Ux:=au Ty;have eI:=f.get (dI _ Tf.O);have y0:=eI.cell 0;have y1:=eI.cell 1;simp at y0 y1;have Uy:=tO f.two.a ⟨A3,n3,c3⟩ b (H3.O.below f.bw) (z:n3<=400) z;rw[U,U2.O,<-U0.O]at Uy;have Va:=au Uy;have d:=au f;clear Uy f eI Ty;go_upto_region 23 with(first
         |(go_at_call 26;refine Va.O.mono ?_;rintro e w9 ⟨B9,rfl,E,r⟩;have H:=r.g.trans U;have P:=au (d.O.left E r z);have eI:=P.O.get (dI _ Tf.O);have y0:=eI.cell 0;have y1:=eI.cell 1;simp at y0 y1;have hp:=sY P.O.two.a 0 0 false (ta UY.O z) z;rw[H,U3.O,<-U1.O]at hp;have HP:=au hp;clear E r eI hp)
         |(go_at_call 25;refine HP.O.mono ?_;rintro e Ur ⟨SP,rfl,E,r⟩;have Tc:=r.g.trans H;have SI:=au (P.O.left E r z);clear E r))
        have Tb:=nM SI.O.two.a;rw[Tc]at Tb;have Tx:=au Tb;clear Tb HP Va d P;go_upto_region 24 with(go_at_call 22;refine Tx.O.mono ?_;rintro e Vb ⟨rfl,D⟩;have d:=au (SI.O.below D);clear D)
        obtain⟨SG,TT⟩:=dH Vb.heap.size;rw[<-TT];have VR:K<SG:=by rw[TT];exact d.O.lt _ (ec ..)
        refine aW (λY=>kB w Y SP Cj R2 Q 6000 ((SG,59,GR R2.bp)::(K,59,GR Q.bp)::SJ)) ((d.O.mono z).alloc 59 _ TT) ?_;clear TT d SI Tx;rintro Y f;have F:=f.get (ec ..);have A:=f.get (dI _ (ec ..));have m17:=F.cell 1;have m16:=A.cell 1;simp at m17 m16;have f16:=A.frozen 1;have Wj:=f.two.b.et.cI;obtain⟨d,Tg,Th⟩:=bU f F A;clear f F A;by_cases heq:R2.bp.cI=Q.bp.cI
        ·rw[heq]at m17;clear heq;go_wp2_with fail;go_ret;exact⟨rfl,d.O.bw⟩
        have VS:R2=M.eQ Q:=UX.O.resolve_left heq;clear U1 U3 UY U0 U2 UX;subst VS;replace m17:Y.cell? ⟨SG,1,I⟩=Z (J V (Q.bp.cI+1)):=m17;have VT:(Q.bp.cI+1==Q.bp.cI)=false:=beq_eq_false_iff_ne.2 z;have Uz:V.wrap (Q.bp.cI+1)=Q.bp.cI+1:=IntWalk.i64_in _ ⟨z,z⟩;clear heq;go_upto_region 27 with fail;have SY:=d.O.set (dI _ (ec ..)) aR aR Tz ((SG,59,GR (M.eQ Q).bp)::SJ) (λx hx=>by
         rcases fw.1 hx with q|q
         ·subst q;exact⟨ec ..,by simp only;omega⟩
         ·exact⟨dI _ (dI _ q),by have:=Ux.O x q;omega⟩) 1 (J V (Q.bp.cI+1))
        have SY:kB w (Y.setCell ⟨K,1,I⟩ (J V (Q.bp.cI+1))) SP Cj (M.eQ Q) Q 6000 ((K,59,GR (M.eQ Q).bp)::(SG,59,GR (M.eQ Q).bp)::SJ):=SY;obtain⟨a0,a1,a2,a3,a4,UA⟩:∃a0 a1 a2 a3 a4:Int,GR (M.eQ Q).bp=#[J V a0,J V a1,J V a2,J V a3,J V a4]:=⟨_,_,_,_,_,rfl⟩;rw[UA]at SY;refine aW (λY2=>kB w Y2 SP Cj (M.eQ Q) Q 6000 ((K,59,#[J V a0,J V a1,J V a2,J V a3,J V a4])::(SG,59,#[J V a0,J V a1,J V a2,J V a3,J V a4])::SJ)) SY ?_;clear SY UA d m16 m17 Th Tg f16 Uz VT;rintro Y2 f;have A:=f.get (ec ..);have F:=f.get (dI _ (ec ..));have p0:=F.cell 0;have p1:=F.cell 1;have p2:=F.cell 2;have p3:=F.cell 3;have p4:=F.cell 4;have s0:=A.cell 0;have s1:=A.cell 1;have s2:=A.cell 2;have s3:=A.cell 3;have s4:=A.cell 4;simp at p0 p1 p2 p3 p4 s0 s1 s2 s3 s4;have d:=au f;clear f A F;go_upto_region 29 with fail;clear p0 p1 p2 p3 p4 s0 s1 s2 s3 s4;obtain⟨SZ,TA⟩:=dH ((K,59,#[J V a0,J V a1,J V a2,J V a3,J V a4])::(SG,59,#[J V a0,J V a1,J V a2,J V a3,J V a4])::SJ:List (Nat×TypeId×Array Value));rw[<-TA]at d;have Ua:=au TA;clear TA y0 y1;obtain⟨i0,hi,Vc,Vd,Ub⟩:=info_parts PC;obtain⟨HI,VU,VV,VW⟩:=cA hi Vc Vd Ub;clear hi Vc Vd Ub;obtain⟨qm,Ve,TQ,Vf⟩:=Hu H2.O;obtain⟨Vg,VX,Vh⟩:=bU Ve Vf TQ;clear Ve Vf TQ;go_cut [113,114,115] (λv n i wc=>n=J V ((1+n2:Nat):Int)/\i=J V 0/\wc.ownsRow w.heap.size 45 14 v (1+n2) ((jQ qU Sl.nil).toList::qm).flatten/\kB w wc SP Cj (M.eQ Q) Q 6000 SZ/\∀g,v.ownBlock=Z g->sM wc SP Cj g);case first =>
         have VY:=d.O.alloc 45 (jQ qU Sl.nil) rfl;have Vi:=d.O.bw.size;have SL:∀g w5,aC Y2 w5->Y2.heap.size<=g->g<w5.heap.size->sM w5 SP Cj g:=λg w5 b5 hg hl=>⟨λq=>by have:=d.O.two.a.lt g q;omega,λq=>by have:=d.O.two.b.lt g q;omega,hl⟩;have own:=Fair.It (n:=1) (size:=14) (aK.new Y2 45 (jQ qU Sl.nil)) Vi rfl ui;obtain⟨TC,SM⟩:=bu own SL;clear own VY SL;have Uc:∀v5 w5,w5.ownsRow w.heap.size 45 14 v5 (1+n2) ((jQ qU Sl.nil).toList++qm.flatten)->aC Y2 w5->(∀g,v5.ownBlock=Z g->Y2.heap.size<=g)->w5.ownsRow w.heap.size 45 14 v5 (1+n2) ((jQ qU Sl.nil).toList::qm).flatten/\kB w w5 SP Cj (M.eQ Q) Q 6000 SZ/\∀g,v5.ownBlock=Z g->sM w5 SP Cj g:=λv5 w5 o5 b5 l5 =>
          ⟨by rw[jM];exact o5,d.O.below b5,λg hg=>SM.O g w5 b5 (l5 g hg) (o5.lt g hg).2⟩
         have Ud:=au Uc;clear Uc SM;cases A2 with
         |none =>
          have TV:=VG rfl;have VZ:n2=0:=by
           rcases iV n2 with q|q
           ·exact q
           ·obtain⟨_,_,e,_⟩:=H2.O.2.2 q;cases e
          subst TV;subst VZ;have Tv:qm.flatten=[]:=cU.1 (by rw[Vh.O]);have V0:=au Tv;clear Tv;go_wp2_with (at_builtin;go_loud (refine wpList_append_own_none rfl _ _ 26 rfl w.heap.size 45 i0 14 underlying26 HI.O _ _ _ rfl TC.O rfl ?_));go_meet;obtain⟨f1,f2,f3⟩:=Ud.O _ _ (by rw[V0.O,List.append_nil];exact TC.O) ((ao _ _).alloc (aj _) _) (λg hg=>by cases hg;exact aj _);exact⟨rfl,rfl,f1,f2,f3⟩
         |some a2 =>
          have TD:∀j u,qm.flatten[j]? = Z u->(Y2.alloc (.cells (jQ qU Sl.nil) 45)).cell? (a2.add j)=Z u:=λj u hu=>by
           obtain⟨b',V9,e,hc⟩:=VX.O j u hu;cases e;rw[add_lit];exact aM (d.O.bw.alloc Vi (.cells (jQ qU Sl.nil) 45)) hc
          obtain⟨V1,Ti⟩:=bu TD (Fit.one (R:=AP w) (λx c k=>k.one) Vg.O);clear TD;go_wp2_with (at_builtin;go_loud (refine dV _ rfl _ _ 26 rfl w.heap.size 45 i0 _ 14 104 underlying26 HI.O VU.O VV.O VW.O rfl aR _ _ _ rfl TC.O a2 n2 c2 qm.flatten rfl Vh.O V1.O Ti.O ?c3 ?c4 ?c5 ?_));case c3=>unfold maxLen;omega
          case c4=>omega
          case c5=>first|omega|(simp;omega)
          intro v5 w5 TE g5 TF;have b5:aC Y2 w5:=((ao Y2.heap.size Y2).alloc (aj _) (.cells (jQ qU Sl.nil) 45)).grown g5 dt (λj hj=>by cases hj;exact aj _);obtain⟨A5,c5,rfl⟩:=bA TE;have Vj:=Ud.O _ w5 TE b5 (λg hg=>by
           rcases TF g hg with q|q
           ·cases q;exact aj _
           ·first|exact q|exact aP dt q)
          have UB:=au Vj;clear TE g5 TF b5 Vj;go_wp2_with fail;go_meet;exact⟨rfl,rfl,UB.O.1,UB.O.2.1,UB.O.2.2⟩
        case rest =>
         obtain⟨rfl,rfl,own,f,Tj⟩:=hcut;obtain⟨A5,c5,rfl⟩:=bA own;obtain⟨g5,c6,e5⟩:=lR own z;injection e5 with e5 _ e6
         subst e5;subst e6;have Tj:=Tj g5 rfl;have TG:Fit (AP w) (qU::more) ((jQ qU Sl.nil).toList::qm):=⟨⟨Sl.nil,rfl,⟨rfl,λ_ h=>(by cases h),λh=>absurd h (Nat.lt_irrefl 0),λ_=>rfl⟩⟩,Vg.O⟩;have TH:∀c∈((jQ qU Sl.nil).toList::qm),c.length=14:=Fit.len (R:=AP w) (λx c k=>Ff k) TG;have TI:∀(m:Nat),m<1+n2->∃x c,(qU::more)[m]? = Z x/\((jQ qU Sl.nil).toList::qm)[m]? = Z c/\AP w x c:=λm hm=>TG.MD dZ;have SO:∀x∈qU::more,Nf x/\x.b.length<=400:=λx hx=>by
          rcases fw.1 hx with e|q
          ·subst e;exact⟨⟨⟨λ_ h=>(by cases h),aR,aR,aR⟩,aR,aR⟩,aR⟩
          ·exact⟨H2.O.2.1 x q,VJ.2 x q⟩
         obtain⟨qs,Vk⟩:=dH ((jQ qU Sl.nil).toList::qm);rw[<-Vk]at own TH TI;obtain⟨d,Vl,Ue,Vm,Vn,To⟩:=lH f own Tj TH TI SO;have V2:n2<=120:=z;have Tw:=UZ.O;clear f own Tj TH TI SO TG Vk UZ;go_wp2_with fail;go_loopw [115] (λi wr=>∃(m:Nat) (Bm Cm:RB) (S:M.Room) (G:Int->M.ij),i=J V m/\m<=1+n2/\Bm.g=B.g/\Cm.g=C.g/\rQ w wr Bm Cm (M.eQ S) S (6000+40*m) SZ g5 (1+n2) c5 qs/\M.lG S G (300+m)) (λi _=>(1+n2)-(intOf i).toNat);case atStart=>exact⟨0,SP,Cj,Q,_,rfl,z,Tc,gX,⟨d.O,Vl.O,Ue.O⟩,T.O.more z⟩
         case round =>
          clear d Vl Ue T U gX H Tc SW mK;obtain⟨m,Bm,Cm,S,G,rfl,hm,U,gX,f,df⟩:=hrel;by_cases V3:m<1+n2
          ·have UQ:((m:Int)<((1+n2:Nat):Int)):=z;obtain⟨x,c,Vo,Vp,sl,rfl,UC⟩:=Vn.O m V3;obtain⟨SO,Tr⟩:=To.O x (List.mem_of_getElem? Vo);obtain⟨g',cc,e',UA,TJ⟩:=jZ f.own Vm.O z;injection e' with TM _ V4
           injection TM with TM
           injection TM with TM _ _
           subst TM;subst V4;have hr:wr.rangeAt g5 (m*14) (jQ x sl).toList:=λj v hv=>by
            have hj:j<14:=by
             have:=(aS.1 hv).1;simpa using this
            rw[TJ m _ Vp j hj];exact hv
           have Ts:sl.n<=400:=by rw[<-UC.len];exact Tr
           obtain⟨d,HQ,Tt,Tk,T⟩:=gY f hr UC SO df;clear f hr UC SO df TJ Vo Vp;go_upto_region 32 with(refine gQ rfl 45 (.tmp 117) rfl g5 (m*14) rfl (jQ x sl).toList _ HQ.O underlying45 rfl pV ?_)
           obtain⟨TW,UD⟩:=dH wr.heap.size;rw[<-UD];refine aW (λY=>rQ w Y Bm Cm (M.eQ S) S (6000+40*m) ((TW,45,jQ x sl)::SZ) g5 (1+n2) c5 qs) (d.O.alloc 45 _ UD) ?_;clear UD d HQ;rintro Y f;have Vq:=au (qL (f.tb.get (ec ..)));have N:=xF f.tb.two.a (Bt T.O) z z x Tk.O sl (Tt.O.below f.tb.bw) Ts;obtain⟨S',er,dd,TN⟩:∃S' er dd,S.act x=(S',er,dd):=⟨_,_,_,rfl⟩;unfold wY at N;rw[U,M.MV,TN]at N;dsimp only at N;have TO:=au TN;clear TN;have Tu:=au N;have d:=au f;clear N f;go_upto_region 33 with(first
            |(go_at_call 14;refine Tu.O.mono ?_;rintro e w9 ⟨B9,rfl,E,r⟩;have H:=r.g.trans U;have P:=au (d.O.left E r z);clear E r)
            |(refine gQ rfl 45 (.tmp 19) rfl TW 0 rfl (jQ x sl).toList _ Vq.O underlying45 rfl pV ?_))
           have Vr:=au (qL (P.O.tb.get (ec ..)));have N:=xF P.O.tb.two.b T.O z z x Tk.O sl (Tt.O.below P.O.tb.bw) Ts;unfold wY at N;rw[gX,TO.O]at N;dsimp only at N;have Td:=au N;have TP:=T.O.act x Tk.O.ok Tk.O.src;rw[TO.O]at TP;have SH:=au TP;clear N d Tu Vq TP TO;go_upto_region 34 with(first
            |(go_at_call 14;refine Td.O.mono ?_;rintro e Ur ⟨C9,rfl,E,r⟩;have aI:=r.g.trans gX;have d:=au (P.O.right E r z);clear E r)
            |(refine gQ rfl 45 (.tmp 19) rfl TW 0 rfl (jQ x sl).toList _ Vr.O underlying45 rfl pV ?_))
           clear Vr Td P;have SX:=zi d.O.tb.two.a z;rw[H,M.Hg]at SX;have Vs:=au SX;clear SX;go_upto_region 35 with(go_at_call 27;refine Vs.O.mono ?_;rintro e Vb ⟨rfl,D⟩;have d:=au (d.O.below D);clear D)
           have SX:=zi d.O.tb.two.b z;rw[aI]at SX;have Vt:=au SX;clear SX Vs;go_upto_region 36 with(go_at_call 27;refine Vt.O.mono ?_;rintro e Wl ⟨rfl,D⟩;have d:=au (d.O.below D);clear D)
           clear Vt;go_upto_region 38 with(first
            |(go_at_call 20;first
                |(have hq:=tN d.O.tb.two.a;rw[H,M.Ab]at hq;with_reducible refine hq.mono ?_;rintro e wq ⟨rfl,eq⟩;have eq:=eq.symm;subst eq;clear hq)
                |(have hq:=tN d.O.tb.two.b;rw[aI]at hq;with_reducible refine hq.mono ?_;rintro e wq ⟨rfl,eq⟩;have eq:=eq.symm;subst eq;clear hq))
            |(go_at_call 28;first
                |(have hq:=zk d.O.tb.two.a;rw[H,M.Hl]at hq;with_reducible refine hq.mono ?_;rintro e wq ⟨rfl,D⟩;have d:=au (d.O.below D);clear D hq)
                |(have hq:=zk d.O.tb.two.b;rw[aI]at hq;with_reducible refine hq.mono ?_;rintro e wq ⟨rfl,D⟩;have d:=au (d.O.below D);clear D hq))
            |(go_at_call 19;first
                |(have hq:=vp _ _ _ _ d.O.tb.two.a z;rw[H,M.AJ]at hq;with_reducible refine hq.mono ?_;rintro e wq ⟨v,q,rfl,o,_,D⟩;obtain⟨Aq,cq,rfl⟩:=bA o;have d:=au (d.O.below D);clear D o hq)
                |(have hq:=vp _ _ _ _ d.O.tb.two.b z;rw[aI]at hq;with_reducible refine hq.mono ?_;rintro e wq ⟨v,q,rfl,o,_,D⟩;obtain⟨Aq,cq,rfl⟩:=bA o;have d:=au (d.O.below D);clear D o hq)))
           go_upto_region 39 with fail;go_loopw [182] (λi wr=>∃s:Nat,i=J V s/\s<=6/\rQ w wr B9 C9 (M.eQ S') S' (6000+40*m+40) ((TW,45,jQ x sl)::SZ) g5 (1+n2) c5 qs) (λi _=>6-(intOf i).toNat);case atStart=>exact⟨0,rfl,z,d.O.mono z⟩
           case round =>
            clear d;obtain⟨s,rfl,hs,f⟩:=hrel;by_cases Wm:s<6
            ·have Wn:((s:Int)<6):=z;have UE:=Dv f.tb.two.a f.tb.two.b (s:Int) (Ig z z) (Hs S' _) z z (Bt SH.O).wf.vz SH.O.wf.vz;rw[H,aI]at UE;obtain⟨V5,d⟩:=bu UE f;clear UE f;go_wp2_with (go_at_call 21;refine V5.O.mono ?_;rintro e wq ⟨rfl,D⟩;have d:=au (d.O.below D);clear D);go_roundw;case rel=>exact⟨s+1,by go_num,z,d.O⟩
             case measure=>simp[intOf];omega
            ·have V6:s=6:=z;subst V6;have d:=au f;clear f;go_wp2_with fail;go_roundw;case rel=>exact⟨m+1,B9,C9,S',_,by go_num,z,H,aI,(d.O.drop (λ_ h=>dI _ h)).mono z,SH.O.more z⟩
             case measure=>simp[intOf];omega
          ·have V7:m=1+n2:=z;have Vu:=f.tb.two.b.et.cI;have Uf:∀(z0 z1 z2 z3 z4:Int),∀u∈(#[J V z0,J V z1,J V z2,J V z3,J V z4]:Array Value).toList,u.oneCell'=true:=by intro z0 z1 z2 z3 z4 u hu;simp at hu;repeat (first|(subst hu;rfl)|(rcases hu with rfl|hu;rfl))
           have Ug:((K,59,#[J V a0,J V a1,J V a2,J V a3,J V a4]):Nat×TypeId×Array Value)∈SZ:=by rw[Ua.O];exact ec ..
           have Uh:((SG,59,#[J V a0,J V a1,J V a2,J V a3,J V a4]):Nat×TypeId×Array Value)∈SZ:=by rw[Ua.O];exact dI _ (ec ..)
           obtain⟨Vv,Vw,Ti⟩:=bU Ug Uh Uf;have TV:aF af 22 #[aq (Z ⟨C.g,0,I⟩)] wr λe w'=>e=av (cg #[J V S.bp.jw,J V S.bp.cI,J V S.bp.gR,J V S.bp.ff,J V S.bp.fP])/\aC wr w':=by
            have hq:=nM f.tb.two.b;rw[gX]at hq;exact hq
           have Vx:∀W,rQ w W Bm Cm (M.eQ S) S (6000+40*m) SZ g5 (1+n2) c5 qs->aF af 22 #[aq (Z ⟨B.g,0,I⟩)] W λe w'=>e=av (cg #[J V S.bp.jw,J V (S.bp.cI+1),J V S.bp.gR,J V S.bp.ff,J V S.bp.fP])/\aC W w':=λW hW=>by
            have hq:=nM hW.tb.two.a;rw[U]at hq;exact hq
           have Uz:V.wrap (S.bp.cI+1)=S.bp.cI+1:=IntWalk.i64_in _ ⟨z,z⟩;have UF:=au TV;have UG:=au Vx;have d:=au f;obtain⟨d0,Vy⟩:=dH S.bp.jw;obtain⟨d1,UH⟩:=dH S.bp.cI;obtain⟨d2,Vz⟩:=dH S.bp.gR;obtain⟨d3,VA⟩:=dH S.bp.ff;obtain⟨d4,VB⟩:=dH S.bp.fP;rw[<-Vy,<-UH,<-Vz,<-VA,<-VB]at UF UG;rw[<-UH]at Uz;subst V7;clear Vx TV f Uf Ug Uh Vu Vy UH Vz VA VB df;go_upto_region 46 with(first
            |(go_at_call 22;first
                |(with_reducible refine UF.O.mono ?_;rintro e wq ⟨rfl,D⟩;have d:=au (d.O.below D);clear D)
                |(have hq:=UG.O _ d.O;with_reducible refine hq.mono ?_;rintro e wq ⟨rfl,D⟩;have d:=au (d.O.below D);clear D hq))
            |(refine jb _ rfl (.tmp 16) (.tmp 193) 59 rfl K 0 59 _ rfl #[J V d0,J V d1,J V d2,J V d3,J V d4] rfl Ld (d.O.tb.get Vv.O) (aj _) (Ti.O _ _ _ _ _) ?_;intro w6 VC u6;have Ui:=(d.O.tb.get Vw.O).dW u6 (λq=>by have:SG=K:=q;omega))
            |(refine jb _ rfl (.tmp 17) (.tmp 195) 59 rfl SG 0 59 _ rfl #[J V d0,J V (d1+1),J V d2,J V d3,J V d4] rfl Ld Ui (aj _) (Ti.O _ _ _ _ _) ?_;intro w7 VD u7))
           have UI:w.heap.size<=_:=d.O.tb.bw.size;have VE:=(d.O.tb.bw.trans (u6.below UI (λi q=>by cases q;exact Tz))).trans (u7.below (aP UI u6.size) (λi q=>by cases q;omega));have A:=VC.dW u7 (λq=>by have:K=SG:=q;omega);have A:aK w7 K 59 #[J V d0,J V d1,J V d2,J V d3,J V d4]:=A;have F:aK w7 SG 59 #[J V d0,J V (d1+1),J V d2,J V d3,J V d4]:=VD;have p1:=A.cell 1;have f1:=A.frozen 1;simp at p1;obtain⟨Th,Tg,Uj⟩:=bU A F VE;clear VC VD u6 u7 Ui A F VE UG UF d UI;go_upto_region 47 with fail;have A:aK (w7.setCell ⟨K,1,I⟩ (J V (d1+1))) K 59 #[J V d0,J V (d1+1),J V d2,J V d3,J V d4]:=Th.O.bC 1 _;have F:=Tg.O.dS (p:=⟨K,1,I⟩) (z:SG≠K) (J V (d1+1));refine aW (λVF=>aK VF K 59 #[J V d0,J V (d1+1),J V d2,J V d3,J V d4]/\aK VF SG 59 #[J V d0,J V (d1+1),J V d2,J V d3,J V d4]/\aC w VF) ⟨A,F,Uj.O.setCell (p:=⟨K,1,I⟩) Tz _⟩ ?_;clear A F p1 f1 Th Tg Uj;rintro VF ⟨A,F,bZ⟩;have p0:=F.cell 0;have p1:=F.cell 1;have p2:=F.cell 2;have p3:=F.cell 3;have p4:=F.cell 4;have s0:=A.cell 0;have s1:=A.cell 1;have s2:=A.cell 2;have s3:=A.cell 3;have s4:=A.cell 4;simp at p0 p1 p2 p3 p4 s0 s1 s2 s3 s4;have V8:=au bZ;clear A F bZ;go_wp2_with fail;go_ret;exact⟨rfl,V8.O⟩
end
section
open Go.ChangeShapes Go.WideShapes Go.ChangeAt Go.RowKit Go.Deep
inductive Lf where
 |b
 |i (k:IntKind)
 |y
def Lf.ok(w:aw):Lf->Value->Prop
 | .b,v=>∃x,v=ai x
 | .i k,v=>∃n,v=J k n/\(dU k n).wf=true
 | .y,v=>∃a n c xs,v=ae a n c/\pL w a n c xs
def Dh(w:aw):List Lf->List Value->Prop
 |[],cs=>cs=[]
 |l::ls,cs=>∃c a,cs=c::a/\l.ok w c/\Dh w ls a
def Dh.length{w:aw}:∀{ls:List Lf} {cs:List Value},Dh w ls cs->cs.length=ls.length
 |[],cs,h=>by cases h;rfl
 |l::ls,cs,h=>by obtain⟨c,a,rfl,_,b⟩:=h;simp[Dh.length b]
def Dh.append{w:aw}:∀{ls ms:List Lf} {cs ds:List Value},Dh w ls cs->Dh w ms ds->Dh w (ls++ms) (cs++ds)
 |[],_,_,_,h,a=>by cases h;exact a
 |l::ls,_,_,_,h,a=>by obtain⟨c,b,rfl,d,hr⟩:=h;exact⟨c,_,rfl,d,Dh.append hr a⟩
def MG(P:jB)(a:TypeId->Option (List Lf)):List Field->Nat->Option (List Lf)
 |[],_=>Z []
 |f::r,off=>if f.offset=off then
   match a f.type with
   |some ls=>if ls.length=P.cellsOf f.type then
     match MG P a r (off+P.cellsOf f.type) with
     |some rs=>Z (ls++rs)
     |none=>I
    else I
   |none=>I
  else I
def rep(ls:List Lf):Nat->List Lf
 |0=>[]
 |n+1=>ls++rep ls n
def QC(P:jB):Nat->TypeId->Option (List Lf)
 |0,_=>I
 |n+1,t =>
  match P.underlying t with
  |some .bool=>Z [.b]
  |some (.int k)=>Z [.i k]
  |some (.slice e) =>
   match P.underlying e with
   |some (.int bI)=>if P.cellsOf e=1 then Z [.y] else I
   |_=>I
  |some (.array m e) =>
   match QC P n e with
   |some ls=>if ls.length=P.cellsOf e/\P.cellsOf t=m*ls.length then Z (rep ls m) else I
   |none=>I
  |some (.struct a) =>
   match MG P (QC P n) a.toList 0 with
   |some ls=>if ls.length=P.cellsOf t then Z ls else I
   |none=>I
  |_=>I
section
variable {H:Type} {enc:TypeId×Value->H} {P:jB} {w:aw} {base:Nat} {spare:Nat->Bool} {held:Bool}
def uD{t e:TypeId}{fuel:Nat}{cs:List Value}{x:DataW H×List tE}(ht:P.underlying t=Z (.slice e))(he:P.underlying e=Z (.int bI))(m:P.cellsOf e=1)
  (h:mL enc P w base spare held fuel t cs=Z x):∃a n c xs,cs=[ae a n c]/\pL w a n c xs:=by
 rcases open_slice ht h with⟨j,_⟩ | ⟨a',d,l,A,n,D,L,j,_,M,hm,o,_,B⟩
 ·exact⟨I,0,0,[],j,rfl,λx C=>by simp at C,λh0=>absurd h0 z,λ_=>rfl⟩
 ·have hle:d<=A:=by rw[o];split<;>omega
  have key:∀i,i<d->∃y:Int,(dU bI y).wf=true/\w.cell? (a'.add i)=Z (J bI y):=λi k=>by
   obtain⟨E,g,p⟩:=B i z;rw[m,Nat.mul_one]at g;obtain⟨y,rfl,_,hy⟩:=DataW.trod_int he p;obtain⟨_,_,r⟩:=World.cells?_some g;exact⟨y,hy,by simpa[Addr.add]using r 0 z⟩
  obtain⟨f,s⟩:=choose_lt key;refine⟨Z a',d,l,(kq d).map f,j,dt,?_,λh0=>?_,λq=>by cases q⟩
  ·intro y hy;obtain⟨i,u,rfl⟩:=eU.1 hy;exact(s i (by simpa using u)).1
  ·obtain⟨b,off,spot⟩:=a';have F:spot=I:=by
    have:=(s 0 h0).2;simpa[Addr.add]using World.cell?_spot this
   subst F;refine⟨b,off,rfl,λi k=>?_⟩;have v:=(s i k).2;have G:(⟨b,off,I⟩:Addr).add i=⟨b,off+i,I⟩:=by
    unfold Addr.add;split
    ·rename_i K;rw[K];rfl
    ·rfl
   rw[G]at v;rw[v,List.getD_eq_getElem?_getD,dE,List.getElem?_range k];rfl
def IE(c:TypeId->Option (List Lf))(n:Nat)(a:∀t ls,c t=Z ls->∀cs x,mL enc P w base spare held n t cs=Z x->Dh w ls cs)(cs:List Value) :
  ∀(j:List Field) (off:Nat) (ls:List Lf),MG P c j off=Z ls->(∀f∈j,∃x,mL enc P w base spare held n f.type ((cs.drop f.offset).take (P.cellsOf f.type))=Z x) ->
   Dh w ls ((cs.drop off).take ls.length)
 |[],off,ls,h,_=>by simp only[MG,bf]at h;subst h;simp[Dh]
 |f::r,off,ls,h,k=>by
  unfold MG at h;split at h
  ·rename_i b;split at h
   ·rename_i l1 h1;split at h
    ·rename_i l;split at h
     ·rename_i rs d;simp only[bf]at h;subst h;obtain⟨x,i⟩:=k f dt;have a1:=a _ _ h1 _ _ i;rw[b,<-l]at a1;have a2:=IE c n a cs r (off+P.cellsOf f.type) rs d (λg hg=>k g (by simp[hg]));have e:(cs.drop off).take (l1++rs).length=(cs.drop off).take l1.length++(cs.drop (off+P.cellsOf f.type)).take rs.length:=by
       rw[cG,List.take_add,List.drop_drop,l]
      rw[e];exact Dh.append a1 a2
     ·cases h
    ·cases h
   ·cases h
  ·cases h
def Lo(ls:List Lf):∀(m:Nat) (cs:List Value),cs.length=m*ls.length->(∀i,i<m->Dh w ls ((cs.drop (i*ls.length)).take ls.length))->Dh w (rep ls m) cs
 |0,cs,a,_=>by
  rw[qA]at a;exact cU.1 a
 |m+1,cs,a,h=>by
  have h0:=h 0 z;rw[qA,mI]at h0;have e:cs=cs.take ls.length++cs.drop ls.length:=(List.take_append_drop _ _).symm;rw[e];refine Dh.append h0 (Lo ls m _ ?_ λi c=>?_)
  ·rw[List.length_drop,a,jG];omega
  ·have b:=h (i+1) z;rw[List.drop_drop];rw[show ls.length+i*ls.length=(i+1)*ls.length by rw[jG];omega];exact b
def GL:∀(m:Nat) (t:TypeId) (ls:List Lf),QC P m t=Z ls->∀(n:Nat) (cs:List Value) (x:DataW H×List tE),mL enc P w base spare held n t cs=Z x->Dh w ls cs
 |0,_,_,h=>by cases h
 |m+1,t,ls,h=>by
  intro n cs x j;unfold QC at h;split at h
  ·rename_i hu;cases h;obtain⟨b,rfl,_⟩:=DataW.trod_bool hu j;exact⟨_,_,rfl,⟨b,rfl⟩,rfl⟩
  ·rename_i hu;cases h;obtain⟨k,rfl,_,hw⟩:=DataW.trod_int hu j;exact⟨_,_,rfl,⟨k,rfl,hw⟩,rfl⟩
  ·rename_i e hu;split at h
   ·rename_i he;split at h
    ·rename_i l;cases h;obtain⟨a,g,c,xs,rfl,E⟩:=uD hu he l j;exact⟨_,_,rfl,⟨a,g,c,xs,rfl,E⟩,rfl⟩
    ·cases h
   ·cases h
  ·rename_i k e hu;split at h
   ·rename_i l1 h1;split at h
    ·rename_i o;cases h;obtain⟨xs,g,rfl,_,hlen,p,q⟩:=DataW.trod_array hu j;refine Lo l1 k cs (by rw[hlen];exact o.2) λi s=>?_;have C:=q i s;rw[o.1];have d:i<xs.length:=z;rw[ay d]at C;exact GL m e l1 h1 g _ _ C
    ·cases h
   ·cases h
  ·rename_i D hu;split at h
   ·rename_i l1 h1;split at h
    ·rename_i o;cases h;obtain⟨xs,g,rfl,_,hlen,p,q⟩:=DataW.trod_struct hu j;have r:=IE (enc:=enc) (w:=w) (base:=base) (spare:=spare) (held:=held) (QC P m) g (λF u G v K y=>GL m F u G g v K y) cs D.toList 0 ls h1 (λf A=>by
      obtain⟨i,s,B⟩:=List.getElem_of_mem A
      have d:i<D.size:=by simpa using s
      have:=q i f (by rw[Array.getElem?_eq_getElem d];exact congrArg Z B)
      rw[this]
      exact⟨_,ay z⟩)
     rw[mI,List.take_of_length_le z]at r;exact r
    ·cases h
   ·cases h
  ·cases h
end
instance:Inhabited M.Act:=⟨⟨0,0,0,0,[],(0,0),false,0,0,0,0,0,0⟩⟩
def wf_u32{x:Int}(h:(dU ar x).wf=true):0<=x/\x<=4294967295:=by simpa[pD,jI,jJ,fR,gM]using h
def wf_u16{x:Int}(h:(dU aN x).wf=true):0<=x/\x<=65535:=by simpa[pD,jI,jJ,fR,gM]using h
def wf_u8{x:Int}(h:(dU bI x).wf=true):0<=x/\x<=255:=by simpa[pD,jI,jJ,fR,gM]using h
def PT{w:aw}{cs:List Value}(h:Dh w [.i V,.i V,.i V,.i V,.y,.i V,.i V,.b,.i ar,.i ar,.i aN,.i ar,.i ar,.i ar] cs):∃(x:M.Act) (d:Sl),cs=(jQ x d).toList/\pL w d.a d.n d.c x.b/\Nf x:=by
 obtain⟨_,_,rfl,⟨t,rfl,w0⟩,_,_,rfl,⟨u,rfl,w1⟩,_,_,rfl,⟨v,rfl,w2⟩,_,_,rfl,⟨A,rfl,w3⟩,_,_,rfl,⟨a,n,c,xs,rfl,s⟩,_,_,rfl,⟨B,rfl,w5⟩,_,_,rfl,⟨C,rfl,w6⟩,_,_,rfl,⟨D,rfl⟩,_,_,rfl,⟨E,rfl,F⟩,_,_,rfl,⟨G,rfl,H⟩,_,_,rfl,⟨e,rfl,f⟩,_,_,rfl,⟨g,rfl,j⟩,_,_,rfl,⟨k,rfl,l⟩,_,_,rfl,⟨m,rfl,o⟩,rfl⟩:=h;have L:=wf_u32 F;have N:=wf_u32 H;have K:=wf_u16 f;have p:=wf_u32 j;have q:=wf_u32 l;have r:=wf_u32 o;refine⟨⟨t,u,v,A,xs,(B,C),D,E,G,e,g,k,m⟩,⟨a,n,c⟩,rfl,s,⟨⟨λy hy=>?_,by simp only;omega,by simp only;omega,by simp only;omega⟩,w1,p,q,r⟩⟩;have:=wf_u8 (s.wf y hy);omega
section
variable {H:Type} {enc:TypeId×Value->H} {w:aw} {base:Nat} {spare:Nat->Bool} {held:Bool}
def xp{fuel:Nat}{a:Option Addr}{len cap:Nat}{x:DataW H×List tE}(h:mL enc af w base spare held fuel 26 [ae a len cap]=Z x):(∃l,pZ w a len l)/\(a=I->cap=0):=by
 rcases open_slice underlying26 h with⟨d,_⟩ | ⟨a',B,C,F,n,D,T,d,_,U,hm,p,_,G⟩
 ·simp at d;obtain⟨rfl,rfl,rfl⟩:=d;exact⟨⟨[],rfl,λx K=>by simp at K,λh0=>absurd h0 z⟩,λ_=>rfl⟩
 ·simp at d;obtain⟨rfl,rfl,rfl⟩:=d;refine⟨?_,λq=>by cases q⟩;have hle:len<=F:=by rw[p];split<;>omega
  have key:∀i,i<len->∃y:M.Act,Nf y/\∃k:Sl,(∀j,j<14->w.cell? (a'.add (i*14+j))=(jQ y k).toList[j]?)/\pL w k.a k.n k.c y.b:=λi m=>by
   obtain⟨L,g,r⟩:=G i z;rw[show af.cellsOf 45=14 from by kernel_rfl]at g;have N:=GL 6 45 [.i V,.i V,.i V,.i V,.y,.i V,.i V,.b,.i ar,.i ar,.i aN,.i ar,.i ar,.i ar] cC _ _ _ r;obtain⟨y,k,rfl,P,hr⟩:=PT N;obtain⟨_,_,s⟩:=World.cells?_some g;refine⟨y,hr,k,λj t=>?_,P⟩;have:=s j t;rw[Go.Deep.add_add]at this;exact this
  obtain⟨f,u⟩:=choose_lt key;refine⟨(kq len).map f,dt,?_,λh0=>?_⟩
  ·intro y hy;obtain⟨i,A,rfl⟩:=eU.1 hy;exact(u i (by simpa using A)).1
  ·obtain⟨b,off,spot⟩:=a';have Q:spot=I:=by
    obtain⟨_,k,h1,_⟩:=u 0 h0;have o:=h1 0 z;have e:(jQ (f 0) k).toList[0]? = Z (J V (f 0).nv):=rfl;rw[e]at o;simpa[Addr.add]using World.cell?_spot o
   subst Q;have R:∀j,(⟨b,off,I⟩:Addr).add j=⟨b,off+j,I⟩:=λj=>by
    unfold Addr.add;split
    ·rename_i S;rw[S];rfl
    ·rfl
   refine⟨b,off,rfl,λi y hy=>?_⟩;have m:i<len:=by
    have:=(aS.1 hy).1;simpa using this
   rw[dE,List.getElem?_range m]at hy;simp only[Option.map_some,bf]at hy;subst hy;obtain⟨_,k,h1,h2⟩:=u i m;refine⟨k,λj v E=>?_,h2⟩;have t:j<14:=(aS.1 E).1;have o:=h1 j t;rw[R,E]at o;rw[Nat.add_assoc];exact o
end
end
def Qr:ownKnob af.godebug=I:=cC
def qX:laidOutB af=true:=cC
def we{H:Type}{enc:TypeId×Value->H}{a:Assume}{C:Checked}{os:Os}{f:FuncId}{fn:Func}{s:ChangeSpec}{conds:List PathCond}{jF fresh handsOn again:Bool}{X:aw->Array Value->Prop}
  (q:∀(w w':aw) (args:Array Value),w.heap=w'.heap->X w args->X w' args)
  (own:ownKnob C.prog.godebug=I) (started:os.Started) (c:C.prog.inits.idxOf? f=I) (l:C.prog.funcs[f]? = Z fn)
  (witness:∃(w:aw) (tape:Tape) (i:Input),w.os=os/\(w.forCall tape i).Shaped C.prog/\i.vars=[]/\Input.okWide C.prog (w.forCall tape i) .any w.heap.size f i /\
    ((s.pre enc C.prog fn conds jF (w.forCall tape i).memory i.args/\X (w.forCall tape i).memory i.args)/\sizedMet enc C.prog fn (OpenSpec.ofChange s) jF (w.forCall tape i).memory i.args)/\a.holds C.prog (lone (Frame.enter C.prog f i.args .normal) [] (w.forCall tape i)))
  (b:∀(W:aw) (base:Nat) (args:Array Value) (ds gs:List (DataW H)) (before:List tE),
    (∀(j:Nat) t v,fn.params[j]? = Z t->args[j]? = Z v->Value.okWide C.prog W .any base t v) ->
    DataW.Whole enc C.prog fn.params.toList s.vars jF W args.toList ds gs before ->
    X W args->W.ShapedOpen C.prog ->
    aF C.prog f args W λe W'=>∃v,e=av v/\s.post enc C.prog fn jF fresh handsOn again W args v W') :
  ReturnsInHanded a C os f .any (λw args=>(s.pre enc C.prog fn conds jF w args/\X w args)/\sizedMet enc C.prog fn (OpenSpec.ofChange s) jF w args) (s.post enc C.prog fn jF fresh handsOn again):=by
 refine returnsInHanded_of_calls own started c witness ?_;intro w tape i _ m _ n d k;obtain⟨_,_,_,o,g,_,_,_,_,h⟩:=n;have e:o=fn:=ny (g.symm.trans l);subst e;obtain⟨⟨⟨ds,gs,before,hw,u⟩,r⟩,x⟩:=d;have p:=DataW.Whole.of_heap (w':=w.forCall tape i) jP hw;refine(b (w.forCall tape i) w.heap.size i.args ds gs before h p (q _ _ _ jP r) m).mono λe W' ⟨v,he,hp⟩=>?_;subst he;exact ChangeSpec.post_blind hp
abbrev wD:List (String×DataW Unit):=[("math/bits.deBruijn32tab",Rows.laid_math_bits_deBruijn32tab),("math/bits.deBruijn64tab",Rows.laid_math_bits_deBruijn64tab),("internal/strconv.uint64pow10",Rows.laid_internal_strconv_uint64pow10),("unicode/utf8.acceptRanges",Rows.laid_unicode_utf8_acceptRanges),("unicode/utf8.first",Rows.laid_unicode_utf8_first)]
def Lr:(Rows.laid_internal_strconv_uint64pow10:DataW Unit)=Lib.tabData .u64 Lib.pow10Tab:=cC
def MN{W:aw}(a:laidMet af wD W)(b:W.ShapedOpen af):Env W:=by
 refine⟨?_,?_⟩
 ·exact cell_of_shapedOpen_int (g:=0) (t:=3) (zero:=#[J V 0]) (k:=V) b (of_decide_eq_true cC) cC cC cC cC cC
 ·have h3:=laidMet.tail (laidMet.tail a);rw[Lr]at h3;exact Lib.tabIs_of_head (g:=3) (t:=475) (e:=197) (n:=20) cC cC cC cC cC cC h3
def nG(w:aw)(bk o:Nat)(ns:List Int):Prop:=∀(j:Nat) x,ns[j]? = Z x->w.cell? ⟨bk,o+j,I⟩=Z (J V x)
def vQ(B:RB)(w:aw)(R:M.Room)(N:Nat)(s:ByteArray)(e:Ending)(w':aw):Prop:=∃B',e=av (.string s)/\aL w' B' R N/\fK w w' B B'
def Od(p bk o c:Nat)(w:aw)(hp:aK w p 180 #[aq I])(a:bk≠p)(b:nG w bk o [2,2,1,1,2,1]) :
  aF af 139 #[aq (Z ⟨p,0,I⟩),.string ⟨#[114,111,111,109]⟩,ae (Z ⟨bk,o,I⟩) 6 c] w λe w'=>∃B:RB,e=av (.string ⟨#[]⟩)/\aL w' B M.s0 0/\(∀i,B.all i->w.heap.size<=i)/\aK w' p 180 #[aq (Z ⟨B.g,0,I⟩)]/\cS (One p) w w':=by
 have d:=JY p bk o c 2 2 1 1 2 1 (aq I) w hp a (λj x k=>b j x k) cC;have l:=hp.cell 0;simp at l;have m:=au d;clear d hp b;go_enter func139,ntmps139;go_wp2_with (go_at_call 202;refine m.O.mono ?_;rintro e w2 ⟨B,rfl,hR,f,h,u⟩;have n:=au hR;have q:=au f;have r:=au h;have s:=au u;clear hR f h u);go_ret;exact⟨B,rfl,n.O,q.O,r.O,s.O⟩
def GO{B:RB}{N:Nat}{w:aw}(h:aL w B M.s0 N)(p bk o c:Nat)(hp:aK w p 180 #[aq (Z ⟨B.g,0,I⟩)])(f:¬B.all bk)(A:N<=500000)(n:nG w bk o [0,7,8,9]) :
  aF af 139 #[aq (Z ⟨p,0,I⟩),.string ⟨#[112,117,98,108,105,115,104]⟩,ae (Z ⟨bk,o,I⟩) 4 c] w (vQ B w M.s1 (N+9) ⟨#[]⟩):=by
 have s:=hp.cell 0;simp at s;have hr:aL w.drew B M.s0 N:=h.below (eW (ao _ _));have i:=vZ hr 0 7 8 9 z aR aR aR;rw[M.Rh]at i;obtain⟨t,u⟩:=bu i n;have d:fK w w.drew B B:=fK.fN B (eW (ao _ _));have k:=au d;clear h hp hr i n d;go_enter func139,ntmps139;go_upto_region 8 with fail;refine fC (S:=λW=>nG W bk o [0,7,8,9]) cC (λj x l=>cE (u.O j x l)) (λa=>?_);refine fS 0 (aq (Z ⟨B.g,0,I⟩)) rfl a ?_;try simp only[aA,pqq]
 refine fS 1 (ae (Z ⟨bk,o,I⟩) 4 c) rfl a ?_;simp only[aA,pqq]
 refine fS 2 (aq (Z ⟨bk,o,I⟩)) rfl a ?_;simp only[aA,pqq]
 refine fS 3 (J V 0) rfl a ?_ (hy:=λW b=>by have q:W.cell? ⟨bk,o,I⟩=Z (J V 0):=b 0 _ rfl;go_simp);simp only[aA,pqq]
 refine fS 4 (ae (Z ⟨bk,o,I⟩) 4 c) rfl a ?_;simp only[aA,pqq]
 refine fS 5 (aq (Z ⟨bk,o+1,I⟩)) rfl a ?_;simp only[aA,pqq]
 refine fS 6 (J V 7) rfl a ?_ (hy:=λW b=>by have q:W.cell? ⟨bk,o+1,I⟩=Z (J V 7):=b 1 _ rfl;go_simp);simp only[aA,pqq]
 refine fS 7 (J ar 7) rfl a ?_ (hy:=λW b=>by have q:ar.wrap 7=7:=rfl;go_simp);simp only[aA,pqq]
 refine fS 8 (ae (Z ⟨bk,o,I⟩) 4 c) rfl a ?_;simp only[aA,pqq]
 refine fS 9 (aq (Z ⟨bk,o+2,I⟩)) rfl a ?_;simp only[aA,pqq]
 refine fS 10 (J V 8) rfl a ?_ (hy:=λW b=>by have q:W.cell? ⟨bk,o+2,I⟩=Z (J V 8):=b 2 _ rfl;go_simp);simp only[aA,pqq]
 refine fS 11 (J ar 8) rfl a ?_ (hy:=λW b=>by have q:ar.wrap 8=8:=rfl;go_simp);simp only[aA,pqq]
 refine fS 12 (ae (Z ⟨bk,o,I⟩) 4 c) rfl a ?_;simp only[aA,pqq]
 refine fS 13 (aq (Z ⟨bk,o+3,I⟩)) rfl a ?_;simp only[aA,pqq]
 refine fS 14 (J V 9) rfl a ?_ (hy:=λW b=>by have q:W.cell? ⟨bk,o+3,I⟩=Z (J V 9):=b 3 _ rfl;go_simp);simp only[aA,pqq]
 refine fS 15 (J ar 9) rfl a ?_ (hy:=λW b=>by have q:ar.wrap 9=9:=rfl;go_simp);simp only[aA,pqq]
 refine fS 16 (cg #[J ar 7,J ar 8,J ar 9]) rfl a ?_;simp only[aA,pqq]
 refine cH (rs:=[17]) cC dt ?_;refine bH rfl (λK r=>?_) cy;rw[if_pos jP];go_simp;go_at_call 38;refine t.O.mono ?_;rintro e w2 ⟨B',rfl,hR,m⟩;dsimp only;have h2:nG w2 bk o [0,7,8,9]:=λj x l=>dD m.fr f (a j x l);refine r.out _ _ h2 (λv=>?_);clear v r K;try simp only[aA,pqq]
 refine fS 18 (J V 0) rfl h2 ?_;simp only[aA,pqq]
 refine gV cC ?_ _;obtain⟨y,HS⟩:=bu (hR.mono (M':=N+9) z) (k.O.trans m);clear hR m h2 a;go_wp2_with fail;go_ret;exact⟨B',rfl,y.O,HS.O⟩
def Oe{B:RB}{N:Nat}{w:aw}(h:aL w B M.s1 N)(p bk o c:Nat)(hp:aK w p 180 #[aq (Z ⟨B.g,0,I⟩)])(f:¬B.all bk)(A:N<=500000)(n:nG w bk o [0,50,5,100]) :
  aF af 139 #[aq (Z ⟨p,0,I⟩),.string ⟨#[106,111,105,110]⟩,ae (Z ⟨bk,o,I⟩) 4 c] w (vQ B w M.s2 (N+2) ⟨#[]⟩):=by
 have s:=hp.cell 0;simp at s;have hr:aL w.drew B M.s1 N:=h.below (eW (ao _ _));have i:=Ba hr 0 50 5 100 z aR aR aR;rw[M.Re]at i;obtain⟨t,u⟩:=bu i n;have d:fK w w.drew B B:=fK.fN B (eW (ao _ _));have k:=au d;clear h hp hr i n d;go_enter func139,ntmps139;go_upto_region 10 with fail;refine fC (S:=λW=>nG W bk o [0,50,5,100]) cC (λj x l=>cE (u.O j x l)) (λa=>?_);refine fS 0 (aq (Z ⟨B.g,0,I⟩)) rfl a ?_;try simp only[aA,pqq]
 refine fS 1 (ae (Z ⟨bk,o,I⟩) 4 c) rfl a ?_;simp only[aA,pqq]
 refine fS 2 (aq (Z ⟨bk,o,I⟩)) rfl a ?_;simp only[aA,pqq]
 refine fS 3 (J V 0) rfl a ?_ (hy:=λW b=>by have q:W.cell? ⟨bk,o,I⟩=Z (J V 0):=b 0 _ rfl;go_simp);simp only[aA,pqq]
 refine fS 4 (ae (Z ⟨bk,o,I⟩) 4 c) rfl a ?_;simp only[aA,pqq]
 refine fS 5 (aq (Z ⟨bk,o+1,I⟩)) rfl a ?_;simp only[aA,pqq]
 refine fS 6 (J V 50) rfl a ?_ (hy:=λW b=>by have q:W.cell? ⟨bk,o+1,I⟩=Z (J V 50):=b 1 _ rfl;go_simp);simp only[aA,pqq]
 refine fS 7 (J ar 50) rfl a ?_ (hy:=λW b=>by have q:ar.wrap 50=50:=rfl;go_simp);simp only[aA,pqq]
 refine fS 8 (ae (Z ⟨bk,o,I⟩) 4 c) rfl a ?_;simp only[aA,pqq]
 refine fS 9 (aq (Z ⟨bk,o+2,I⟩)) rfl a ?_;simp only[aA,pqq]
 refine fS 10 (J V 5) rfl a ?_ (hy:=λW b=>by have q:W.cell? ⟨bk,o+2,I⟩=Z (J V 5):=b 2 _ rfl;go_simp);simp only[aA,pqq]
 refine fS 11 (J aN 5) rfl a ?_ (hy:=λW b=>by have q:aN.wrap 5=5:=rfl;go_simp);simp only[aA,pqq]
 refine fS 12 (ae (Z ⟨bk,o,I⟩) 4 c) rfl a ?_;simp only[aA,pqq]
 refine fS 13 (aq (Z ⟨bk,o+3,I⟩)) rfl a ?_;simp only[aA,pqq]
 refine fS 14 (J V 100) rfl a ?_ (hy:=λW b=>by have q:W.cell? ⟨bk,o+3,I⟩=Z (J V 100):=b 3 _ rfl;go_simp);simp only[aA,pqq]
 refine fS 15 (J ar 100) rfl a ?_ (hy:=λW b=>by have q:ar.wrap 100=100:=rfl;go_simp);simp only[aA,pqq]
 refine cH (rs:=[16]) cC dt ?_;refine bH rfl (λK r=>?_) cy;rw[if_pos jP];go_simp;go_at_call 39;refine t.O.mono ?_;rintro e w2 ⟨B',rfl,hR,m⟩;dsimp only;have h2:nG w2 bk o [0,50,5,100]:=λj x l=>dD m.fr f (a j x l);refine r.out _ _ h2 (λv=>?_);clear v r K;try simp only[aA,pqq]
 refine fS 17 (J V 0) rfl h2 ?_;simp only[aA,pqq]
 refine gV cC ?_ _;obtain⟨y,HS⟩:=bu (hR.mono (M':=N+2) z) (k.O.trans m);clear hR m h2 a;go_wp2_with fail;go_ret;exact⟨B',rfl,y.O,HS.O⟩
def Oc{B:RB}{N:Nat}{w:aw}(h:aL w B M.s2 N)(p bk o c:Nat)(hp:aK w p 180 #[aq (Z ⟨B.g,0,I⟩)])(f:¬B.all bk)(C:N<=500000)(r:nG w bk o [0,0,0]) :
  aF af 139 #[aq (Z ⟨p,0,I⟩),.string ⟨#[116,97,107,101]⟩,ae (Z ⟨bk,o,I⟩) 3 c] w (vQ B w M.s3 (N+1) ⟨#[]⟩):=by
 have t:=hp.cell 0;simp at t;have hr:aL w.drew B M.s2 N:=h.below (eW (ao _ _));have i:=uw hr 0 0 0 aR z (λq=>by obtain⟨G,k⟩:=M.Pk;rw[<-k.inv.lu];exact q);rw[M.Rb]at i;obtain⟨u,v⟩:=bu i r;have b:fK w w.drew B B:=fK.fN B (eW (ao _ _));have l:=au b;clear h hp hr i r b;go_enter func139,ntmps139;go_upto_region 12 with fail;refine fC (S:=λW=>nG W bk o [0,0,0]) cC (λj x m=>cE (v.O j x m)) (λa=>?_);refine fS 0 (aq (Z ⟨B.g,0,I⟩)) rfl a ?_;try simp only[aA,pqq]
 refine fS 1 (ae (Z ⟨bk,o,I⟩) 3 c) rfl a ?_;simp only[aA,pqq]
 refine fS 2 (aq (Z ⟨bk,o,I⟩)) rfl a ?_;simp only[aA,pqq]
 refine fS 3 (J V 0) rfl a ?_ (hy:=λW d=>by have q:W.cell? ⟨bk,o,I⟩=Z (J V 0):=d 0 _ rfl;go_simp);simp only[aA,pqq]
 refine fS 4 (ae (Z ⟨bk,o,I⟩) 3 c) rfl a ?_;simp only[aA,pqq]
 refine fS 5 (aq (Z ⟨bk,o+1,I⟩)) rfl a ?_;simp only[aA,pqq]
 refine fS 6 (J V 0) rfl a ?_ (hy:=λW d=>by have q:W.cell? ⟨bk,o+1,I⟩=Z (J V 0):=d 1 _ rfl;go_simp);simp only[aA,pqq]
 refine fS 7 (ae (Z ⟨bk,o,I⟩) 3 c) rfl a ?_;simp only[aA,pqq]
 refine fS 8 (aq (Z ⟨bk,o+2,I⟩)) rfl a ?_;simp only[aA,pqq]
 refine fS 9 (J V 0) rfl a ?_ (hy:=λW d=>by have q:W.cell? ⟨bk,o+2,I⟩=Z (J V 0):=d 2 _ rfl;go_simp);simp only[aA,pqq]
 refine cH (rs:=[10]) cC dt ?_;refine bH rfl (λK s=>?_) cy;rw[if_pos jP];go_simp;go_at_call 40;refine u.O.mono ?_;rintro e w2 ⟨B',rfl,hR,n⟩;dsimp only;have h2:nG w2 bk o [0,0,0]:=λj x m=>dD n.fr f (a j x m);refine s.out _ _ h2 (λy=>?_);clear y s K;try simp only[aA,pqq]
 refine fS 11 (J V 0) rfl h2 ?_;simp only[aA,pqq]
 refine gV cC ?_ _;obtain⟨A,HS⟩:=bu (hR.mono (M':=N+1) z) (l.O.trans n);clear hR n h2 a;go_wp2_with fail;go_ret;exact⟨B',rfl,A.O,HS.O⟩
def PH{B:RB}{N:Nat}{w:aw}(h:aL w B M.s3 N)(p bk o c:Nat)(hp:aK w p 180 #[aq (Z ⟨B.g,0,I⟩)])(K:N<=500000)(t:nG w bk o [7,1,9]) :
  aF af 139 #[aq (Z ⟨p,0,I⟩),.string ⟨#[107,101,121]⟩,ae (Z ⟨bk,o,I⟩) 3 c] w (vQ B w M.s4 (N+1) ⟨#[]⟩):=by
 have v:=hp.cell 0;simp at v;obtain⟨y,A⟩:=bu h t;clear h hp t;go_enter func139,ntmps139;go_upto_region 18 with fail;have hm:∀W r,aC w W->aK W r 5 #[J bI 16,J bI 0]->aF af 203 #[ae (Z ⟨bk,o,I⟩) 3 c,ae (Z ⟨r,0,I⟩) 2 2] W λe w'=>(∃s:Sl,e=av (ae s.a s.n s.c)/\s.B w' M.dg)/\aC W w':=λW r b C =>
  JG bk o c 7 1 9 ⟨Z ⟨r,0,I⟩,2,2⟩ [16,0] W (λj x D=>aM b (A.O j x D)) ⟨⟨rfl,aR,λ_=>⟨r,0,_,rfl,C,λi E=>by
   rcases i with _|_|i
   ·rfl
   ·rfl
   ·simp only at E;omega⟩⟩,aj _,(ui:2<=maxLen),λq=>by cases q⟩ aR aR aR aR
 have d:=hm (w.alloc (.cells #[J bI 16,J bI 0] 5)) w.heap.size ((ao _ w).alloc (aj _) _) (aK.newAt _ _ _ _ rfl);have F:=au d;clear hm d;go_wp2_with (first
  |(go_at_call 203;refine F.O.mono ?_;rintro e w2 ⟨⟨s,rfl,f⟩,b2⟩;have b3:=((ao w.heap.size w).alloc (aj _) (.cells #[J bI 16,J bI 0] 5)).trans (b2.mono dt);have k:s.n=14:=(by rw[<-f.tl.1,M.QG];rfl);have l:=tO (y.O.below b3) s M.dg (.of f) z z;rw[M.Q9]at l;have G:=au l;have m:=au b3;clear l f b2 b3 k)
  |(go_at_call 26;refine G.O.mono ?_;rintro e w4 ⟨B',rfl,hR,u⟩;have H:=au hR;have HS:=au ((fK.fN B m.O).trans u);clear hR u))
 go_ret;exact⟨B',rfl,H.O,HS.O⟩
def Ob{B:RB}{N:Nat}{w:aw}(h:aL w B M.s4 N)(p:Nat)(hp:aK w p 180 #[aq (Z ⟨B.g,0,I⟩)])(a:¬B.all p)(f:N<=500000)(bk o c:Nat)(b:nG w bk o [1]) :
  aF af 139 #[aq (Z ⟨p,0,I⟩),.string ⟨#[116,117,114,110]⟩,ae (Z ⟨bk,o,I⟩) 1 c] w (vQ B w M.s5 (N+45) ⟨#[53]⟩):=by
 have ht:=IZ h p hp a f bk o c (b 0 _ rfl);have i:=hp.cell 0;simp at i;have j:=au ht;clear ht h hp a b;go_enter func139,ntmps139;go_wp2_with (go_at_call 205;refine j.O.mono ?_;rintro e w2 ⟨B',rfl,hR,d⟩;have k:=au hR;have HS:=au d;clear hR d);go_ret;exact⟨B',rfl,k.O,HS.O⟩
def MO{B:RB}{N:Nat}{w:aw}(h:aL w B M.s5 N)(p:Nat)(hp:aK w p 180 #[aq (Z ⟨B.g,0,I⟩)])(d:N<=500000)(he:Env w)(bk o c:Nat)(a:nG w bk o [0]) :
  aF af 139 #[aq (Z ⟨p,0,I⟩),.string ⟨#[119,114,111,116,101]⟩,ae (Z ⟨bk,o,I⟩) 1 c] w (vQ B w M.s5 N answer):=by
 have ht:=FA h p hp d he bk o c (a 0 _ rfl);have f:=hp.cell 0;simp at f;obtain⟨i,j⟩:=bu ht h;clear ht h hp a he;go_enter func139,ntmps139;go_wp2_with (go_at_call 205;refine i.O.mono ?_;rintro e w2 ⟨rfl,b2⟩;have b:=au b2;clear b2);go_ret;exact⟨B,rfl,j.O.below b.O,fK.fN B b.O⟩
def mr(w:aw)(g o:Nat)(ws:List ByteArray):Prop:=∀(j:Nat) x,ws[j]? = Z x->w.cell? ⟨g,o+j,I⟩=Z (.string x)
def mr.below{w w':aw}{g o:Nat}{ws:List ByteArray}(h:mr w g o ws)(b:aC w w'):mr w' g o ws:=λj x a=>aM b (h j x a)
def Iy{w:aw}{base:Nat}{v:Value}{ws:List ByteArray}{ns:List Int}(h:w.ownsRow base 3 1 v ws.length (ws.map λx=>J V (numOf x.data.toList)))(b:ws.map (λx=>numOf x.data.toList)=ns)(hp:0<ws.length) :
  ∃g c,v=ae (Z ⟨g,0,I⟩) ws.length c/\nG w g 0 ns/\base<=g/\g<w.heap.size:=by
 obtain⟨g,c,rfl⟩:=lR h hp;obtain⟨e,f⟩:=h.lt g rfl;refine⟨g,c,rfl,λj x a=>?_,e,f⟩;have i:j<ns.length:=(aS.1 a).1;have k:ns.length=ws.length:=by rw[<-b,List.length_map]
 rw[cO,h.cellAt j z];rw[<-b,dE]at a;rw[dE];cases d:ws[j]? with
 |none=>rw[d]at a;cases a
 |some y=>rw[d]at a;simp at a;simp[a]
def JK{w:aw}(p:Nat)(hp:aK w p 180 #[aq I])(g o c:Nat)(hw:mr w g o Sc.w0)(df:7<=c) :
  aF af 78 #[aq (Z ⟨p,0,I⟩),ae (Z ⟨g,o,I⟩) 7 c] w λe w'=>∃B:RB,e=av (.string ⟨#[111,107]⟩)/\aL w' B M.s0 0/\(∀i,B.all i->w.heap.size<=i)/\aK w' p 180 #[aq (Z ⟨B.g,0,I⟩)]/\Fr (One p) w w':=by
 have eI:∀(fn:Fn) (first cap:Array Value) (w:aw),(Instr.makeFunc fn first cap).run af w=.ok (.func fn first cap) w:=λ_ _ _ _=>rfl;obtain⟨L,N⟩:=bu hp hw;have gX:¬c=1:=z;have mK:¬c<1:=z;have SG:=hp.lt;clear hp hw;go_enter_defers func78,ntmps78;go_upto_region 1 with fail;obtain⟨r4,P⟩:=dH w.heap.size;rw[<-P];have Q:w.heap.size<=r4:=z;refine aW (λX=>aK X r4 9 #[.string ⟨#[]⟩]/\aC w X) ⟨aK.newAt _ _ _ _ P,(ao _ w).alloc (aj _) _⟩ ?_;rintro X ⟨b4,G⟩;have k0:X.cell? ⟨g,o,I⟩=Z (.string ⟨#[114,111,111,109]⟩):=N.O.below G 0 _ rfl;have SH:r4<X.heap.size:=b4.lt;obtain⟨r,a⟩:=bu b4 G;have s:X.cell? ⟨p,0,I⟩=Z (aq I):=by have t:=(L.O.kept G).cell 0;simpa using t
 have R:=au s;clear b4 G P s;go_upto_region 3 with fail;clear k0;have HF:=au (λW:aw=>J1 W);have h:=au (λ(W:aw) (b:aC X W)=>xY ⟨#[110,110,110,110,110,110]⟩ g (o+1) (c-1) Sc.w0.tail W (λj x hx=>by
  have t:=N.O.below (a.O.trans (b.mono a.O.size)) (j+1) x (by simpa using hx)
  rw[show o+1+j=o+(j+1) by omega];exact t) (by have:=uc (N.O 0 _ rfl);have:=a.O.size;have:=b.size;omega) rfl aR aR)
 refine wp_region_noPanic ?_;refine fC (S:=λW=>aC X W) cC (eW (ao _ _)) (λd=>?_);refine fS 0 (.string ⟨#[114,111,111,109]⟩) rfl d ?_;try simp only[aA,pqq]
 refine fS 2 (ae (Z ⟨g,o,I⟩) 7 c) rfl d ?_;simp only[aA,pqq]
 refine fS 3 (ae (Z ⟨g,o+1,I⟩) 6 (c-1)) rfl d ?_;simp only[aA,pqq]
 refine cH (rs:=[1]) cC dt ?_;refine bH rfl (λK y=>?_) cy;rw[if_pos jP];go_simp;go_at_call 138;refine(HF.O _).mono ?_;rintro e w2 ⟨rfl,rfl⟩;dsimp only;refine y.out _ _ d (λT=>?_);clear T y K;try simp only[aA,pqq]
 refine cH (rs:=[4]) cC dt ?_;refine bH rfl (λK y=>?_) cy;rw[if_pos jP];go_simp;go_at_call 137;refine(h.O _ d).mono ?_;rintro e w3 ⟨v,rfl,hv,b3⟩;dsimp only;have h3:aC X w3:=d.trans (b3.mono d.size);obtain⟨g5,c5,rfl,A,SI,SJ⟩:=Iy (ns:=[2,2,1,1,2,1]) hv aR aR;refine y.out _ _ h3 (λT=>?_);clear T y K;try simp only[aA,pqq]
 refine fS 5 (ae (Z ⟨g5,0,I⟩) Sc.w0.tail.length c5) rfl h3 ?_;simp only[aA,pqq]
 refine gV cC ?_ _;refine NoPanic.normal ?_;have SK:X.heap.size<=g5:=by have:=d.size;omega
 have l:=a.O.trans (h3.mono a.O.size);have m:=L.O.kept l;have c0:=m.cell 0;simp at c0;have C:=r.O.kept h3;have D:=Od p g5 0 c5 w3 m (lE a.O.size) A;obtain⟨U,n,E⟩:=bU D l C;clear D l C m A hv h3 b3 h HF R d r;go_wp2_with (go_at_call 139;refine U.O.mono ?_;rintro e H ⟨B,rfl,hR,hL,hP,u⟩;have b4:=E.O.dW u (λq=>by have:r4=p:=q;omega);have q4:=b4.cell 0;have f4:=b4.frozen 0;simp at q4;have HR:=au hR;have HL:=au hL;have Y:=au hP;have HU:=au u;have k:=au b4;clear hR hL hP u b4);refine leaves_cons (f:=135) (args:=#[aq (Z ⟨r4,0,I⟩)]) dt (by simp[go_sem]) ?_;refine(vJ ⟨r4,0,I⟩ _).mono ?_;rintro e u' SL ⟨rfl,rfl,rfl⟩;have aI:(H.setCell ⟨r4,0,I⟩ (.string ⟨#[111,107]⟩)).cell? ⟨r4,0,I⟩=Z (.string ⟨#[111,107]⟩):=by have t:=(k.O.bC 0 (.string ⟨#[111,107]⟩)).cell 0;simpa using t
 simp[Go.Leaves,settle,aV,results78,go_sem,aI];have f9:Fr (One r4) H (H.setCell ⟨r4,0,I⟩ (.string ⟨#[111,107]⟩)):=(Fr.refl (One r4) _).setCell k.O (.inl rfl) aR aR 0 _;have SM:=n.O.size;have f3:Fr (One p) w H:=(Fr.bn n.O).trans (Fr.nY HU.O (ts:=[180]) (λi F=>by cases F;exact⟨180,_,dt,L.O.kept n.O⟩) aR aR);exact⟨B,HR.O.fr f9 (λi F q=>by have:=HL.O i F;rw[show i=r4 from q]at this;omega),λi F=>by have:=HL.O i F;omega,Y.O.dW f9.u (λq=>by have:p=r4:=q;omega),f3.step f9 (λi q=>by right;rw[show i=r4 from q];exact Q)⟩
def uT{B:RB}{R R':M.Room}{N N':Nat}{w:aw}(D L more Fk:ByteArray)(wt:List ByteArray)(ns:List Int)(m:Nat)(hm:wt.length=m)(SI:(D.toList==[114,111,111,109])=false)(E:∀W,aF af 138 #[.string D] W λe w'=>e=av (.string L)/\w'=W)
  (hf:L.size=wt.length) (hl:wt.length<=100) (SJ:∀(j:Nat) (h:j<L.size) x,wt[j]? = Z x->Iz L[j] x=true) (SK:wt.map (λx=>numOf x.data.toList)=ns) (Q:0<wt.length)
  (T:more=⟨#[]⟩/\Fk=⟨#[111,107]⟩\/(more.toList.isEmpty=false/\more.size<=100)/\Fk=⟨#[111,107,32]⟩++more) (h:aL w B R N) (p:Nat) (hp:aK w p 180 #[aq (Z ⟨B.g,0,I⟩)])
  (r:∀W g5 c5,aC w W->w.heap.size<=g5->nG W g5 0 ns->aF af 139 #[aq (Z ⟨p,0,I⟩),.string D,ae (Z ⟨g5,0,I⟩) m c5] W (vQ B W R' N' more))
  (g o c:Nat) (hw:mr w g o (D::wt)) (SP:m+1<=c) :
  aF af 78 #[aq (Z ⟨p,0,I⟩),ae (Z ⟨g,o,I⟩) (m+1) c] w λe w'=>∃B',e=av (.string Fk)/\aL w' B' R' N'/\fK w w' B B':=by
 have SQ:∀(fn:Fn) (first cap:Array Value) (w:aw),(Instr.makeFunc fn first cap).run af w=.ok (.func fn first cap) w:=λ_ _ _ _=>rfl;obtain⟨HP,HW⟩:=bu hp hw;have SU:¬c=1:=z;have SV:¬c<1:=z;have U:=au r;have SL:=h.lt;have SW:¬((m:Int)+1<1):=z;have SX:¬D.toList=[114,111,111,109]:=by simpa using SI
 have SY:=hp.lt;clear hp hw r h;go_enter_defers func78,ntmps78;go_upto_region 1 with fail;obtain⟨r4,e4⟩:=dH w.heap.size;rw[<-e4];have Y:w.heap.size<=r4:=z;refine aW (λX=>aK X r4 9 #[.string ⟨#[]⟩]/\aC w X) ⟨aK.newAt _ _ _ _ e4,(ao _ w).alloc (aj _) _⟩ ?_;rintro X ⟨b4,bX⟩;have k0:X.cell? ⟨g,o,I⟩=Z (.string D):=HW.O.below bX 0 _ rfl;have SZ:r4<X.heap.size:=b4.lt;obtain⟨aI,n⟩:=bu b4 bX;have df:X.cell? ⟨p,0,I⟩=Z (aq (Z ⟨B.g,0,I⟩)):=by have F:=(HP.O.kept bX).cell 0;simpa using F
 have SM:=au df;clear b4 bX e4 df;go_upto_region 3 with fail;clear k0;have HF:=au E;have s:=au (λ(W:aw) (b:aC X W)=>xY L g (o+1) (c-1) wt W (λj x hx=>by
  have F:=HW.O.below (n.O.trans (b.mono n.O.size)) (j+1) x (by simpa using hx)
  rw[show o+1+j=o+(j+1) by omega];exact F) (by have:=uc (HW.O 0 _ rfl);have:=n.O.size;have:=b.size;omega) hf hl SJ)
 rw[hm]at s;refine wp_region_noPanic ?_;refine fC (S:=λW=>aC X W) cC (eW (ao _ _)) (λy=>?_);refine fS 0 (.string D) rfl y ?_;try simp only[aA,pqq]
 refine fS 2 (ae (Z ⟨g,o,I⟩) (m+1) c) rfl y ?_;simp only[aA,pqq]
 refine fS 3 (ae (Z ⟨g,o+1,I⟩) m (c-1)) rfl y ?_;simp only[aA,pqq]
 refine cH (rs:=[1]) cC dt ?_;refine bH rfl (λK hK=>?_) cy;rw[if_pos jP];go_simp;go_at_call 138;refine(HF.O _).mono ?_;rintro e w2 ⟨rfl,rfl⟩;dsimp only;refine hK.out _ _ y (λhq=>?_);clear hq hK K;try simp only[aA,pqq]
 refine cH (rs:=[4]) cC dt ?_;refine bH rfl (λK hK=>?_) cy;rw[if_pos jP];go_simp;go_at_call 137;refine(s.O _ y).mono ?_;rintro e w3 ⟨v,rfl,hv,b3⟩;dsimp only;have h3:aC X w3:=y.trans (b3.mono y.size);rw[<-hm]at hv;obtain⟨g5,c5,rfl,eI,Ta,Tb⟩:=Iy hv SK Q;rw[hm];refine hK.out _ _ h3 (λhq=>?_);clear hq hK K;try simp only[aA,pqq]
 refine fS 5 (ae (Z ⟨g5,0,I⟩) m c5) rfl h3 ?_;simp only[aA,pqq]
 refine gV cC ?_ _;refine NoPanic.normal ?_;have Tc:X.heap.size<=g5:=by have:=y.size;omega
 have A:=n.O.trans (h3.mono n.O.size);have gX:=HP.O.kept A;have c0:=gX.cell 0;simp at c0;have mK:=aI.O.kept h3;have r:=U.O w3 g5 c5 A (lE n.O.size) eI;obtain⟨SG,SH,l⟩:=bU r A mK;have C:¬B.all r4:=λq=>by have:=SL r4 q;omega
 clear r A mK gX eI hv h3 b3 s HF SM y aI;rcases T with⟨rfl,rfl⟩ | ⟨⟨Td,Te⟩,rfl⟩
 ·go_wp2_with (go_at_call 139;refine SG.O.mono ?_;rintro e G ⟨B',rfl,hR,a⟩;have b4:=l.O.dW a.fr.u C;have q4:=b4.cell 0;have f4:=b4.frozen 0;simp at q4;have t:¬B'.all r4:=(λq=>by rcases a.own r4 q with k|k;exact C k;have:=l.O.lt;omega);have HR:=au hR;have HS:=au a;have d:=au b4;clear hR a b4);refine leaves_cons (f:=135) (args:=#[aq (Z ⟨r4,0,I⟩)]) dt (by simp[go_sem]) ?_;refine(vJ ⟨r4,0,I⟩ _).mono ?_;rintro e u' SN ⟨rfl,rfl,rfl⟩;have H:(G.setCell ⟨r4,0,I⟩ (.string ⟨#[111,107]⟩)).cell? ⟨r4,0,I⟩=Z (.string ⟨#[111,107]⟩):=by have F:=(d.O.bC 0 (.string ⟨#[111,107]⟩)).cell 0;simpa using F
  simp[Go.Leaves,settle,aV,results78,go_sem,H];have f9:Fr (One r4) G (G.setCell ⟨r4,0,I⟩ (.string ⟨#[111,107]⟩)):=(Fr.refl (One r4) _).setCell d.O (.inl rfl) aR aR 0 _;have a:=(fK.fN B SH.O).trans HS.O;exact⟨B',HR.O.fr f9 (λi hi q=>t ((show i=r4 from q) ▸ hi)),a.g,a.fr.step f9 (λi q=>by right;rw[show i=r4 from q];exact Y),a.own⟩
 ·have SO:=λW:aw=>run_string_add (P:=af) W ⟨#[111,107,32]⟩ more aR z;go_wp2_with (go_at_call 139;refine SG.O.mono ?_;rintro e G ⟨B',rfl,hR,a⟩;have b4:=l.O.dW a.fr.u C;have q4:=b4.cell 0;have f4:=b4.frozen 0;simp at q4;have t:¬B'.all r4:=(λq=>by rcases a.own r4 q with k|k;exact C k;have:=l.O.lt;omega);have HR:=au hR;have HS:=au a;have d:=au b4;clear hR a b4);refine leaves_cons (f:=135) (args:=#[aq (Z ⟨r4,0,I⟩)]) dt (by simp[go_sem]) ?_;refine(vJ ⟨r4,0,I⟩ _).mono ?_;rintro e u' SN ⟨rfl,rfl,rfl⟩;have H:(G.setCell ⟨r4,0,I⟩ (.string (⟨#[111,107,32]⟩++more))).cell? ⟨r4,0,I⟩=Z (.string (⟨#[111,107,32]⟩++more)):=by have F:=(d.O.bC 0 (.string (⟨#[111,107,32]⟩++more))).cell 0;simpa using F
  simp[Go.Leaves,settle,aV,results78,go_sem,H];have f9:Fr (One r4) G (G.setCell ⟨r4,0,I⟩ (.string (⟨#[111,107,32]⟩++more))):=(Fr.refl (One r4) _).setCell d.O (.inl rfl) aR aR 0 _;have a:=(fK.fN B SH.O).trans HS.O;exact⟨B',HR.O.fr f9 (λi hi q=>t ((show i=r4 from q) ▸ hi)),a.g,a.fr.step f9 (λi q=>by right;rw[show i=r4 from q];exact Y),a.own⟩
def CJ{B:RB}{N:Nat}{w:aw}(p:Nat)(h:aL w B M.s0 N)(hp:aK w p 180 #[aq (Z ⟨B.g,0,I⟩)])(d:¬B.all p)(f:N<=400000)(g o c:Nat)(hw:mr w g o Sc.w1)(a:5<=c) :
  aF af 78 #[aq (Z ⟨p,0,I⟩),ae (Z ⟨g,o,I⟩) 5 c] w λe w'=>∃B',e=av (.string ⟨#[111,107]⟩)/\aL w' B' M.s1 (N+9)/\fK w w' B B':=
 uT ⟨#[112,117,98,108,105,115,104]⟩ ⟨#[110,110,110,110]⟩ ⟨#[]⟩ ⟨#[111,107]⟩ Sc.w1.tail [0,7,8,9] 4 rfl cC CO rfl aR aR aR aR (.inl ⟨rfl,rfl⟩) h p hp (λW g c b hg n=>GO (h.below b) p g 0 c (hp.kept b) (λq=>by have:=h.lt g q;omega) z n) g o c hw a
def JL{B:RB}{N:Nat}{w:aw}(p:Nat)(h:aL w B M.s1 N)(hp:aK w p 180 #[aq (Z ⟨B.g,0,I⟩)])(d:¬B.all p)(f:N<=400000)(g o c:Nat)(hw:mr w g o Sc.w2)(a:5<=c) :
  aF af 78 #[aq (Z ⟨p,0,I⟩),ae (Z ⟨g,o,I⟩) 5 c] w λe w'=>∃B',e=av (.string ⟨#[111,107]⟩)/\aL w' B' M.s2 (N+2)/\fK w w' B B':=
 uT ⟨#[106,111,105,110]⟩ ⟨#[110,110,115,110]⟩ ⟨#[]⟩ ⟨#[111,107]⟩ Sc.w2.tail [0,50,5,100] 4 rfl cC J5 rfl aR aR aR aR (.inl ⟨rfl,rfl⟩) h p hp (λW g c b hg n=>Oe (h.below b) p g 0 c (hp.kept b) (λq=>by have:=h.lt g q;omega) z n) g o c hw a
def JJ{B:RB}{N:Nat}{w:aw}(p:Nat)(h:aL w B M.s2 N)(hp:aK w p 180 #[aq (Z ⟨B.g,0,I⟩)])(d:¬B.all p)(f:N<=400000)(g o c:Nat)(hw:mr w g o Sc.w3)(a:4<=c) :
  aF af 78 #[aq (Z ⟨p,0,I⟩),ae (Z ⟨g,o,I⟩) 4 c] w λe w'=>∃B',e=av (.string ⟨#[111,107]⟩)/\aL w' B' M.s3 (N+1)/\fK w w' B B':=
 uT ⟨#[116,97,107,101]⟩ ⟨#[110,110,110]⟩ ⟨#[]⟩ ⟨#[111,107]⟩ Sc.w3.tail [0,0,0] 3 rfl cC J0 rfl aR aR aR aR (.inl ⟨rfl,rfl⟩) h p hp (λW g c b hg n=>Oc (h.below b) p g 0 c (hp.kept b) (λq=>by have:=h.lt g q;omega) z n) g o c hw a
def LV{B:RB}{N:Nat}{w:aw}(p:Nat)(h:aL w B M.s3 N)(hp:aK w p 180 #[aq (Z ⟨B.g,0,I⟩)])(d:¬B.all p)(f:N<=400000)(g o c:Nat)(hw:mr w g o Sc.w4)(a:4<=c) :
  aF af 78 #[aq (Z ⟨p,0,I⟩),ae (Z ⟨g,o,I⟩) 4 c] w λe w'=>∃B',e=av (.string ⟨#[111,107]⟩)/\aL w' B' M.s4 (N+1)/\fK w w' B B':=
 uT ⟨#[107,101,121]⟩ ⟨#[110,115,110]⟩ ⟨#[]⟩ ⟨#[111,107]⟩ Sc.w4.tail [7,1,9] 3 rfl cC ME rfl aR aR aR aR (.inl ⟨rfl,rfl⟩) h p hp (λW g c b hg n=>PH (h.below b) p g 0 c (hp.kept b) z n) g o c hw a
def JI{B:RB}{N:Nat}{w:aw}(p:Nat)(h:aL w B M.s4 N)(hp:aK w p 180 #[aq (Z ⟨B.g,0,I⟩)])(a:¬B.all p)(f:N<=400000)(g o c:Nat)(hw:mr w g o Sc.w5)(d:2<=c) :
  aF af 78 #[aq (Z ⟨p,0,I⟩),ae (Z ⟨g,o,I⟩) 2 c] w λe w'=>∃B',e=av (.string ⟨#[111,107,32,53]⟩)/\aL w' B' M.s5 (N+45)/\fK w w' B B':=
 uT ⟨#[116,117,114,110]⟩ ⟨#[116]⟩ ⟨#[53]⟩ ⟨#[111,107,32,53]⟩ Sc.w5.tail [1] 1 rfl cC JZ rfl aR aR aR aR (.inr ⟨⟨cC,aR⟩,cC⟩) h p hp (λW g c b hg n=>Ob (h.below b) p (hp.kept b) a z g 0 c n) g o c hw d
def Gs{B:RB}{N:Nat}{w:aw}(p:Nat)(h:aL w B M.s5 N)(hp:aK w p 180 #[aq (Z ⟨B.g,0,I⟩)])(d:¬B.all p)(f:N<=400000)(he:Env w)(g o c:Nat)(hw:mr w g o Sc.w6)(a:2<=c) :
  aF af 78 #[aq (Z ⟨p,0,I⟩),ae (Z ⟨g,o,I⟩) 2 c] w λe w'=>∃B',e=av (.string ⟨#[111,107,32,48,58,53,58,49,48,48]⟩)/\aL w' B' M.s5 (N+0)/\fK w w' B B':=
 uT ⟨#[119,114,111,116,101]⟩ ⟨#[110]⟩ ⟨#[48,58,53,58,49,48,48]⟩ ⟨#[111,107,32,48,58,53,58,49,48,48]⟩ Sc.w6.tail [0] 1 rfl cC GK rfl aR aR aR aR (.inr ⟨⟨cC,aR⟩,cC⟩) h p hp (λW g c b hg n=>MO (h.below b) p (hp.kept b) z (he.below b) g 0 c n) g o c hw a
section
namespace Sc
def SR:Nat->M.Room
 |0=>M.s0
 |1=>M.s1
 |2=>M.s2
 |3=>M.s3
 |4=>M.s4
 |_=>M.s5
def Sa:∀k,Nl (SR k)
 |0=>Ri
 |1=>Rf
 |2=>Rc
 |3=>Ra
 |4=>Q8
 |_+5=>QX
def Fk:Nat->ByteArray
 |5=>⟨#[111,107,32,53]⟩
 |6=>⟨#[111,107,32,48,58,53,58,49,48,48]⟩
 |_=>⟨#[111,107]⟩
def ws:Nat->List ByteArray
 |0=>w0
 |1=>w1
 |2=>w2
 |3=>w3
 |4=>w4
 |5=>w5
 |_=>w6
def ln:Nat->ByteArray
 |0=>l0
 |1=>l1
 |2=>l2
 |3=>l3
 |4=>l4
 |5=>l5
 |_=>l6
def fF:Nat->List UInt8
 |0=>[]
 |k+1=>fF k++(Fk k).data.toList++[10]
end Sc
def Hv(w:aw)(base p b gl:Nat):Nat->Prop
 |0=>aK w p 180 #[aq I]
 |k+1=>∃B:RB,aL w B (Sc.SR k) (100*k)/\aK w p 180 #[aq (Z ⟨B.g,0,I⟩)]/\∀i,B.all i->base<=i/\i≠p/\i≠b/\i≠gl
def Hv.cw{w:aw}{base p b gl:Nat}:∀{k:Nat},Hv w base p b gl k->∃v,aK w p 180 #[v]
 |0,h=>⟨_,h⟩
 |k+1,h=>by obtain⟨B,_,q,_⟩:=h;exact⟨_,q⟩
def aL.ni{w:aw}{B:RB}{R:M.Room}{N:Nat}(h:aL w B R N):vP w B.all:=λi ⟨X,a⟩=>(h.part X).ni i a
structure KJ(w0:aw)(p b gl:Nat)(w:aw)(k:Nat)(t:List UInt8):Prop where
 st:Hv w w0.heap.size p b gl k
 OR:yA w w0.heap.size b t
 lines:aK w gl 9 (Sc.lines.map jA).toArray
 env:Env w
 fN:aC w0 w
 lo:w0.heap.size<=p/\w0.heap.size<=b/\w0.heap.size<=gl
 ne:p≠b/\gl≠p/\gl≠b
section
variable {w0 w w':aw} {p b gl k:Nat} {t:List UInt8}
def yA.fr{F:Nat->Prop}{base:Nat}(h:yA w base b t)(f:Fr F w w')(a:¬F b)(hm:vP w F):yA w' base b t:=by
 obtain⟨c,v,h1,h2,h3,h4⟩:=h;refine⟨c,v,h1,h2.dW f.u a,h3,h4.dW f.u λi d q=>?_⟩;obtain⟨cs,e⟩:=h4.PL d;exact(hm i q).ne e (.inl rfl) rfl
def Hv.below{base:Nat}:∀{k:Nat},Hv w base p b gl k->aC w w'->Hv w' base p b gl k
 |0,h,u=>aK.kept h u
 |k+1,h,u=>by obtain⟨B,h1,h2,h3⟩:=h;exact⟨B,h1.below u,h2.kept u,h3⟩
def KJ.below(h:KJ w0 p b gl w k t)(u:aC w w'):KJ w0 p b gl w' k t:=
 ⟨h.st.below u,h.OR.fr (F:=cr) (.bn u) id (vP.none _),h.lines.kept u,h.env.below u,h.fN.trans (u.mono h.fN.size),h.lo,h.ne⟩
def Env.PM(h:Env w0)(u:aC w0 w):Env w:=h.below u
def KJ.line(h:KJ w0 p b gl w k t)(he:Env w0)(E:k<7)(g o c:Nat)(hw:mr w g o (Sc.ws k))(n:(Sc.ws k).length<=c) :
  aF af 78 #[aq (Z ⟨p,0,I⟩),ae (Z ⟨g,o,I⟩) (Sc.ws k).length c] w λe w'=>e=av (.string (Sc.Fk k))/\KJ w0 p b gl w' (k+1) t:=by
 have fin:∀(B B':RB) (w':aw),aL w B (Sc.SR (k-1)) (100*(k-1))->(∀i,B.all i->w0.heap.size<=i/\i≠p/\i≠b/\i≠gl)->aK w p 180 #[aq (Z ⟨B.g,0,I⟩)] ->
   aL w' B' (Sc.SR k) (100*k)->fK w w' B B'->KJ w0 p b gl w' (k+1) t:=λB B' w' hR j l d m=>by
  have r:Below w0.heap.size w w':=m.fr.below h.fN.size λi s=>(j i s).1;have hp:=l.lt;have x:=h.lines.lt;have y:b<w.heap.size:=by obtain⟨A,v,_,q,_⟩:=h.OR;exact q.lt
  refine⟨⟨B',d,?_,λi s=>?_⟩,h.OR.fr m.fr (λq=>(j b q).2.2.1 rfl) hR.ni,h.lines.dW m.fr.u (λq=>(j gl q).2.2.2 rfl),he.PM (h.fN.trans r),h.fN.trans r,h.lo,h.ne⟩
  ·rw[m.g];exact l.dW m.fr.u (λq=>(j p q).2.1 rfl)
  ·rcases m.own i s with q|q
   ·exact j i q
   ·have:=h.fN.size;exact⟨z,z,z,z⟩
 have lt7:k=0\/k=1\/k=2\/k=3\/k=4\/k=5\/k=6:=z;rcases lt7 with rfl|rfl|rfl|rfl|rfl|rfl|rfl
 ·refine(JK p h.st g o c hw n).mono ?_;rintro e w' ⟨B,rfl,hR,C,l,f⟩;have hp:aK w p 180 #[aq I]:=h.st;have D:=hp.lt;have x:=h.lines.lt;have y:b<w.heap.size:=by obtain⟨A,v,_,q,_⟩:=h.OR;exact q.lt
  have r:Below w0.heap.size w w':=f.below h.fN.size λi s=>by cases s;exact h.lo.1
  refine⟨rfl,⟨B,hR,l,λi s=>?_⟩,h.OR.fr f (λq=>h.ne.1 (by cases q;rfl)) (λi q=>by cases q;exact .cw hp aR aR),h.lines.dW f.u (λq=>h.ne.2.1 q),he.PM (h.fN.trans r),h.fN.trans r,h.lo,h.ne⟩;have:=C i s;have:=h.fN.size;exact⟨z,z,z,z⟩
 ·obtain⟨B,a,l,j⟩:=h.st;have hR:aL w B M.s0 0:=a;refine(CJ p hR l (λq=>(j p q).2.1 rfl) aR g o c hw n).mono ?_;rintro e w' ⟨B',rfl,d,m⟩;exact⟨rfl,fin B B' w' a j l (d.mono aR) m⟩
 ·obtain⟨B,a,l,j⟩:=h.st;have hR:aL w B M.s1 100:=a;refine(JL p hR l (λq=>(j p q).2.1 rfl) aR g o c hw n).mono ?_;rintro e w' ⟨B',rfl,d,m⟩;exact⟨rfl,fin B B' w' a j l (d.mono aR) m⟩
 ·obtain⟨B,a,l,j⟩:=h.st;have hR:aL w B M.s2 200:=a;refine(JJ p hR l (λq=>(j p q).2.1 rfl) aR g o c hw n).mono ?_;rintro e w' ⟨B',rfl,d,m⟩;exact⟨rfl,fin B B' w' a j l (d.mono aR) m⟩
 ·obtain⟨B,a,l,j⟩:=h.st;have hR:aL w B M.s3 300:=a;refine(LV p hR l (λq=>(j p q).2.1 rfl) aR g o c hw n).mono ?_;rintro e w' ⟨B',rfl,d,m⟩;exact⟨rfl,fin B B' w' a j l (d.mono aR) m⟩
 ·obtain⟨B,a,l,j⟩:=h.st;have hR:aL w B M.s4 400:=a;refine(JI p hR l (λq=>(j p q).2.1 rfl) aR g o c hw n).mono ?_;rintro e w' ⟨B',rfl,d,m⟩;exact⟨rfl,fin B B' w' a j l (d.mono aR) m⟩
 ·obtain⟨B,a,l,j⟩:=h.st;have hR:aL w B M.s5 500:=a;refine(Gs p hR l (λq=>(j p q).2.1 rfl) aR h.env g o c hw n).mono ?_;rintro e w' ⟨B',rfl,d,m⟩;exact⟨rfl,fin B B' w' a j l (d.mono aR) m⟩
def KJ.wrote(h:KJ w0 p b gl w k t)(he:Env w0){m:List UInt8}(hp:yT w w0.heap.size b m w'):KJ w0 p b gl w' k m:=by
 obtain⟨o,F,⟨r,hF⟩,u⟩:=hp;have a:Below w0.heap.size w w':=u.below h.fN.size λi c=>(hF i c).1;have h5:∀{g:Nat} {ty:TypeId} {cs:Array Value},aK w g ty cs->ty≠5->g≠b->¬F g:=λd ht f q=>by
  rcases(hF _ q).2 with e | ⟨j,e⟩
  ·exact f e
  ·exact aK.jf d e ht rfl
 have l:Hv w' w0.heap.size p b gl k:=by
  cases k with
  |zero=>exact aK.dW (show aK w p 180 #[aq I] from h.st) u (h5 h.st aR h.ne.1)
  |succ k =>
   obtain⟨B,hR,n,d⟩:=h.st;refine⟨B,hR.jF u r (Sc.Sa k) (λi c q=>?_),n.dW u (h5 n aR h.ne.1),d⟩;rcases(hF i q).2 with e | ⟨j,e⟩
   ·exact(d i c).2.2.1 e
   ·exact(hR.ni i c).ne e (.inl rfl) rfl
 exact⟨l,o,h.lines.dW u (h5 h.lines aR h.ne.2.2),he.PM (h.fN.trans a),h.fN.trans a,h.lo,h.ne⟩
end
def No(k:Nat)(o:k<7){w:aw}(he:Env w):aF af 76 #[.string (Sc.ln k)] w λe w'=>∃g c,e=av (ae (Z ⟨g,0,I⟩) (Sc.ws k).length c)/\mr w' g 0 (Sc.ws k)/\(Sc.ws k).length<=c/\aC w w':=by
 obtain⟨m,hm⟩:=he.max;have fin:∀(L:List ByteArray),0<L.length->∀(e:Ending) (w':aw),(∃v,e=av v/\w'.ownsRow w.heap.size 9 1 v L.length (L.map jA)/\aC w w')->∃g c,e=av (ae (Z ⟨g,0,I⟩) L.length c)/\mr w' g 0 L/\L.length<=c/\aC w w':=by
  rintro L i e w' ⟨v,rfl,d,b⟩;obtain⟨g,c,rfl⟩:=lR d i;have f:L.length<=c:=by
   rcases d.2 with⟨q,_⟩ | ⟨p,cap,dx,q,_,_,l,_⟩
   ·cases q
   ·injection q with _ _ n
    subst n;exact l
  refine⟨g,c,rfl,λj x h=>?_,f,b⟩;have r:j<L.length:=(aS.1 h).1;rw[cO,d.cellAt j z,dE,h];rfl
 have lt7:k=0\/k=1\/k=2\/k=3\/k=4\/k=5\/k=6:=z;rcases lt7 with rfl|rfl|rfl|rfl|rfl|rfl|rfl
 ·have a:=oW Sc.l0 Sc.w0 Sc.Mj Sc.Mk aR aR m w hm;rw[Sc.Nv]at a;exact a.mono (fin _ aR)
 ·have a:=oW Sc.l1 Sc.w1 Sc.Mh Sc.Mi aR aR m w hm;rw[Sc.Nu]at a;exact a.mono (fin _ aR)
 ·have a:=oW Sc.l2 Sc.w2 Sc.Mf Sc.Mg aR aR m w hm;rw[Sc.Nt]at a;exact a.mono (fin _ aR)
 ·have a:=oW Sc.l3 Sc.w3 Sc.Md Sc.Me aR aR m w hm;rw[Sc.Ns]at a;exact a.mono (fin _ aR)
 ·have a:=oW Sc.l4 Sc.w4 Sc.Mb Sc.Mc aR aR m w hm;rw[Sc.Nr]at a;exact a.mono (fin _ aR)
 ·have a:=oW Sc.l5 Sc.w5 Sc.L8 Sc.Ma aR aR m w hm;rw[Sc.Nq]at a;exact a.mono (fin _ aR)
 ·have a:=oW Sc.l6 Sc.w6 Sc.L4 Sc.L7 aR aR m w hm;rw[Sc.Np]at a;exact a.mono (fin _ aR)
def PQ(k:Nat):∀x∈Lib.strCells (Sc.Fk k),x≠J bI 16:=by
 have key:∀(s:ByteArray),(∀b∈s.data.toList,b≠16)->∀x∈Lib.strCells s,x≠J bI 16:=λs c x a=>by
  unfold Lib.strCells at a;rw[eU]at a;obtain⟨b,d,rfl⟩:=a;intro e;injection e with _ e
  exact c b d (UInt8.toNat_inj.1 (by simpa using Int.ofNat.inj e))
 refine key _ ?_;unfold Sc.Fk;split<;>decide
def Fc(k:Nat):(Sc.Fk k).size<=10:=by unfold Sc.Fk;split<;>decide
def DQ:∀k,(Sc.fF k).length<=11*k
 |0=>aj _
 |k+1=>by
  have:=DQ k;have h2:=Fc k;have h3:(Sc.Fk k).data.toList.length=(Sc.Fk k).size:=rfl;unfold Sc.fF;simp only[cG,List.length_cons,List.length_nil];omega
def OS(k:Nat):0<(Sc.ws k).length:=by unfold Sc.ws;split<;>decide
def Py(k:Nat)(a:k<7):(Sc.lines.map jA).toArray[k]? = Z (.string (Sc.ln k)):=by
 have lt7:k=0\/k=1\/k=2\/k=3\/k=4\/k=5\/k=6:=z;rcases lt7 with rfl|rfl|rfl|rfl|rfl|rfl|rfl<;>rfl
abbrev said:ByteArray:=⟨#[111,107,10,111,107,10,111,107,10,111,107,10,111,107,10,111,107,32,53,10,111,107,32,48,58,53,58,49,48,48,10]⟩
def LG:(⟨(Sc.fF 7).toArray⟩:ByteArray)=said:=cC
def Lg(w:aw)(he:Env w):aF af 29 #[.string Sc.text] w λe w'=>e=av (aB #[.string said,J V 0])/\aC w w':=by
 obtain⟨m,hm⟩:=he.max;have G:=au he;have h:=λW (b:aC w W)=>Tryz.strings_Split Sc.text ⟨#[10]⟩ m W aR (aM b hm) aR;rw[Sc.Fy,Sc.Fz]at h;have s:=au h;clear he h hm;go_enter func29,ntmps29;go_upto_region 5 with fail;obtain⟨p,hp⟩:=dH (w.heap.size+1);obtain⟨b,H⟩:=dH w.heap.size;try simp only[World.size_alloc]
 rw[<-hp,<-H];have j:aC w ((w.alloc (.cells #[aq I,ae I 0 0] 178)).alloc (.cells #[aq I] 180)):=((ao _ w).alloc (aj _) _).alloc dt _;refine aW (λX=>aK X b 178 #[aq I,ae I 0 0]/\aK X p 180 #[aq I]/\aC w X) ⟨(aK.newAt _ _ _ _ H).alloc _,aK.newAt _ _ _ _ (by simp[hp]),j⟩ ?_;have d:p≠b/\w.heap.size<=p/\w.heap.size<=b:=z;clear j hp H;rintro X ⟨bB,bP,bX⟩;obtain⟨K,L,t⟩:=bU bB bP bX;clear bB bP bX;go_wp2_with (go_at_call 75;refine(s.O _ t.O).mono ?_;rintro e w2 ⟨rfl,rfl⟩);obtain⟨gl,hg⟩:=dH X.heap.size;rw[<-hg];refine aW (λdf=>KJ w p b gl df 0 (Sc.fF 0)) ?_ ?_
 ·have j:aC X (X.alloc (.cells (Sc.lines.map jA).toArray 9)):=(ao _ X).alloc (aj _) _;have h1:=K.O.lt;have h2:=L.O.lt;have h3:=t.O.size;refine⟨L.O.kept j,⟨I,ae I 0 0,d.2.2,K.O.kept j,.inl rfl,⟨⟨rfl,.inl ⟨rfl,rfl⟩⟩,λg cs q=>by cases q⟩⟩,aK.newAt _ _ _ _ hg,G.O.below (t.O.trans (j.mono h3)),t.O.trans (j.mono h3),⟨d.2.1,d.2.2,z⟩,d.1,z,z⟩
 clear s K L hg;rintro df hZ;have HZ:=au hZ;clear hZ t;go_loopw [15] (λi wr=>∃k:Nat,i=J V k/\k<=7/\KJ w p b gl wr k (Sc.fF k)) (λi _=>7-(intOf i).toNat);case atStart=>exact⟨0,rfl,z,HZ.O⟩
 case round =>
  clear HZ;obtain⟨k,rfl,hk,hR⟩:=hrel;by_cases l:k<7
  ·have eI:((k:Int)<7):=z;have a:wr.cell? ⟨gl,k,I⟩=Z (.string (Sc.ln k)):=(hR.lines.cell k).trans (Py k l);have u:(0:Int)<((Sc.ws k).length:Int):=by have:=OS k;omega
   have M:=au (No k l hR.env);have gX:=hR.fN.size;have mK:=DQ k;have SG:=Fc k;have HR:=au hR;obtain⟨ls,v⟩:=dH (Sc.ln k);rw[<-v]at a M;clear hR v;go_upto_region 10 with(go_at_call 76;refine M.O.mono ?_;rintro e w3 ⟨g,c,rfl,hW,N,b3⟩;have x:=au hW;have y:=au (HR.O.below b3);clear hW b3)
   clear a M HR u;have A:=au (y.O.line G.O l g 0 c x.O N);go_upto_region 11 with(first
    |(go_at_call 78;refine A.O.mono ?_;rintro e w4 ⟨rfl,f⟩;have P:=f.fN.size;have B:=au f;have C:=au (IP w.heap.size b (Sc.fF k) (Sc.Fk k) w4 f.OR (PQ k) z P);clear f)
    |(go_at_call 77;refine C.O.mono ?_;rintro e w5 ⟨rfl,D⟩;have n:=B.O.wrote G.O D;have Q:=n.fN.size;have E:=au n;clear D n))
   have o:=Fl w.heap.size b (Sc.fF k++(Sc.Fk k).data.toList) 10 w5 E.O.OR aR (by
    have h3:(Sc.Fk k).data.toList.length=(Sc.Fk k).size:=rfl
    rw[cG];omega) Q
   rw[show(((10:UInt8).toNat:Nat):Int)=10 from rfl]at o;have R:=au o;clear o A C B y x;go_wp2_with (go_at_call 79;refine R.O.mono ?_;rintro e w6 ⟨rfl,F⟩;have S:=au (E.O.wrote G.O F);clear F);go_roundw;case rel=>exact⟨k+1,by go_num,z,S.O⟩
   case measure=>simp[intOf];omega
  ·have T:k=7:=z;subst T;have r:=Og w.heap.size b (Sc.fF 7) wr hR.OR hR.fN.size;rw[LG]at r;obtain⟨U,Y⟩:=bu r hR.fN;clear r hR;go_wp2_with (go_at_call 80;refine U.O.mono ?_;rintro e w3 ⟨rfl,b3⟩;have aI:=au b3;clear b3);refine bodyPost_ret (results_tmp2 rfl _ _ _) rfl ?_;exact⟨rfl,Y.O.trans aI.O⟩
def BO(w:aw)(he:Env w):aF af 8 #[] w λe w'=>e=av (ai true)/\aC w w':=by
 have hr:=Lg w he;have a:=au hr;clear hr he;go_enter func8,ntmps8;go_wp2_with (go_at_call 29;refine a.O.mono ?_;rintro e w2 ⟨rfl,b2⟩;have b:=au b2;clear b2);go_ret;exact⟨rfl,b.O⟩
end
end Go.Proofs.YtkfblammcilfhaaGreatDoor
