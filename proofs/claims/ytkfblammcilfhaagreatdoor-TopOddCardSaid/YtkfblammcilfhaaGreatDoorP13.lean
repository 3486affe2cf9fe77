import Derived.Lib.Split
import Derived.Deep.MidRow
import Derived.Test.YtkfblammcilfhaaGreatDoorP9
import Derived.Test.YtkfblammcilfhaaGreatDoorP10
set_option linter.all false
set_option maxRecDepth 100000
set_option maxHeartbeats 100000000
open Go.ChangeShapes Go.WideShapes Go.ChangeAt Go.RowKit Go.Proofs.Tryz
open Go renaming World->aw,Calls->aF,info_parts->cY,bodyPost_ret->ax,wpList_append_own->dM,wpAnyH_ready->cH,bodyPost_end->dq,results_none->bT
open Nat renaming le_trans->aP,le_refl->aj,zero_le->gG,lt_irrefl->jy
open Go.Proofs.Tryz renaming prog->af
open Go.RowKit.Below renaming refl->ao
open Go.Lib renaming splitB->lQ,countB->gz,join->mb
open Go.Value renaming string->jA,int->J,slice->ae,bool->ai,pointer->aq,tuple->aB,agg->cg
open List renaming take_succ_eq_append_getElem->dK,take_length->cT
open Go.IntKind renaming u32->ar,bits->gM,signed->fR,u16->aN,i64->V,u8->bI
open Go.Act renaming put->aA
open Go.AllReadyH renaming cons->bH,nil->cy
open Go.Ending renaming returned->av
open Or renaming inl->aJ,inr->aZ
open Option renaming none->I,some->Z
namespace Go.Proofs.YtkfblammcilfhaaGreatDoor
def ca.Jt{w w':aw}{B:LB}{aG N M':Nat}{aT:Int}{l:M.dP}{a:Value}{xs:List (Nat×M.cQ)}(h:ca w B aG aT l N)(f:Fr (λi=>i=B.g\/B.ov.ownBlock=Z i) w w')(b:aK w' B.g 133 (nP { B with ov:=a } aT l))
  (n:∃q,w'.ownsRow 0 80 2 a xs.length q.flatten/\Fit (mG w') xs q) (o:∀j,a.ownBlock=Z j->B.ov.ownBlock=Z j\/w.heap.size<=j) (p:xs.length<=M'):ca w' { B with ov:=a } aG aT { l with fF:=xs } M':=by
 obtain⟨s,r1,f1⟩:=h.cK;obtain⟨v,r2,f2⟩:=h.bF;obtain⟨y,d,f3⟩:=h.ready;obtain⟨C,r4,f4⟩:=h.fF;obtain⟨_,_,b1,b2⟩:=r1.cw;obtain⟨_,_,c1,c2⟩:=r2.cw;obtain⟨_,_,a1,a2⟩:=d.cw;have m:=h.cw;have no:∀{i:Nat} {t:TypeId} {cs:Array Value},aK w i t cs->t≠133->t≠80->¬(i=B.g\/B.ov.ownBlock=Z i):=λb n1 A=>by
  rintro(e|e)
  ·exact aK.jf b m n1 e
  ·exact Out.DX h b A e
 refine⟨b,⟨s,r1.dW f.u (no b1 aR aR) (no b2 aR aR),f1.mono λx c k=>k.rows f.r⟩,⟨v,r2.dW f.u (no c1 aR aR) (no c2 aR aR),f2.mono λx c k=>k.rows f.r⟩,⟨y,d.dW f.u (no a1 aR aR) ?_,f3.mono λx c k=>k.rows f.r⟩,n,?_,⟨h.et.src,h.et.dQ,h.et.aU,h.et.row,h.et.less,h.et.aT⟩,p⟩
 ·rintro(e|e)
  ·exact aK.jf a2 m aR e
  ·exact h.ne e
 ·intro e;rcases o _ e with q|q
  ·exact h.ne q
  ·have h3:=a2.lt;have D:w.heap.size<=B.p3:=q;omega
def Ol{X w5:aw}{n:Nat}{v:Value}{xs:List Value}{o:Obj}(own:X.ownsRow 0 80 2 v n xs)(g:(X.drew.alloc o).grownBy w5 v.ownBlock):Fr (λi=>v.ownBlock=Z i) X w5:=
 ((Fr.refl _ X).drew.alloc o).trans (Fr.nY (eT g) (ib ((show X.drew.ownsRow 0 80 2 v n xs from own).alloc o)) aR aR)
def Oj{X w5:aw}{n:Nat}{v:Value}{xs:List Value}{o:Obj}(own:X.ownsRow 0 80 2 v n xs)(g:((X.alloc o).drew).grownBy w5 v.ownBlock):Fr (λi=>v.ownBlock=Z i) X w5:=
 ((Fr.refl _ X).alloc o).drew.trans (Fr.nY (eT g) (ib (show(X.alloc o).drew.ownsRow 0 80 2 v n xs from own.alloc o)) aR aR)
def M8{X:aw}{v v5:Value}{o:Obj}(n5:∀j,v5.ownBlock=Z j->v.ownBlock=Z j\/(X.drew.alloc o).heap.size<=j):∀j,v5.ownBlock=Z j->v.ownBlock=Z j\/X.heap.size<=j:=λj a=>(n5 j a).imp id (λq=>aP ((Fr.refl cr X).drew.alloc o).size q)
def M7{X:aw}{v v5:Value}{o:Obj}(n5:∀j,v5.ownBlock=Z j->v.ownBlock=Z j\/(X.alloc o).drew.heap.size<=j):∀j,v5.ownBlock=Z j->v.ownBlock=Z j\/X.heap.size<=j:=λj a=>(n5 j a).imp id (λq=>aP ((Fr.refl cr X).alloc o).drew.size q)
def zH(B:LB)(aG:Nat)(aT:Int)(l:M.dP)(N:Nat)(w:aw)(h:ca w B aG aT l N)(x:Nat×M.cQ)(r:List (Nat×M.cQ))(hc:l.ready=x::r)(hg:l.eG=false)(hN:N<=1000000) :
  aF af 113 #[aq (Z ⟨B.g,0,I⟩),ai true] w λrr w'=>∃L:Value,rr=av (aB #[J V x.1,J V 1,ai true])/\(∀j,L.ownBlock=Z j->B.ov.ownBlock=Z j\/w.heap.size<=j) /\
   ca w' { B with ov:=L } aG aT { l with ready:=r,fF:=l.fF++[x],row:=0 } (N+1)/\Fr B.own w w':=by
 obtain⟨i0,t,SK,SL,SM⟩:=cY wu;obtain⟨HI,Tk,Tl,Tm⟩:=cA t SK SL SM;have C:=xu B aG aT l N w h;have SN:decide (0<l.ready.length)=true:=by rw[hc];simp
 rw[SN]at C;have eI:=λW=>Ix aT l.row false true W h.et.row.1 (by have:=h.et.row;have:=h.et.aT;omega);simp only[wv,Bool.false_eq_true,if_false,if_true]at eI;have hlen:=h.small;have H:=au h;have U:=au C;have Tn:=au eI;have HC:=au hc;have HG:=au hg;clear h C eI hc SN t SK SL SM hg;go_enter func113,ntmps113;go_upto_region 4 with(go_big_may;first
  |(go_at_call 111;refine U.O.mono ?_;rintro e w1 ⟨rfl,b1⟩;have L1:=H.O.below b1;have c1:=L1.cw.cell 3;simp at c1;have SO:pY w1 B.g3 B.p3 aG (x::r):=(by have s:=L1.qT;rw[HC.O]at s;exact s);have SP:=au SO;have SQ:=au L1;have gX:=au b1;clear L1 b1 SO)
  |(go_at_call 164;refine(Bh SP.O).mono ?_;rintro e w2 ⟨m,rfl,hB,SU,SV,hI,b2⟩;have mK:=au (SQ.O.below b2);have P:=au (gX.O.trans (b2.mono gX.O.size));have o:=au hB;have SW:=au (And.intro SU SV);clear hB SU SV hI b2))
 obtain⟨r7,h7⟩:=dH w2.heap.size;rw[<-h7];refine aW (λX=>aK X r7 80 #[J V x.1,ae m.a m.n m.c]/\ca X B aG aT l N/\m.B X x.2/\aC w X) ⟨aK.newAt _ _ _ _ h7,mK.O.below ((ao _ _).alloc (aj _) _),o.O.below ((ao _ _).alloc (aj _) _),P.O.alloc P.O.size _⟩ ?_;have Tu:w.heap.size<=r7:=by have:=P.O.size;omega
 have SX:∀i,B.own i->i≠r7:=λi t=>by have:=mK.O.lt i t;omega
 have D:=au SX;clear h7 mK P o SP SQ gX c1 SX;rintro X ⟨b7,b,hB,al⟩;have c3:=b.cw.cell 3;simp at c3;have hI:pY X B.g3 B.p3 aG (x::r):=by have s:=b.qT;rw[HC.O]at s;exact s
 obtain⟨p,E,o,HA,SY⟩:=gY b7 b hB al hI;clear b7 b hB al hI H U;go_upto_region 7 with(go_big_may;go_at_call 165;refine(LD SY.O).mono ?_;rintro e w3 ⟨Tv,rfl,_,_,_,SZ,f⟩;have L3:=E.O.tP f SZ;have Ta:=au L3;have Q:=au f;clear L3 f SZ)
 have N7:¬jK B.g3 B.p3 r7:=by
  rintro(q|q)
  ·exact D.O _ (ca.DN B _ (aJ rfl)) q.symm
  ·exact D.O _ (ca.DN B _ (aZ rfl)) q.symm
 refine aW (λY=>aK Y r7 80 #[J V x.1,ae m.a m.n m.c]/\ca Y B aG aT { l with ready:=r } N/\m.B Y x.2/\Fr B.own w Y) ⟨p.O.dW Q.O.u N7,Ta.O,o.O.rows (aJ rfl) Q.O.r,(Fr.bn HA.O).step Q.O (λi q=>aJ (ca.DN B i q))⟩ ?_;clear p E o HA SY Ta Q N7 c3 X;rintro X ⟨b7,b,hB,hF⟩;obtain⟨q4,own,fit⟩:=b.fF;have own:X.ownsRow 0 80 2 B.ov l.fF.length q4.flatten:=own;have fit:Fit (mG X) l.fF q4:=fit;obtain⟨A,c,R⟩:=bA own;have c0:=b.cw.cell 0;have f0:=b.cw.frozen 0;have k0:=b7.cell 0;have k1:=b7.cell 1;simp at c0 k0 k1;have aI:∀i,B.ov.ownBlock=Z i->i≠B.g:=λi t e=>Out.DX b b.cw aR (by rw[t,e]);have df:∀i,B.ov.ownBlock=Z i->i≠r7:=λi t=>D.O i (aZ (aZ (aZ (aZ t))));have Tb:r7≠B.g:=aK.jf b7 b.cw aR;have Tc:=b.cw.lt;have Td:=b7.lt;obtain⟨p,E,o,HF,HO,Te,SG,Tf⟩:=qh b7 b hB hF own fit aI df;clear b7 b hB hF own fit aI df;rw[R]at c0;go_cut [] (λwc=>∃L:Value,(∀j,L.ownBlock=Z j->B.ov.ownBlock=Z j\/w.heap.size<=j)/\ca wc { B with ov:=L } aG aT { l with ready:=r,fF:=l.fF++[x] } (N+1)/\aK wc r7 80 #[J V x.1,ae m.a m.n m.c]/\Fr B.own w wc);case first =>
  go_region_law (refine lT _ rfl (.tmp 35) (.tmp 37) 63 rfl 0 80 i0 vh 2 32 underlying63 HI.O Tk.O Tl.O Tm.O rfl aR (ae A l.fF.length c) l.fF.length q4.flatten rfl (by rw[<-R];first|exact HO.O.alloc _|exact(show X.drew.ownsRow 0 80 2 B.ov l.fF.length q4.flatten from HO.O).alloc _) ⟨X.heap.size,0,I⟩ 1 1 (Jw x.1 m) rfl rfl (by first|exact fB X 80 _|exact fB X.drew 80 _) tk ui z (gG _) ?_;intro v5 w5 G g5 n5;rw[<-R]at g5 n5;have f5:Fr (λi=>B.ov.ownBlock=Z i) X w5:=(by first|exact Ol HO.O g5|exact Oj HO.O g5);have m5:∀j,v5.ownBlock=Z j->B.ov.ownBlock=Z j\/X.heap.size<=j:=(by first|exact M8 n5|exact M7 n5);have BG:=E.O.cw.dW f5.u (λq=>SG.O _ q rfl);have e0:=BG.cell 0;have p0:=BG.frozen 0;simp at e0;have To:=au f5;have SH:=au m5;have Tp:=au G;have SI:=au BG;obtain⟨A8,c8,rfl⟩:=bA G;clear f5 m5 BG g5 n5 G);all_goals
   go_wp2_with fail;go_meet;have B6:aK (w5.setCell ⟨B.g,0,I⟩ (ae A8 (l.fF.length+1) c8)) B.g 133 (nP { B with ov:=ae A8 (l.fF.length+1) c8 } aT { l with ready:=r }):=by simpa using SI.O.bC 0 (ae A8 (l.fF.length+1) c8)
   have F6:Fr (λi=>i=B.g\/B.ov.ownBlock=Z i) X (w5.setCell ⟨B.g,0,I⟩ (ae A8 (l.fF.length+1) c8)):=(To.O.mono λi _ q=>.inr q).setCell SI.O (.inl (.inl rfl)) aR aR 0 _;have fs:Fr (One B.g) w5 (w5.setCell ⟨B.g,0,I⟩ (ae A8 (l.fF.length+1) c8)):=(Fr.refl (One B.g) w5).setCell SI.O (.inl rfl) aR aR 0 _;have O6:(w5.setCell ⟨B.g,0,I⟩ (ae A8 (l.fF.length+1) c8)).ownsRow 0 80 2 (ae A8 (l.fF.length+1) c8) (l.fF.length+1) (q4.flatten++Jw x.1 m):=
    du Tp.O fs.u (λi t q=>by
     rw[show i=B.g from q]at t
     rcases SH.O _ t with s|s
     ·exact SG.O _ s rfl
     ·omega)
   refine⟨ae A8 (l.fF.length+1) c8,λj hj=>?_,E.O.Jt F6 B6 ⟨q4++[Jw x.1 m],?_,?_⟩ SH.O ?_,p.O.dW F6.u ?_,HF.O.step F6 ?_⟩
   ·rcases SH.O j hj with s|s
    ·exact aJ s
    ·exact aZ (aP HF.O.size s)
   ·have s:=O6;simpa using s
   ·exact(Te.O.mono λy d k=>k.rows F6.r).snoc ⟨m,rfl,o.O.rows (aJ rfl) F6.r,SW.O.1,SW.O.2⟩
   ·simp;omega
   ·rintro(q|q)
    ·exact Tb q
    ·exact Tf.O _ q rfl
   ·rintro i (q|q)
    ·exact aJ (aJ q)
    ·exact aJ (aZ (aZ (aZ (aZ q))))
 case rest =>
  obtain⟨L,hv,b,b7,hF⟩:=hcut;clear c0 f0 k0 k1 p E HF HO Te SG Tf Tb Tc Td o R;have k0:=b7.cell 0;have Tg:=b.cw.cell 13;have Th:=b.cw.cell 14;have SJ:=b.cw.cell 15;have Ti:=HG.O;simp at k0 Tg Th SJ;rw[Ti]at SJ;clear Ti;obtain⟨p,E,HF,HV⟩:=cA b7 b hF hv;clear b7 b hF hv;go_upto_region 10 with(go_big_may;go_at_call 166;refine(Tn.O wc).mono ?_;rintro e w8 ⟨rfl,b8⟩)
  obtain⟨Tj,xx⟩:=dH w8.heap.size;rw[<-xx];have T:aC wc (w8.alloc (.cells #[J V aT,J V 0,ai false] 131)):=b8.alloc b8.size _;refine aW (λY=>aK Y Tj 131 #[J V aT,J V 0,ai false]/\aK Y r7 80 #[J V x.1,ae m.a m.n m.c]/\ca Y { B with ov:=L } aG aT { l with ready:=r,fF:=l.fF++[x] } (N+1)/\Fr B.own w Y) ⟨aK.newAt _ _ _ _ xx,p.O.kept T,E.O.below T,HF.O.then T⟩ ?_;clear xx b8 T p E HF k0 Tg Th SJ wc;rintro Y ⟨K,b7,b,hF⟩;have k0:=b7.cell 0;have j0:=K.cell 0;have j1:=K.cell 1;have j2:=K.cell 2;have Tq:=b.cw.cell 13;have Tr:=b.cw.cell 14;have Ts:=b.cw.cell 15;have f13:=b.cw.frozen 13;have f14:=b.cw.frozen 14;have f15:=b.cw.frozen 15;simp at k0 j0 j1 j2 Tq Tr Ts;have n7:r7≠B.g:=aK.jf b7 b.cw aR;have Tw:Tj≠B.g:=aK.jf K b.cw aR;have S:=Fr.im (F:=One B.g) aR aR [J V aT,J V 0,ai false] 13 b.cw (aJ rfl) (Fr.refl (One B.g) Y);have Tt:=aK.im [J V aT,J V 0,ai false] 13 b.cw;have e1:ph (nP { B with ov:=L } aT { l with ready:=r,fF:=l.fF++[x] }) 13 [J V aT,J V 0,ai false]=nP { B with ov:=L } aT { l with ready:=r,fF:=l.fF++[x],row:=0,eG:=false }:=rfl;rw[e1]at Tt;have L':=b.cells S Tt rfl rfl rfl rfl ⟨b.et.src,b.et.dQ,b.et.aU,⟨Int.le_refl 0,by have:=b.et.aT;show(0:Int)<=aT;omega⟩,λ_=>by have:=b.et.aT;show(0:Int)<aT;omega,b.et.aT⟩;have F':=hF.step S (λi q=>aJ (aJ q));simp only[im,Nat.reduceAdd]at L' F';obtain⟨E,HF⟩:=bu L' F';clear S Tt e1 L' F' b hF K b7;go_wp2_with fail;refine ax (v:=aB #[J V x.1,J V 1,ai true]) (by simp[results,results113,go_sem]) rfl ⟨rfl,L,HV.O,?_,HF.O⟩;have s:=E.O;have e:({ l with ready:=r,fF:=l.fF++[x],row:=0 }:M.dP)={ l with ready:=r,fF:=l.fF++[x],row:=0,eG:=false }:=by simp[HG.O]
  rw[e];exact s
section
section
variable (B:LB) (aG:Nat) (aT:Int) (l:M.dP) (N:Nat) (w:aw) (h:ca w B aG aT l N)
include h
theorem JN:aF af 45 #[aq (Z ⟨B.g,0,I⟩)] w λe w'=>e=av (cg #[J V l.cK.length,J V l.bF.length,J V l.ready.length])/\aC w w':=by
 obtain⟨d,r1,f1⟩:=h.cK;obtain⟨f,r2,f2⟩:=h.bF;obtain⟨i,j,f3⟩:=h.ready;rw[<-f1.length,<-f2.length,<-f3.length];have m:=h.cw;clear f1 f2 f3 h;go_enter func45,ntmps45;go_upto_region 1 with fail;obtain⟨b,h0⟩:=dH w.heap.size;rw[<-h0];refine aW (λW=>aK W b 69 #[J V 0,J V 0,J V 0]/\aK W B.g 133 (nP B aT l)/\km W B.g1 B.p1 aG d/\iA W B.g2 B.p2 aG f/\nU W B.g3 B.p3 aG i/\aC w W) ⟨aK.newAt _ _ _ _ h0,m.alloc _,r1.alloc _,r2.alloc _,j.alloc _,(ao _ w).alloc (aj _) _⟩ ?_;rintro W ⟨c,k,r1,r2,j,n⟩;have hr:w.heap.size<=b:=z;clear h0 m;have c1:=k.cell 1;have c2:=k.cell 2;have c3:=k.cell 3;have f0:=c.frozen 0;have f1:=c.frozen 1;have f2:=c.frozen 2;have s:=c.cell 0;have t:=c.cell 1;have u:=c.cell 2;simp at c1 c2 c3 s t u;have R:=((c.bC 0 (J V d.length)).bC 1 (J V f.length)).bC 2 (J V i.length);have s0:=R.cell 0;have s1:=R.cell 1;have s2:=R.cell 2;simp at s0 s1 s2;have o:=au n;have H1:=au r1;have q:=au r2;have r:=au j;clear c k n R r1 r2 j;go_region_with (first
  |(refine(Eh B.g1 B.p1 aG d _ (by first|exact H1.O|exact H1.O.drew)).mono ?_;rintro e w1 ⟨rfl,hw⟩;have a:=hw.symm;subst a)
  |(refine(zV B.g2 B.p2 aG f _ (by first|exact q.O|exact q.O.drew)).mono ?_;rintro e w1 ⟨rfl,hw⟩;have a:=hw.symm;subst a)
  |(refine(Iv B.g3 B.p3 aG i _ (by first|exact r.O|exact r.O.drew)).mono ?_;rintro e w1 ⟨rfl,hw⟩;have a:=hw.symm;subst a))
 all_goals
  go_wp2_with fail;refine ax (v:=cg #[J V d.length,J V f.length,J V i.length]) (by simp[results,results45,go_sem,s0,s1,s2]) rfl ⟨rfl,?_⟩;first|exact cd (((o.O.setCell (p:=⟨b,0,I⟩) hr _).setCell (p:=⟨b,1,I⟩) hr _).setCell (p:=⟨b,2,I⟩) hr _) 1|exact((o.O.setCell (p:=⟨b,0,I⟩) hr _).setCell (p:=⟨b,1,I⟩) hr _).setCell (p:=⟨b,2,I⟩) hr _
end
end
namespace M
def PO(R:Room)(o:bN):Bool:=match R.az o with | none=>false | some s=>(iK R.dA.eA R.dA.ek s.dJ (R.wanted o) R.cJ).2
def PN(R:Room)(o:bN):Request:=⟨o,R.cJ,tU ((R.aQ o).getD 0)⟩
def asked(l:List bN)(R:Room):Room:={ R with az:=λo=>if o∈l then(R.az o).map λs=>{ s with dJ:=(iK R.dA.eA R.dA.ek s.dJ (R.wanted o) R.cJ).1 } else R.az o,cj:=R.cj++(l.filter (PO R)).map (PN R) }
structure AK(R R':Room):Prop where
 Se:R'.cj=R.cj
 cJ:R'.cJ=R.cJ
 dA:R'.dA=R.dA
 dJ:∀o,(R'.az o).map eu.dJ=(R.az o).map eu.dJ
def AK.refl(R:Room):AK R R:=⟨rfl,rfl,rfl,λ_=>rfl⟩
def AK.trans{a b c:Room}(h:AK a b)(k:AK b c):AK a c:=⟨k.Se.trans h.Se,k.cJ.trans h.cJ,k.dA.trans h.dA,λo=>(k.dJ o).trans (h.dJ o)⟩
def AK.foldl{α:Type}(f:Room->α->Room)(b:∀r a,AK r (f r a)):∀(l:List α) (r:Room),AK r (l.foldl f r)
 |[],r=>AK.refl r
 |a::l,r=>(b r a).trans (AK.foldl f b l (f r a))
def AK.fO(r:Room){o:bN}{s s':eu}(h:r.az o=Z s)(e:s'.dJ=s.dJ):AK r { r with az:=set r.az o (Z s') }:=
 ⟨rfl,rfl,rfl,λt=>by
  show(set r.az o (Z s') t).map eu.dJ=_
  unfold set;split
  ·rename_i q;subst q;rw[h];simp[e]
  ·rfl⟩
def AK.bR(r:Room)(s:Int)(id:Nat)(f:Int):AK r (r.bR s id f):=by
 unfold Room.bR;split
 ·exact⟨rfl,rfl,rfl,λ_=>rfl⟩
 ·exact AK.refl r
def AK.fG(r:Room)(o:bN)(f:eu->eu)(a:∀s,(f s).dJ=s.dJ):AK r (r.fG o f):=by
 unfold Room.fG;split
 ·rename_i s e;exact AK.fO r e (a s)
 ·exact AK.refl r
def AK.ask(r:Room)(x:Int):AK r (r.ask x):=by
 unfold Room.ask;refine AK.foldl _ (λr s=>?_) _ r;split
 ·split
  ·exact AK.fG _ _ _ (λ_=>rfl)
  ·exact AK.refl _
 ·exact AK.refl _
def AK.fE(r:Room)(id:Nat)(l:List Int)(e:Int):AK r (M.fE r id l e):=by
 unfold M.fE;split
 ·exact AK.foldl _ (λr s=>AK.bR r s id 3) _ _
 ·split
  ·exact AK.foldl _ (λr s=>AK.bR r s id 2) _ _
  ·split
   ·exact AK.foldl _ (λr s=>AK.bR r s id 6) _ _
   ·exact AK.refl _
def AK.ka(r:Room)(o:bN)(s:eu)(p:cR)(n:Int)(b:mf)(l:List Int)(e:r.az o=Z s):AK r (M.ka r o s p n b l):=⟨rfl,rfl,rfl,(AK.fO r e (s':={ s with bQ:=b,any:=true,dv:=if !s.any||decide (s.dv<n) then n else s.dv,jc:=s.jc && !lx p.cF }) rfl).dJ⟩
def AK.buf(r:Room){o:bN}{s:eu}(h:r.az o=Z s)(b:mf):AK r { r with az:=set r.az o (Z { s with bQ:=b }) }:=AK.fO r h rfl
def AK.je(r:Room)(o:bN)(p:cR):AK r (r.je o p):=by
 rw[mS];split
 ·exact AK.refl r
 ·rename_i s e;refine AK.trans (AK.ka r o s p (if s.any then jL s.dv p.dQ else nE p.dQ) (s.bQ.push r.dA.eJ (if s.any then jL s.dv p.dQ else nE p.dQ) r.cJ r.aO.length).1 (r.ik o.1) e) ?_;exact AK.fE _ _ _ _
def AK.read(r:Room):AK r r.read:=by
 unfold Room.read;split
 ·exact AK.refl r
 ·rename_i b q e;have k:AK r { r with dm:=q }:=⟨rfl,rfl,rfl,λ_=>rfl⟩;have a:∀f,AK r (Room.count { r with dm:=q } f):=λf=>⟨rfl,rfl,rfl,λ_=>rfl⟩;simp only;split
  ·split
   ·exact a _
   ·exact(a _).trans (AK.foldl _ AK.ask _ _)
  ·split
   ·exact a _
   ·split
    ·exact a _
    ·exact k.trans (AK.je _ _ _)
def AK.pick(r:Room)(w:eK)(a:Bool):AK r (r.pick w a).1:=by
 have fo:∀(s:Int) (v:Option dP),AK r { r with aD:=set r.aD s v }:=λs v=>⟨rfl,rfl,rfl,λ_=>rfl⟩;unfold Room.pick;split
 ·exact AK.refl r
 ·simp only;split
  ·rw[rf];have k:AK r (jd r w):=by
    unfold jd;split
    ·exact⟨rfl,rfl,rfl,λ_=>rfl⟩
    ·split
     ·refine AK.foldl _ (λr o=>?_) _ _;unfold Room.cP;split
      ·exact AK.refl r
      ·rename_i s e;exact(AK.buf r e _).trans (AK.foldl _ (λr id=>AK.foldl _ (λr s=>AK.bR r s id 8) _ r) _ _)
     ·split
      ·exact AK.refl r
      ·split
       ·exact(fo _ _).trans (AK.foldl _ (λr id=>AK.bR r w.2 id 8) _ _)
       ·split
        ·exact(fo _ _).trans (AK.foldl _ (λr id=>AK.bR r w.2 id 8) _ _)
        ·exact(fo _ _).trans (AK.foldl _ (λr id=>AK.bR r w.2 id 8) _ _)
   refine k.trans ?_;unfold back;split
   ·exact⟨rfl,rfl,rfl,λ_=>rfl⟩
   ·exact AK.refl _
  ·split
   ·exact AK.read r
   ·split
    ·unfold Room.order;cases e:r.ready with
     |none=>exact AK.refl r
     |some o =>
      cases b:r.az o with
      |none=>simp only[b];exact AK.refl r
      |some s =>
       simp only[b];cases hh:s.bQ.bD with
       |nil=>exact AK.refl r
       |cons h t =>
        refine(AK.buf r b s.bQ.least).trans (AK.foldl _ (λr s=>?_) _ _);unfold Room.iW;split
        ·split
         ·exact AK.refl r
         ·simp only;have l1:∀v,AK r { r with aD:=set r.aD s v }:=λv=>⟨rfl,rfl,rfl,λ_=>rfl⟩;split
          ·exact(l1 _).trans (AK.bR _ _ _ _)
          ·exact l1 _
        ·exact AK.refl r
    ·split
     ·unfold Room.gq;split
      ·exact AK.refl r
      ·simp only;split
       ·exact(fo _ _).trans (AK.bR _ _ _ _)
       ·exact fo _ _
     ·split
      ·unfold Room.fD;split
       ·exact AK.refl r
       ·simp only;split
        ·exact(fo _ _).trans (AK.bR _ _ _ _)
        ·exact fo _ _
      ·rw[kh];split
       ·exact AK.refl r
       ·have d:∀c id f,AK r (kg r w.2 c id f):=λc id f=>by
         unfold kg;split
         ·exact(fo _ _).trans (AK.bR _ _ _ _)
         ·exact fo _ _
        rename_i l el;refine(d (l.write r.dA.aT a).1 (l.write r.dA.aT a).2.1 (l.write r.dA.aT a).2.2).trans ?_;unfold nA;split
        ·exact⟨rfl,rfl,rfl,λ_=>rfl⟩
        ·exact AK.refl _
structure Ia(R:Room)(fH:bN->Option Int)(run:bN->Int):Prop where
 at_:∀o,fH o=match R.az o with | none=>I | some s=>if s.dJ.any then Z s.dJ.fH else I
 le:∀o s,R.az o=Z s->s.dJ.any=true->s.dJ.fH<=R.cJ
 run:∀o,0<=run o/\(0<run o->∃s,R.az o=Z s/\s.dJ.any=true/\run o<=R.cJ-s.dJ.fH)
def Ia.tc{R R':Room}{fH:bN->Option Int}{run:bN->Int}(h:Ia R fH run)(k:AK R R'):Ia R' fH run:=by
 have key:∀o s,R'.az o=Z s->∃s0,R.az o=Z s0/\s0.dJ=s.dJ:=λo s a=>by
  have:=k.dJ o;rw[a]at this;cases h0:R.az o with
  |none=>rw[h0]at this;cases this
  |some s0=>rw[h0]at this;simp at this;exact⟨s0,rfl,this.symm⟩
 have c:∀o,R'.az o=I->R.az o=I:=λo a=>by
  have:=k.dJ o;rw[a]at this;cases h0:R.az o with
  |none=>rfl
  |some s0=>rw[h0]at this;cases this
 refine⟨λo=>?_,λo s a e=>?_,λo=>⟨(h.run o).1,λq=>?_⟩⟩
 ·rw[h.at_ o];cases a:R'.az o with
  |none=>rw[c o a]
  |some s=>obtain⟨s0,d,b⟩:=key o s a;rw[d];simp only[b]
 ·obtain⟨s0,d,b⟩:=key o s a;rw[k.cJ,<-b];exact h.le o s0 d (by rw[b];exact e)
 ·obtain⟨s0,d,b,f⟩:=(h.run o).2 q;have:=k.dJ o;rw[d]at this;cases a:R'.az o with
  |none=>rw[a]at this;cases this
  |some s=>rw[a]at this;simp at this;exact⟨s,rfl,by rw[this];exact b,by rw[k.cJ,this];exact f⟩
end M
namespace M
def kA(R:Room)(s:Int):List (Nat×cQ):=match R.aD s with | some l=>l.fF | none=>[]
def MP(R R':Room)(x:Act)(a:Bool):Bool:=a&&(decide (x.nv=1)&&fY x.w.2)&&decide ((kA R x.w.2).length<(kA R' x.w.2).length)
structure Qs where
 rw:Int->Nat
 qs:Int->List Nat
def Qs.wrote(R R':Room)(x:Act)(a:Bool)(q:Qs):Qs:=if MP R R' x a=true then⟨q.rw,set q.qs x.w.2 (q.qs x.w.2).tail⟩ else q
def Qs.lu(x:Act)(e:Int)(q:Qs):Qs:=if x.nv=4/\e=0 then⟨set q.rw x.sub 0,set q.qs x.sub []⟩ else q
structure QJ(R:Room)(G:Int->ij)(q:Qs):Prop where
 I:∀s,R.aD s=I->q.qs s=[]
 len:∀s l,R.aD s=Z l->(q.qs s).length=l.ready.length
 open_:R.cN=false->∀s l,R.aD s=Z l->q.rw s=(G s).H.length/\q.qs s=(G s).Q
def QJ.start(c:Ou)(G:Int->ij):QJ (.new c) G ⟨λ_=>0,λ_=>[]⟩:=⟨λs _=>rfl,λs l h=>(by cases h),λ_ s l h=>(by cases h)⟩
end M
abbrev vD:ByteArray:=⟨#[32]⟩
def full(x:ByteArray):Bool:=!x.toList.isEmpty
def Mw:(af.info? 9).map (λi=>(i.zero,i.size,i.bytes))=Z (Z (.string ⟨#[]⟩),1,16):=cC
def Bg{w w':aw}{base:Nat}{e:TypeId}{size n:Nat}{v:Value}{xs:List Value}(h:w.ownsRow base e size v n xs)(b:aC w w'):w'.ownsRow base e size v n xs:=by
 rcases h.2 with⟨rfl,rfl⟩ | ⟨g,cap,dx,rfl,a,hg,hr⟩
 ·exact⟨h.1,aJ ⟨rfl,rfl⟩⟩
 ·exact⟨h.1,aZ ⟨g,cap,dx,rfl,a,aK.kept (t:=e) hg b,hr⟩⟩
def Jp{w:aw}{b a:Nat}{e:TypeId}{size n:Nat}{v:Value}{xs:List Value}(h:w.ownsRow b e size v n xs)(k:a<=b):w.ownsRow a e size v n xs:=
 ⟨h.1,h.2.imp id λ⟨g,cap,dx,c,d,f,i⟩=>⟨g,cap,dx,c,aP k d,f,i⟩⟩
def oW(s:ByteArray)(L:List ByteArray)(T:lQ vD 0 (gz s vD) s=L)(U:gz s vD+1=L.length)(hl:L.length<=1000)(hs:s.size<4294967281)(m:Int)(w:aw)(hm:w.cell? ⟨0,0,I⟩=Z (J V m)) :
  aF af 76 #[.string s] w λe w'=>∃v,e=av v/\w'.ownsRow w.heap.size 9 1 v (L.filter full).length ((L.filter full).map jA)/\aC w w':=by
 obtain⟨i0,W,r,t,u⟩:=cY Mw;obtain⟨HI,F,G,H⟩:=cA W r t u;have f:=Tryz.strings_Split s vD m w hs hm aR;rw[T,U]at f;have y:=au f;clear W r t u f T U hm;go_enter func76,ntmps76;go_wp2_with (go_at_call 75;refine y.O.mono ?_;rintro e w2 ⟨rfl,rfl⟩);obtain⟨g,hg⟩:=dH w.heap.size;rw[<-hg];refine aW (λX=>aK X g 9 (L.map jA).toArray/\aC w X) ⟨aK.newAt _ _ _ _ hg,(ao _ w).alloc (aj _) _⟩ ?_;have aI:w.heap.size<=g:=z;clear hg y;rintro X ⟨Y,K⟩;obtain⟨M,N⟩:=bu Y K;have hX:=K.size;clear Y K;go_loopw [3,9] (λv i wr=>∃k:Nat,k<=L.length/\i=J V k/\wr.ownsRow X.heap.size 9 1 v ((L.take k).filter full).length (((L.take k).filter full).map jA)/\aC X wr) (λ_ i _=>L.length-(intOf i).toNat);case atStart=>exact⟨0,gG _,rfl,⟨rfl,aJ ⟨rfl,rfl⟩⟩,ao _ _⟩
 case round =>
  obtain⟨k,hk,rfl,own,A⟩:=hrel;by_cases B:k<L.length
  ·have h:wr.cell? ⟨g,k,I⟩=Z (.string L[k]):=by
    have df:=aM A ((aK.cell M.O k).trans (show _=Z (jA L[k]) by simp[B]));exact df
   have l:L.take (k+1)=L.take k++[L[k]]:=dK B;have n:(L.take (k+1)).filter full=(L.take k).filter full++if full L[k] then[L[k]] else[]:=by
    rw[l,List.filter_append];congr 1;rw[List.filter_cons];rfl
   generalize L[k]=x at h l n;have b:=au n;obtain⟨A5,c5,rfl⟩:=bA own;have P:((L.take k).filter full).length<=k:=aP (List.length_filter_le _ _) dZ;generalize ((L.take k).filter full)=vs at own b P;obtain⟨q,o⟩:=bu own A;clear own A l n;cases c:full x with
   |false =>
    have e1:x.toList.isEmpty=true:=by unfold full at c;simpa using c
    have a:=b.O;rw[c]at a;simp only[Bool.false_eq_true,if_false,List.append_nil]at a;have p:=au a;clear b a c;go_wp2_with fail;go_roundw;case rel=>exact⟨k+1,z,by go_num,by rw[p.O];exact q.O,o.O⟩
    case measure=>simp[intOf];omega
   |true =>
    have e1:x.toList.isEmpty=false:=by unfold full at c;simpa using c
    have a:=b.O;rw[c]at a;simp only[if_true]at a;have p:=au a;clear b a c;have C:=fB wr 9 #[.string x];have al:aC X (wr.alloc (.cells #[.string x] 9)):=o.O.alloc o.O.size _;have eI:=o.O.size;obtain⟨D,E⟩:=bu C al;clear C al o;go_wp2_with (at_builtin;go_loud (refine dM _ rfl _ _ 181 rfl X.heap.size 9 i0 _ 1 16 underlying181 HI.O F.O G.O H.O rfl aR _ _ _ rfl (q.O.alloc _) ⟨wr.heap.size,0,I⟩ 1 1 [.string x] rfl rfl D.O tk ?_ ?_ ?_ ?_))
    ·unfold maxLen;omega
    ·omega
    ·first|omega|(simp;omega)
    intro v5 w5 d g5 _;have b5:=E.O.grown g5 dZ (λj hj=>((q.O.alloc (.cells #[.string x] 9)).lt j hj).1);obtain⟨Q,R⟩:=bu d b5;clear d g5 b5 E D q;go_wp2_with fail;go_roundw;case rel=>exact⟨k+1,z,by go_num,by rw[p.O];simpa using Q.O,R.O⟩
    case measure=>simp[intOf];omega
  ·have S:k=L.length:=z;subst S;rw[cT]at own;obtain⟨q,o⟩:=bu own (N.O.trans (A.mono hX));clear own A;go_wp2_with fail;go_ret;exact⟨_,rfl,Jp q.O hX,o.O⟩
def Gf(sep:ByteArray)(bk o c:Nat)(ns:List Int)(it:Int->ByteArray)(w:aw)(a:∀(j:Nat) x,ns[j]? = Z x->w.cell? ⟨bk,o+j,I⟩=Z (J V x))(mK:bk<w.heap.size)(h1:1<=ns.length)(h2:ns.length<=100)
  (H:∀n∈ns,∀W,aC w W->aF af 136 #[J V n] W λe W'=>e=av (.string (it n))/\aC W W') (hlen:(mb ((ns.map it).map (·.data.toList)) sep.data.toList).length<=100000) :
  aF af 254 #[.string sep,ae (Z ⟨bk,o,I⟩) ns.length c] w λe w'=>e=av (.string ⟨(mb ((ns.map it).map (·.data.toList)) sep.data.toList).toArray⟩)/\aC w w':=by
 obtain⟨i0,hi,C,D,E⟩:=cY Mw;obtain⟨HI,Q,R,S,HC,HH,HL⟩:=lV hi C D E a H hlen;clear hi C D E a H hlen;go_enter func254,ntmps254;go_wp2_with fail;go_loopw [5,10] (λv i wr=>∃k:Nat,k<=ns.length/\i=J V k/\wr.ownsRow w.heap.size 9 1 v ((ns.take k).map it).length (((ns.take k).map it).map jA)/\aC w wr) (λ_ i _=>ns.length-(intOf i).toNat);case atStart=>exact⟨0,gG _,rfl,⟨rfl,aJ ⟨rfl,rfl⟩⟩,ao _ _⟩
 case round =>
  obtain⟨k,hk,rfl,own,A⟩:=hrel;by_cases p:k<ns.length
  ·have r:ns[k]? = Z ns[k]:=List.getElem?_eq_getElem p;have s:=aM A (HC.O k _ r);have d:(ns.take (k+1)).map it=(ns.take k).map it++[it ns[k]]:=by rw[dK p,List.map_append];rfl
   have t:=HH.O ns[k] (List.getElem_mem p) wr A;generalize ns[k]=x at r s d t;clear r;have f:((ns.take k).map it).length=k:=dZ;rw[f]at own;generalize ((ns.take k).map it)=vs at own d f;have T:=au f;clear f;obtain⟨A5,c5,rfl⟩:=bA own;obtain⟨U,HW,B,F⟩:=cA d own A t;clear own A d t;go_wp2_with fail;refine F.O.mono ?_;rintro e w2 ⟨rfl,b2⟩;have b:=au b2;clear b2;have b2:=B.O.trans (b.O.mono B.O.size);have SG:=b2.size;obtain⟨u,G,K⟩:=bU (Bg HW.O b.O) (fB w2 9 #[.string (it x)]) (b2.alloc b2.size (.cells #[.string (it x)] 9));clear b2 HW b B F;go_wp2_with (at_builtin;go_loud (refine dM _ rfl _ _ 181 rfl w.heap.size 9 i0 _ 1 16 underlying181 HI.O Q.O R.O S.O rfl aR _ _ _ rfl (u.O.alloc _) ⟨w2.heap.size,0,I⟩ 1 1 [.string (it x)] rfl rfl G.O tk ?_ ?_ ?_ ?_))
   ·unfold maxLen;omega
   ·omega
   ·first|omega|(simp;omega)
   intro v5 w5 h g5 _;have b5:=K.O.grown g5 dZ (λj l=>((u.O.alloc (.cells #[.string (it x)] 9)).lt j l).1);obtain⟨X,Y⟩:=bu h b5;clear h g5 b5 K G u;go_wp2_with fail;go_roundw;case rel=>exact⟨k+1,z,by go_num,by rw[U.O];simpa[T.O]using X.O,Y.O⟩
   case measure=>simp[intOf];omega
  ·have aI:k=ns.length:=z;subst aI;rw[cT]at own;have L:(ns.map it).length=ns.length:=dt;have hL:=HL.O;obtain⟨vs,y⟩:=dH (ns.map it);rw[<-y]at own hL L;have HV:=au y;clear y;have M:0<vs.length:=z;obtain⟨g5,c5,rfl⟩:=Joins.ownsRow_form own M;have N:g5<wr.heap.size:=(own.lt g5 rfl).2;have P:∀(j:Nat) x,vs[j]? = Z x->wr.cell? ⟨g5,0+j,I⟩=Z (.string x):=λj x l=>by
    have df:=(List.getElem?_eq_some_iff.1 l).1;rw[Nat.zero_add,own.cellAt j (by simpa using df),List.getElem?_map,l];rfl
   have m:vs.length<=c5:=by
    rcases own.2 with⟨q,_⟩ | ⟨g,cap,dx,q,_,_,q3,_⟩
    ·cases q
    ·injection q with _ _ q5
     subst q5;omega
   have eI:vs.length<=140737488355328:=z;have gX:(mb (vs.map (·.data.toList)) sep.data.toList).length<=140737488355328:=aP hL aR;have l:=Tryz.strings_Join g5 0 c5 vs sep wr P N eI m gX;rw[L]at l;have HJ:=au l;clear l;have B:=au A;clear own A P N m hL;go_wp2_with (go_at_call 288;refine HJ.O.mono ?_;rintro e w2 ⟨rfl,b2⟩;have b:=au b2;clear b2);go_ret;exact⟨by rw[<-HV.O];rfl,B.O.trans (b.O.mono B.O.size)⟩
def LU(bk o c:Nat)(xs:List ByteArray)(w:aw)(a:∀(j:Nat) x,xs[j]? = Z x->w.cell? ⟨bk,o+j,I⟩=Z (.string x))(d:bk<w.heap.size)(h1:1<=xs.length)(i:xs.length<=1000)(b:xs.length<=c)(hlen:(mb (xs.map (·.data.toList)) vD.data.toList).length<=100000) :
  aF af 289 #[ae (Z ⟨bk,o,I⟩) xs.length c] w λe w'=>e=av (.string ⟨(mb (xs.map (·.data.toList)) vD.data.toList).toArray⟩)/\aC w w':=by
 have h:=au (Tryz.strings_Join bk o c xs vD w a d z b z);have b1:((xs.length:Int)==0)=false:=beq_eq_false_iff_ne.2 z;have b2:decide ((xs.length:Int)=0)=false:=decide_eq_false z;have g:0<xs.length:=h1;clear a hlen;go_enter func289,ntmps289;go_wp2_with (go_at_call 288;refine h.O.mono ?_;rintro e w2 ⟨rfl,b2⟩;have f:=au b2;clear b2);go_ret;exact⟨rfl,f.O⟩
def AQ{x:Int}(h:0<=x/\x<=4294967295):ar.wrap x=x:=by
 unfold IntKind.wrap;simp[gM,fR];omega
def IT{x:Int}(h:0<=x/\x<=65535):aN.wrap x=x:=by
 unfold IntKind.wrap;simp[gM,fR];omega
def Ph:(af.info? 73).map (·.size)=Z 5:=cC
def JG(bk o c:Nat)(src dQ aU:Int)(k:Sl)(g:M.cQ)(w:aw)(d:∀(j:Nat) x,[src,dQ,aU][j]? = Z x->w.cell? ⟨bk,o+j,I⟩=Z (J V x))(hy:k.B w g)
  (h1:0<=src/\src<=4294967295) (h2:0<=dQ/\dQ<=65535) (h3:0<=aU/\aU<=4294967295) (hp:g.length<=400) :
  aF af 203 #[ae (Z ⟨bk,o,I⟩) 3 c,ae k.a k.n k.c] w λe w'=>(∃s:Sl,e=av (ae s.a s.n s.c)/\s.B w' (M.ic ⟨false,96,dQ,aU,src,[],false,0,[],g⟩).1)/\aC w w':=by
 have E:w.cell? ⟨bk,o,I⟩=Z (J V src):=d 0 _ rfl;have c1:=d 1 _ rfl;have c2:=d 2 _ rfl;have U:ar.wrap src=src:=AQ h1;have X:aN.wrap dQ=dQ:=IT h2;have Y:ar.wrap aU=aU:=AQ h3;obtain⟨r,t,u,H⟩:=cA (λW (b:aC w W)=>aM b E) (λW (b:aC w W)=>aM b c1) (λW (b:aC w W)=>aM b c2) hy;clear d hy E c1 c2;go_enter func203,ntmps203;go_upto_region 1 with fail;go_cut [5] (λa wc=>∃r5:Nat,a=aq (Z ⟨r5,0,I⟩)/\aK wc r5 73 #[ai false,J bI 96,J aN dQ,J ar aU,J ar src]/\aC w wc);case first =>
  refine wp_region_held_drew (S:=λW=>aC w W) cC (eW (ao _ _)) (λf=>?_);refine fS 0 (ae (Z ⟨bk,o,I⟩) 3 c) rfl f ?_;try simp only[aA,pk]
  refine fS 1 (aq (Z ⟨bk,o,I⟩)) rfl f ?_;try simp only[aA,pk]
  refine fS 2 (J V src) rfl f ?_ (hy:=λW l=>by have q:=r.O W l;go_simp);try simp only[aA,pk]
  refine fS 3 (J ar src) rfl f ?_;try simp only[aA,pk]
  refine fS 4 (ae (Z ⟨bk,o,I⟩) 3 c) rfl f ?_;try simp only[aA,pk]
  refine fS 5 (aq (Z ⟨bk,o+1,I⟩)) rfl f ?_;try simp only[aA,pk]
  refine fS 6 (J V dQ) rfl f ?_ (hy:=λW l=>by have q:=t.O W l;go_simp);try simp only[aA,pk]
  refine fS 7 (J aN dQ) rfl f ?_;try simp only[aA,pk]
  refine fS 8 (ae (Z ⟨bk,o,I⟩) 3 c) rfl f ?_;try simp only[aA,pk]
  refine fS 9 (aq (Z ⟨bk,o+2,I⟩)) rfl f ?_;try simp only[aA,pk]
  refine fS 10 (J V aU) rfl f ?_ (hy:=λW l=>by have q:=u.O W l;go_simp);try simp only[aA,pk]
  refine fS 11 (J ar aU) rfl f ?_;try simp only[aA,pk]
  refine fS 12 (cg #[ai false,J bI 96,J aN dQ,J ar aU,J ar src]) rfl f ?_;try simp only[aA,pk]
  have m:∀v∈(#[ai false,J bI 96,J aN dQ,J ar aU,J ar src]:Array Value).toList,v.oneCell'=true:=tk;refine cH (rs:=[13]) cC dt ?_;refine bH rfl (λK p=>?_) cy;rw[if_pos jP];go_simp;refine p.out _ _ (f.alloc f.size _) (λh2=>?_);clear p K;try simp only[aA,pk]
  refine cH (rs:=[14]) cC dt ?_;refine bH rfl (λK p=>?_) cy;refine lj jP (.tmp 5) (.tmp 20) 73 jP w.drew.heap.size 0 73 #[ai false,J bI 0,J aN 0,J ar 0,J ar 0] rfl #[ai false,J bI 96,J aN dQ,J ar aU,J ar src] rfl Ph (aK.new w.drew 73 #[ai false,J bI 0,J aN 0,J ar 0,J ar 0]) (aj _) m ?_;intro w' y L;refine p.out _ _ (h2.trans (L.below h2.size (λi q=>by cases q;exact aj _))) (λh3=>?_);clear p K;refine wpAnyH_done cC ?_ _;go_wp2_with fail;go_meet;exact⟨_,rfl,y,h3⟩
 case rest =>
  obtain⟨r5,rfl,b5,A⟩:=hcut;have N:=b5.cell 0;have P:=b5.cell 1;have Q:=b5.cell 2;have R:=b5.cell 3;have T:=b5.cell 4;simp at N P Q R T;have pk:iT wc ⟨false,96,dQ,aU,src,[],false,0,[],g⟩ Sl.nil Sl.nil k:=⟨⟨⟨rfl,λ_ h=>(by cases h),λh=>absurd h (jy 0)⟩,aj _,aR,λ_=>rfl⟩,⟨⟨rfl,λ_ h=>(by cases h),λh=>absurd h (jy 0)⟩,aj _,aR,λ_=>rfl⟩,H.O.rows (aJ rfl) (.bn A),dt,h2,h3,h1,dt,⟨dt,dt,hp⟩⟩;obtain⟨C,F⟩:=bu (vw _ _ _ _ wc pk) A;clear b5 A pk;go_wp2_with (go_at_call 193;refine C.O.mono ?_;rintro e w4 ⟨⟨s,rfl,G⟩,b4⟩;have HS:=au G;have D:=au b4;clear G b4);go_ret;exact⟨⟨s,rfl,HS.O⟩,F.O.trans (D.O.mono F.O.size)⟩
namespace Sc
abbrev text:ByteArray:=⟨#[114,111,111,109,32,50,32,50,32,49,32,49,32,50,32,49,10,112,117,98,108,105,115,104,32,48,32,55,32,56,32,57,10,106,111,105,110,32,48,32,53,48,32,53,32,49,48,48,10,116,97,107,101,32,48,32,48,32,48,10,107,101,121,32,55,32,49,32,57,10,116,117,114,110,32,49,10,119,114,111,116,101,32,48]⟩
abbrev l0:ByteArray:=⟨#[114,111,111,109,32,50,32,50,32,49,32,49,32,50,32,49]⟩
abbrev l1:ByteArray:=⟨#[112,117,98,108,105,115,104,32,48,32,55,32,56,32,57]⟩
abbrev l2:ByteArray:=⟨#[106,111,105,110,32,48,32,53,48,32,53,32,49,48,48]⟩
abbrev l3:ByteArray:=⟨#[116,97,107,101,32,48,32,48,32,48]⟩
abbrev l4:ByteArray:=⟨#[107,101,121,32,55,32,49,32,57]⟩
abbrev l5:ByteArray:=⟨#[116,117,114,110,32,49]⟩
abbrev l6:ByteArray:=⟨#[119,114,111,116,101,32,48]⟩
abbrev lines:List ByteArray:=[l0,l1,l2,l3,l4,l5,l6]
def Fy:lQ ⟨#[10]⟩ 0 (gz text ⟨#[10]⟩) text=lines:=cC
def Fz:gz text ⟨#[10]⟩+1=lines.length:=cC
abbrev w0:List ByteArray:=[⟨#[114,111,111,109]⟩,⟨#[50]⟩,⟨#[50]⟩,⟨#[49]⟩,⟨#[49]⟩,⟨#[50]⟩,⟨#[49]⟩]
def Mj:lQ vD 0 (gz l0 vD) l0=w0:=cC
def Mk:gz l0 vD+1=w0.length:=cC
def Nv:w0.filter full=w0:=cC
abbrev w1:List ByteArray:=[⟨#[112,117,98,108,105,115,104]⟩,⟨#[48]⟩,⟨#[55]⟩,⟨#[56]⟩,⟨#[57]⟩]
def Mh:lQ vD 0 (gz l1 vD) l1=w1:=cC
def Mi:gz l1 vD+1=w1.length:=cC
def Nu:w1.filter full=w1:=cC
abbrev w2:List ByteArray:=[⟨#[106,111,105,110]⟩,⟨#[48]⟩,⟨#[53,48]⟩,⟨#[53]⟩,⟨#[49,48,48]⟩]
def Mf:lQ vD 0 (gz l2 vD) l2=w2:=cC
def Mg:gz l2 vD+1=w2.length:=cC
def Nt:w2.filter full=w2:=cC
abbrev w3:List ByteArray:=[⟨#[116,97,107,101]⟩,⟨#[48]⟩,⟨#[48]⟩,⟨#[48]⟩]
def Md:lQ vD 0 (gz l3 vD) l3=w3:=cC
def Me:gz l3 vD+1=w3.length:=cC
def Ns:w3.filter full=w3:=cC
abbrev w4:List ByteArray:=[⟨#[107,101,121]⟩,⟨#[55]⟩,⟨#[49]⟩,⟨#[57]⟩]
def Mb:lQ vD 0 (gz l4 vD) l4=w4:=cC
def Mc:gz l4 vD+1=w4.length:=cC
def Nr:w4.filter full=w4:=cC
abbrev w5:List ByteArray:=[⟨#[116,117,114,110]⟩,⟨#[49]⟩]
def L8:lQ vD 0 (gz l5 vD) l5=w5:=cC
def Ma:gz l5 vD+1=w5.length:=cC
def Nq:w5.filter full=w5:=cC
abbrev w6:List ByteArray:=[⟨#[119,114,111,116,101]⟩,⟨#[48]⟩]
def L4:lQ vD 0 (gz l6 vD) l6=w6:=cC
def L7:gz l6 vD+1=w6.length:=cC
def Np:w6.filter full=w6:=cC
end Sc
def Kc(b:Nat)(w:aw)(h0:w.cell? ⟨b,0,I⟩=Z (aq (Z ⟨b,0,I⟩))):aF af 134 #[aq (Z ⟨b,0,I⟩)] w λe w'=>e=av (aB #[])/\w'=w:=by
 have a:(af.info? 178).map (·.size)=Z 2:=cC;obtain⟨j,c,_⟩:=Option.map_eq_some_iff.1 a;have d:∀W:aw,(binOp .neq 176 (aq (Z ⟨b,0,I⟩)) (aq (Z ⟨b,0,I⟩))).run af W=.ok (ai false) W:=λW=>Lib.run_neq_ptr_same W _ underlying176 c;go_enter func134,ntmps134;go_wp2_with fail;refine dq (bT results134 _ _ _) rfl ?_;exact⟨rfl,rfl⟩
def GQ(b:Nat)(v:Value)(w:aw)(c:aK w b 178 #[aq I,v]):aF af 134 #[aq (Z ⟨b,0,I⟩)] w λe w'=>e=av (aB #[])/\w'=w.setCell ⟨b,0,I⟩ (aq (Z ⟨b,0,I⟩)):=by
 have g:(af.info? 178).map (·.size)=Z 2:=cC;obtain⟨j,f,d⟩:=Option.map_eq_some_iff.1 g;have h0:=c.cell 0;have f0:=c.frozen 0;simp at h0;have a:w.shape? b=Z (178,2):=by unfold World.shape?;rw[show w.heap[b]? = _ from c];rfl
 go_enter func134,ntmps134;go_wp2_with fail;rw[Lib.run_to_unsafe w ⟨b,0,I⟩ underlying176 underlying365 f (by rw[d];decide) a (Nat.zero_lt_succ 1)];simp only[Result.andThen];rw[Oper.upon_value];go_wp2_with fail;rw[run_callFunc_extern func199 cC cC cC (e:=Extern.AbiNoEscape.same) cC];rw[Lib.run_noEscape];simp only[Result.andThen];rw[Oper.upon_value];go_wp2_with fail;rw[Lib.run_from_unsafe w ⟨b,0,I⟩ underlying365 underlying176 f a cC];simp only[Result.andThen];rw[Oper.upon_value];go_wp2_with fail;refine dq (bT results134 _ _ _) rfl ?_;exact⟨rfl,rfl⟩
end Go.Proofs.YtkfblammcilfhaaGreatDoor
