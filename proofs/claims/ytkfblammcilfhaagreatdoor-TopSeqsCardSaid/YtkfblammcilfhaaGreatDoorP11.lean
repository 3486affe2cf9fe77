import Derived.Test.YtkfblammcilfhaaGreatDoorP7
import Derived.Test.YtkfblammcilfhaaGreatDoorP8
import Derived.Test.YtkfblammcilfhaaGreatDoorP9
set_option linter.all false
set_option maxRecDepth 100000
set_option maxHeartbeats 100000000
open Go.ChangeShapes Go.WideShapes Go.ChangeAt Go.RowKit Go.Proofs.Tryz
open Go renaming World->aw,Calls->aF,bodyPost_ret->ax,bodyPost_end->dq,results_none->bT
open Go.Proofs.Tryz renaming prog->af
open Go.IntKind renaming i64->V
open Go.IntWalk renaming i64_in->cz
open Nat renaming mod_lt->kp,zero_add->cO,le_refl->aj
open Array renaming getElem?_eq_getElem->aE
open Go.RowKit renaming wrap64->dB
open Go.Lib renaming join->mb,splitB->lQ,countB->gz
open Go.Value renaming int->J,slice->ae,bool->ai,pointer->aq,tuple->aB,agg->cg
open Go.Ending renaming returned->av
open Option renaming none->I,some->Z
namespace Go.Proofs.YtkfblammcilfhaaGreatDoor
def Av(g pl cap:Nat)(a0:Int)(o:Option Addr)(a b:Nat)(q:List (List Value))(w:aw)(h:nU w g pl cap q)(hq:q.length<cap) :
  aF af 194 #[aq (Z ⟨g,0,I⟩),(cg #[J V a0,ae o a b])] w λe w'=>e=av (aB #[vh,ai false,J V 0])/\nU w' g pl cap (q++[[J V a0,ae o a b]])/\cS (jK g pl) w w':=by
 obtain⟨first,jt,n4,n5,n6,n7,hf,P,Q,T,hR⟩:=h.ex;have le:=h.le;have one:=h.one;have aT:=h.aT;have E:=h.wf;have n:decide (q.length=cap)=false:=dZ;have F:=au n;clear n;have w1:V.wrap ((first:Int)+(q.length:Int))=(first:Int)+(q.length:Int):=cz _ ⟨z,z⟩;have w2:V.wrap ((q.length:Int)+1)=(q.length:Int)+1:=cz _ ⟨z,z⟩;obtain⟨p,hp⟩:=dH ((first+q.length) % cap);have Tk:((first:Int)+(q.length:Int)) % (cap:Int)=(p:Int):=by rw[hp];simp
 have U:p<cap:=by rw[hp];exact kp _ z
 have Tj:(p:Int)<(cap:Int):=z;have Tf:=ll (k:=2) U;have r:=hR.push (x:=[J V a0,ae o a b]) hf hq T rfl;rw[<-hp]at r;have G:∀x∈q++[([J V a0,ae o a b]:List Value)],x.length=2/\∀u∈x,u.oneCell'=true:=by
  intro x D;rcases List.mem_append.1 D with D|D
  ·exact E x D
  ·simp at D;subst D;exact⟨rfl,by intro u hu;simp at hu;repeat (first|(subst hu;rfl)|(rcases hu with rfl|hu;rfl))⟩
 have H:p*2+2<=jt.size:=z;obtain⟨Tg,HS,HR,m⟩:=cA G T r H;clear G T hR r hp Tf H E;have FF:∀i,cr i->jK g pl i:=λi q=>q.elim;go_enter func194,ntmps194;go_upto_region 2 with fail;obtain⟨r3,s⟩:=dH w.heap.size;obtain⟨r4,t⟩:=dH (w.heap.size+1);obtain⟨r7,y⟩:=dH (w.heap.size+1+1);rw[<-y,<-t,<-s];refine aW (λW=>aK W r3 80 #[J V a0,ae o a b]/\aK W r4 80 #[J V 0,ae I 0 0]/\aK W r7 80 #[J V 0,ae I 0 0]/\nU W g pl cap q/\aK W g 314 _/\aK W pl 80 jt/\cS cr w W)
  ⟨((aK.newAt _ _ _ _ s).alloc _).alloc _,(aK.newAt _ _ _ _ (by rw[t];simp)).alloc _,aK.newAt _ _ _ _ (by rw[y];simp),((h.alloc _).alloc _).alloc _,((P.alloc _).alloc _).alloc _,((Q.alloc _).alloc _).alloc _,(((cS.refl _ w).alloc _).alloc _).alloc _⟩ ?_
 rintro W ⟨b3,b4,b7,R1,A,K,u1⟩;have lB:=P.lt;have lP:=Q.lt;have d1:r3≠pl/\r4≠pl/\r7≠pl/\r3≠g/\r4≠g/\r7≠g/\w.heap.size<=r4:=z;have d2:g≠pl:=aK.jf P Q aR;have HD:=au d1;clear s t y d1 lB lP h P Q;have c3:=A.cell 3;simp at c3;go_upto_region 8 with(refine(DR g pl cap q W R1).mono ?_;rintro e w2 ⟨rfl,hv⟩;rw[F.O];subst hv)
 obtain⟨d,c,H3,R,S,HU⟩:=lH A.drew K.drew b3.drew b4.drew b7.drew u1.drew;clear R1 A K b3 b4 b7 u1 c3;generalize W.drew=X at d c H3 R S HU ⊢;have c0:=d.O.cell 0;have c1:=d.O.cell 1;have c2:=d.O.cell 2;have f0:=c.O.frozen (p*2);have f1:=c.O.frozen (p*2+1);obtain⟨v0,v1,e0,e1⟩:∃v0 v1,X.cell? ⟨pl,p*2,I⟩=Z v0/\X.cell? ⟨pl,p*2+1,I⟩=Z v1:=⟨_,_,(c.O.cell _).trans (aE (lE m.O)),(c.O.cell _).trans (aE (lE m.O))⟩;have t0:=H3.O.cell 0;have t1:=H3.O.cell 1;simp at c0 c1 c2 t0 t1;go_region;have f:=HD.O;refine gN (λY=>aK Y g 314 _/\aK Y pl 80 (de jt (p*2) [J V a0,ae o a b])/\aK Y r4 80 _/\aK Y r7 80 _/\cS (jK g pl) w Y)
  ⟨((d.O.dS d2 _).dS d2 _).drew,by rw[<-mx m.O];exact((c.O.bC _ _).bC _ _).drew,((R.O.dS f.2.1 _).dS f.2.1 _).drew,((S.O.dS f.2.2.1 _).dS f.2.2.1 _).drew,(((HU.O.mono λi _ q=>(FF i q)).setCell (.inl (.inr rfl)) _).setCell (.inl (.inr rfl)) _).drew⟩ ?_
 rintro Y ⟨l,L,M,N,uY⟩;have c2:=l.cell 2;have c4:=l.cell 4;have f2:=l.frozen 2;have f4:=l.frozen 4;simp at c2 c4;have hY:nU ((Y.setCell ⟨g,2,I⟩ (J V ((q.length:Int)+1))).setCell ⟨g,4,I⟩ (J V (dB (n4+1)))) g pl cap (q++[[J V a0,ae o a b]]):=by
  refine⟨⟨first,_,dB (n4+1),n5,n6,n7,hf,?_,(L.dS (p:=⟨g,2,I⟩) (λe=>d2 e.symm) _).dS (p:=⟨g,4,I⟩) (λe=>d2 e.symm) _,by rw[gU (by simpa using m.O)];exact HS.O,HR.O⟩,dZ,one,aT,Tg.O⟩;have B:=(l.bC 2 (J V ((q.length:Int)+1))).bC 4 (J V (dB (n4+1)));simpa using B
 have uZ:=(uY.setCell (p:=⟨g,2,I⟩) (.inl (.inl rfl)) (J V ((q.length:Int)+1))).setCell (p:=⟨g,4,I⟩) (.inl (.inl rfl)) (J V (dB (n4+1)));have z4:=(M.dS (p:=⟨g,2,I⟩) f.2.2.2.2.1 (J V ((q.length:Int)+1))).dS (p:=⟨g,4,I⟩) f.2.2.2.2.1 (J V (dB (n4+1)));have z7:=(N.dS (p:=⟨g,2,I⟩) f.2.2.2.2.2.1 (J V ((q.length:Int)+1))).dS (p:=⟨g,4,I⟩) f.2.2.2.2.2.1 (J V (dB (n4+1)));have HY:=au hY;have HZ:=au uZ;have R:=au z4;have S:=au z7;clear hY uZ z4 z7 l L M N uY f d c HU;go_wp2_with (first
  |(refine lI _ rfl (.tmp 7) 80 rfl r7 0 80 _ rfl #[J V 0,ae none 0 0] _ underlying80 uC S.O (λj _=>by rw[cO]) ?_)
  |(refine jb _ rfl (.tmp 4) (.tmp 65) 80 rfl r4 0 80 _ rfl #[J V 0,ae I 0 0] rfl uC R.O (aj _) tk ?_;intro w6 C v6))
 have f:=HD.O;have Ti:de #[J V 0,ae I 0 0] 0 (#[J V 0,ae I 0 0]:Array Value).toList=#[J V 0,ae I 0 0]:=rfl;rw[Ti]at C;have x0:=C.cell 0;have x1:=C.cell 1;simp at x0 x1;have h6:=HY.O.dW v6 (λe=>f.2.2.2.2.1 e.symm) (λe=>f.2.1 e.symm);have u6:=HZ.O.step v6 (λi hi=>.inr (by rw[show i=r4 from hi];exact f.2.2.2.2.2.2));refine ax (v:=aB #[vh,ai false,J V 0]) (by simp[results,results194,go_sem,x0,x1]) rfl ⟨rfl,h6,u6⟩
def Aw(g pl cap:Nat)(a0:Int)(C:Option Addr)(l m:Nat)(c:Int)(d:Option Addr)(a b:Nat)(q:List (List Value))(w:aw)(h:nU w g pl cap ([J V c,ae d a b]::q))(hl:q.length+1=cap) :
  aF af 194 #[aq (Z ⟨g,0,I⟩),(cg #[J V a0,ae C l m])] w λe w'=>e=av (aB #[(cg #[J V c,ae d a b]),ai true,J V 0])/\nU w' g pl cap (q++[[J V a0,ae C l m]])/\cS (jK g pl) w w':=by
 obtain⟨Tk,Tt,m4,m5,m6,m7,Tl,t,D,Tm,Tn⟩:=h.ex;have A:decide ((([J V c,ae d a b]:List Value)::q).length=cap)=true:=dZ;have Q:=au A;clear A Tm Tn Tl;go_enter func194,ntmps194;go_upto_region 2 with fail;obtain⟨r3,E⟩:=dH w.heap.size;obtain⟨r4,F⟩:=dH (w.heap.size+1);obtain⟨r7,H⟩:=dH (w.heap.size+1+1);rw[<-H,<-F,<-E];refine aW (λW=>aK W r3 80 #[J V a0,ae C l m]/\aK W r4 80 #[J V 0,ae I 0 0]/\aK W r7 80 #[J V 0,ae I 0 0]/\nU W g pl cap ([J V c,ae d a b]::q)/\aK W g 314 _/\cS cr w W)
  ⟨((aK.newAt _ _ _ _ E).alloc _).alloc _,(aK.newAt _ _ _ _ (by rw[F];simp)).alloc _,aK.newAt _ _ _ _ (by rw[H];simp),((h.alloc _).alloc _).alloc _,((t.alloc _).alloc _).alloc _,(((cS.refl _ w).alloc _).alloc _).alloc _⟩ ?_
 rintro W ⟨b3,b4,b7,R1,R,u1⟩;have lB:=t.lt;have lP:=D.lt;have d1:r3≠pl/\r4≠pl/\r7≠pl/\r3≠g/\r4≠g/\r7≠g/\w.heap.size<=r4:=z;have d3:r3≠r7/\r4≠r7/\w.heap.size<=r7:=z;have d2:g≠pl:=aK.jf t D aR;have s:=au d1;have K:=au d3;clear E F H d1 d3 lB lP h t D;have c3:=R.cell 3;simp at c3;go_wp2_with (first
  |(refine(DR g pl cap _ W R1).mono ?_;rintro e w2 ⟨rfl,hv⟩;rw[Q.O];subst hv)
  |(refine(zv g pl cap c d a b q W.drew R1.drew).mono ?_;rintro e w3 ⟨rfl,R3,u3⟩;have S:=b7.drew.dW u3 (λq=>by rcases q with q|q;exact s.O.2.2.2.2.2.1 q;exact s.O.2.2.1 q))
  |(refine jb _ rfl (.tmp 7) (.tmp 18) 80 rfl r7 0 80 #[J V 0,ae none 0 0] rfl #[J V c,ae d a b] rfl uC S (aj _) tk ?_;intro w4 b8 v4;have N:=R3.dW v4 (λe=>s.O.2.2.2.2.2.1 e.symm) (λe=>s.O.2.2.1 e.symm);obtain⟨first,jt,n4,n5,n6,n7,hf,hB,hP,hs,hR⟩:=N.ex;have c6:=hB.cell 6;have f6:=hB.frozen 6;simp at c6))
 have k3:=(b3.drew.dW u3 (λq=>by rcases q with q|q;exact s.O.2.2.2.1 q;exact s.O.1 q)).dW v4 K.O.1;have k4:=(b4.drew.dW u3 (λq=>by rcases q with q|q;exact s.O.2.2.2.2.1 q;exact s.O.2.1 q)).dW v4 K.O.2.1;have k7:aK w4 r7 80 #[J V c,ae d a b]:=b8;have uu:=((u1.drew.mono (G:=jK g pl) λi _ q=>q.elim).trans u3).step v4 (λi hi=>.inr (by rw[show i=r7 from hi];exact K.O.2.2));clear b8 S b3 b4 b7 u1 R1 R3 u3 v4 R c3;have le:=N.le;have one:=N.one;have aT:=N.aT;have T:=N.wf;have hq:q.length<cap:=z;have w1:V.wrap ((first:Int)+(q.length:Int))=(first:Int)+(q.length:Int):=cz _ ⟨z,z⟩;have w2:V.wrap ((q.length:Int)+1)=(q.length:Int)+1:=cz _ ⟨z,z⟩;obtain⟨p,hp⟩:=dH ((first+q.length) % cap);have Tv:((first:Int)+(q.length:Int)) % (cap:Int)=(p:Int):=by rw[hp];simp
 have To:p<cap:=by rw[hp];exact kp _ z
 have Tu:(p:Int)<(cap:Int):=z;have Tp:=ll (k:=2) To;have L:=hR.push (x:=[J V a0,ae C l m]) hf hq hs rfl;rw[<-hp]at L;have U:∀x∈q++[([J V a0,ae C l m]:List Value)],x.length=2/\∀u∈x,u.oneCell'=true:=by
  intro x P;rcases List.mem_append.1 P with P|P
  ·exact T x P
  ·simp at P;subst P;exact⟨rfl,by intro u hu;simp at hu;repeat (first|(subst hu;rfl)|(rcases hu with rfl|hu;rfl))⟩
 have Tf:p*2+2<=jt.size:=z;obtain⟨Tq,HS,HR,y⟩:=cA U hs L Tf;clear U hs hR L hp Tp Tf T;have FF:∀i,jK g pl i->jK g pl i:=λi q=>q;have f:=s.O;obtain⟨o,n,H3,H4,H7,HU⟩:=lH (show aK (w4.setCell ⟨g,6,I⟩ (J V (dB (n6+1)))) g 314 #[ae (Z ⟨pl,0,I⟩) cap cap,J V first,J V q.length,ai false,J V n4,J V n5,J V (dB (n6+1)),J V n7] from by have B:=hB.bC 6 (J V (dB (n6+1)));simpa using B) (hP.dS (p:=⟨g,6,I⟩) (λe=>d2 e.symm) (J V (dB (n6+1)))) (k3.dS (p:=⟨g,6,I⟩) f.2.2.2.1 (J V (dB (n6+1)))) (k4.dS (p:=⟨g,6,I⟩) f.2.2.2.2.1 (J V (dB (n6+1)))) (k7.dS (p:=⟨g,6,I⟩) f.2.2.2.2.2.1 (J V (dB (n6+1)))) (uu.setCell (p:=⟨g,6,I⟩) (.inl (.inl rfl)) (J V (dB (n6+1))));clear hB hP k3 k4 k7 uu N f c6 f6;generalize w4.setCell ⟨g,6,I⟩ (J V (dB (n6+1)))=X at o n H3 H4 H7 HU ⊢;have c0:=o.O.cell 0;have c1:=o.O.cell 1;have c2:=o.O.cell 2;have f0:=n.O.frozen (p*2);have f1:=n.O.frozen (p*2+1);obtain⟨v0,v1,e0,e1⟩:∃v0 v1,X.cell? ⟨pl,p*2,I⟩=Z v0/\X.cell? ⟨pl,p*2+1,I⟩=Z v1:=⟨_,_,(n.O.cell _).trans (aE (lE y.O)),(n.O.cell _).trans (aE (lE y.O))⟩;have t0:=H3.O.cell 0;have t1:=H3.O.cell 1;simp at c0 c1 c2 t0 t1;go_region;have f:=s.O;refine gN (λY=>aK Y g 314 _/\aK Y pl 80 (de jt (p*2) [J V a0,ae C l m])/\aK Y r4 80 _/\aK Y r7 80 _/\cS (jK g pl) w Y)
  ⟨((o.O.dS d2 _).dS d2 _).drew,by rw[<-mx y.O];exact((n.O.bC _ _).bC _ _).drew,((H4.O.dS f.2.1 _).dS f.2.1 _).drew,((H7.O.dS f.2.2.1 _).dS f.2.2.1 _).drew,(((HU.O.mono λi _ q=>(FF i q)).setCell (.inl (.inr rfl)) _).setCell (.inl (.inr rfl)) _).drew⟩ ?_
 rintro Y ⟨r,Tg,Ti,Tj,uY⟩;have c2:=r.cell 2;have c4:=r.cell 4;have f2:=r.frozen 2;have f4:=r.frozen 4;simp at c2 c4;have hY:nU ((Y.setCell ⟨g,2,I⟩ (J V ((q.length:Int)+1))).setCell ⟨g,4,I⟩ (J V (dB (n4+1)))) g pl cap (q++[[J V a0,ae C l m]]):=by
  refine⟨⟨first,_,dB (n4+1),n5,(dB (n6+1)),n7,hf,?_,(Tg.dS (p:=⟨g,2,I⟩) (λe=>d2 e.symm) _).dS (p:=⟨g,4,I⟩) (λe=>d2 e.symm) _,by rw[gU (by simpa using y.O)];exact HS.O,HR.O⟩,dZ,one,aT,Tq.O⟩;have B:=(r.bC 2 (J V ((q.length:Int)+1))).bC 4 (J V (dB (n4+1)));simpa using B
 have uZ:=(uY.setCell (p:=⟨g,2,I⟩) (.inl (.inl rfl)) (J V ((q.length:Int)+1))).setCell (p:=⟨g,4,I⟩) (.inl (.inl rfl)) (J V (dB (n4+1)));have z4:=(Ti.dS (p:=⟨g,2,I⟩) f.2.2.2.2.1 (J V ((q.length:Int)+1))).dS (p:=⟨g,4,I⟩) f.2.2.2.2.1 (J V (dB (n4+1)));have z7:=(Tj.dS (p:=⟨g,2,I⟩) f.2.2.2.2.2.1 (J V ((q.length:Int)+1))).dS (p:=⟨g,4,I⟩) f.2.2.2.2.2.1 (J V (dB (n4+1)));have HY:=au hY;have HZ:=au uZ;have H4:=au z4;have H7:=au z7;clear hY uZ z4 z7 r Tg Ti Tj uY f o n HU;go_wp2_with (first
  |(refine lI _ rfl (.tmp 7) 80 rfl r7 0 80 _ rfl #[J V c,ae d a b] _ underlying80 uC H7.O (λj _=>by rw[cO]) ?_)
  |(refine jb _ rfl (.tmp 4) (.tmp 65) 80 rfl r4 0 80 _ rfl #[J V c,ae d a b] rfl uC H4.O (aj _) tk ?_;intro w6 M v6))
 have f:=s.O;have Ts:de #[J V 0,ae I 0 0] 0 (#[J V c,ae d a b]:Array Value).toList=#[J V c,ae d a b]:=rfl;rw[Ts]at M;have x0:=M.cell 0;have x1:=M.cell 1;simp at x0 x1;have h6:=HY.O.dW v6 (λe=>f.2.2.2.2.1 e.symm) (λe=>f.2.1 e.symm);have u6:=HZ.O.step v6 (λi hi=>.inr (by rw[show i=r4 from hi];exact f.2.2.2.2.2.2));refine ax (v:=aB #[(cg #[J V c,ae d a b]),ai true,J V 0]) (by simp[results,results194,go_sem,x0,x1]) rfl ⟨rfl,h6,u6⟩
def Gf(sep:ByteArray)(bk o c:Nat)(ns:List Int)(it:Int->ByteArray)(w:aw)(a:∀(j:Nat) x,ns[j]? = Z x->w.cell? ⟨bk,o+j,I⟩=Z (J V x))(Tk:bk<w.heap.size)(h1:1<=ns.length)(h2:ns.length<=100)
  (H:∀n∈ns,∀W,aC w W->aF af 136 #[J V n] W λe W'=>e=av (.string (it n))/\aC W W') (hlen:(mb ((ns.map it).map (·.data.toList)) sep.data.toList).length<=100000) :
  aF af 254 #[.string sep,ae (Z ⟨bk,o,I⟩) ns.length c] w λe w'=>e=av (.string ⟨(mb ((ns.map it).map (·.data.toList)) sep.data.toList).toArray⟩)/\aC w w':=by
 obtain⟨i0,hi,C,D,E⟩:=info_parts Mw;obtain⟨HI,Q,R,S,HC,HH,HL⟩:=lV hi C D E a H hlen;clear hi C D E a H hlen;go_enter func254,ntmps254;go_wp2_with fail;go_loopw [5,10] (λv i wr=>∃k:Nat,k<=ns.length/\i=J V k/\wr.ownsRow w.heap.size 9 1 v ((ns.take k).map it).length (((ns.take k).map it).map Value.string)/\aC w wr) (λ_ i _=>ns.length-(intOf i).toNat);case atStart=>exact⟨0,Nat.zero_le _,rfl,⟨rfl,.inl ⟨rfl,rfl⟩⟩,Below.refl _ _⟩
 case round =>
  obtain⟨k,hk,rfl,own,A⟩:=hrel;by_cases p:k<ns.length
  ·have r:ns[k]? = Z ns[k]:=List.getElem?_eq_getElem p;have s:=aM A (HC.O k _ r);have d:(ns.take (k+1)).map it=(ns.take k).map it++[it ns[k]]:=by rw[List.take_succ_eq_append_getElem p,List.map_append];rfl
   have t:=HH.O ns[k] (List.getElem_mem p) wr A;generalize ns[k]=x at r s d t;clear r;have f:((ns.take k).map it).length=k:=dZ;rw[f]at own;generalize ((ns.take k).map it)=vs at own d f;have T:=au f;clear f;obtain⟨A5,c5,rfl⟩:=bA own;obtain⟨U,HW,B,F⟩:=cA d own A t;clear own A d t;go_wp2_with fail;refine F.O.mono ?_;rintro e w2 ⟨rfl,b2⟩;have b:=au b2;clear b2;have b2:=B.O.trans (b.O.mono B.O.size);have Tl:=b2.size;obtain⟨u,G,K⟩:=bU (Bg HW.O b.O) (fB w2 9 #[.string (it x)]) (b2.alloc b2.size (.cells #[.string (it x)] 9));clear b2 HW b B F;go_wp2_with (at_builtin;go_loud (refine wpList_append_own _ rfl _ _ 181 rfl w.heap.size 9 i0 _ 1 16 underlying181 HI.O Q.O R.O S.O rfl aR _ _ _ rfl (u.O.alloc _) ⟨w2.heap.size,0,I⟩ 1 1 [.string (it x)] rfl rfl G.O tk ?_ ?_ ?_ ?_))
   ·unfold maxLen;omega
   ·omega
   ·first|omega|(simp;omega)
   intro v5 w5 h g5 _;have b5:=K.O.grown g5 dZ (λj l=>((u.O.alloc (.cells #[.string (it x)] 9)).lt j l).1);obtain⟨X,Y⟩:=bu h b5;clear h g5 b5 K G u;go_wp2_with fail;go_roundw;case rel=>exact⟨k+1,z,by go_num,by rw[U.O];simpa[T.O]using X.O,Y.O⟩
   case measure=>simp[intOf];omega
  ·have Tf:k=ns.length:=z;subst Tf;rw[List.take_length]at own;have L:(ns.map it).length=ns.length:=dt;have hL:=HL.O;obtain⟨vs,y⟩:=dH (ns.map it);rw[<-y]at own hL L;have HV:=au y;clear y;have M:0<vs.length:=z;obtain⟨g5,c5,rfl⟩:=Joins.ownsRow_form own M;have N:g5<wr.heap.size:=(own.lt g5 rfl).2;have P:∀(j:Nat) x,vs[j]? = Z x->wr.cell? ⟨g5,0+j,I⟩=Z (.string x):=λj x l=>by
    have Tg:=(List.getElem?_eq_some_iff.1 l).1;rw[cO,own.cellAt j (by simpa using Tg),List.getElem?_map,l];rfl
   have m:vs.length<=c5:=by
    rcases own.2 with⟨q,_⟩ | ⟨g,cap,dx,q,_,_,q3,_⟩
    ·cases q
    ·injection q with _ _ q5
     subst q5;omega
   have Ti:vs.length<=140737488355328:=z;have Tj:(mb (vs.map (·.data.toList)) sep.data.toList).length<=140737488355328:=Nat.le_trans hL aR;have l:=Tryz.strings_Join g5 0 c5 vs sep wr P N Ti m Tj;rw[L]at l;have HJ:=au l;clear l;have B:=au A;clear own A P N m hL;go_wp2_with (go_at_call 288;refine HJ.O.mono ?_;rintro e w2 ⟨rfl,b2⟩;have b:=au b2;clear b2);go_ret;exact⟨by rw[<-HV.O];rfl,B.O.trans (b.O.mono B.O.size)⟩
def LU(bk o c:Nat)(xs:List ByteArray)(w:aw)(a:∀(j:Nat) x,xs[j]? = Z x->w.cell? ⟨bk,o+j,I⟩=Z (.string x))(d:bk<w.heap.size)(h1:1<=xs.length)(i:xs.length<=1000)(b:xs.length<=c)(hlen:(mb (xs.map (·.data.toList)) vD.data.toList).length<=100000) :
  aF af 289 #[ae (Z ⟨bk,o,I⟩) xs.length c] w λe w'=>e=av (.string ⟨(mb (xs.map (·.data.toList)) vD.data.toList).toArray⟩)/\aC w w':=by
 have h:=au (Tryz.strings_Join bk o c xs vD w a d z b z);have b1:((xs.length:Int)==0)=false:=beq_eq_false_iff_ne.2 z;have b2:decide ((xs.length:Int)=0)=false:=decide_eq_false z;have g:0<xs.length:=h1;clear a hlen;go_enter func289,ntmps289;go_wp2_with (go_at_call 288;refine h.O.mono ?_;rintro e w2 ⟨rfl,b2⟩;have f:=au b2;clear b2);go_ret;exact⟨rfl,f.O⟩
namespace Sc
abbrev text:ByteArray:=⟨#[114,111,111,109,32,50,32,50,32,49,32,49,32,50,32,49,10,112,117,98,108,105,115,104,32,48,32,55,32,56,32,57,10,106,111,105,110,32,48,32,53,48,32,53,32,49,48,48,10,116,97,107,101,32,48,32,48,32,48,10,107,101,121,32,55,32,49,32,57,10,116,117,114,110,32,49,10,119,114,111,116,101,32,48]⟩
abbrev l0:ByteArray:=⟨#[114,111,111,109,32,50,32,50,32,49,32,49,32,50,32,49]⟩
abbrev l1:ByteArray:=⟨#[112,117,98,108,105,115,104,32,48,32,55,32,56,32,57]⟩
abbrev l2:ByteArray:=⟨#[106,111,105,110,32,48,32,53,48,32,53,32,49,48,48]⟩
abbrev l3:ByteArray:=⟨#[116,97,107,101,32,48,32,48,32,48]⟩
abbrev l4:ByteArray:=⟨#[107,101,121,32,55,32,49,32,57]⟩
abbrev l5:ByteArray:=⟨#[116,117,114,110,32,49]⟩
abbrev l6:ByteArray:=⟨#[119,114,111,116,101,32,48]⟩
abbrev lines:List ByteArray:=[l0,l1,l2,l3,l4,l5,l6]
def Fy:lQ ⟨#[10]⟩ 0 (gz text ⟨#[10]⟩) text=lines:=cC
def Fz:gz text ⟨#[10]⟩+1=lines.length:=cC
abbrev w0:List ByteArray:=[⟨#[114,111,111,109]⟩,⟨#[50]⟩,⟨#[50]⟩,⟨#[49]⟩,⟨#[49]⟩,⟨#[50]⟩,⟨#[49]⟩]
def Mj:lQ vD 0 (gz l0 vD) l0=w0:=cC
def Mk:gz l0 vD+1=w0.length:=cC
def Nv:w0.filter full=w0:=cC
abbrev w1:List ByteArray:=[⟨#[112,117,98,108,105,115,104]⟩,⟨#[48]⟩,⟨#[55]⟩,⟨#[56]⟩,⟨#[57]⟩]
def Mh:lQ vD 0 (gz l1 vD) l1=w1:=cC
def Mi:gz l1 vD+1=w1.length:=cC
def Nu:w1.filter full=w1:=cC
abbrev w2:List ByteArray:=[⟨#[106,111,105,110]⟩,⟨#[48]⟩,⟨#[53,48]⟩,⟨#[53]⟩,⟨#[49,48,48]⟩]
def Mf:lQ vD 0 (gz l2 vD) l2=w2:=cC
def Mg:gz l2 vD+1=w2.length:=cC
def Nt:w2.filter full=w2:=cC
abbrev w3:List ByteArray:=[⟨#[116,97,107,101]⟩,⟨#[48]⟩,⟨#[48]⟩,⟨#[48]⟩]
def Md:lQ vD 0 (gz l3 vD) l3=w3:=cC
def Me:gz l3 vD+1=w3.length:=cC
def Ns:w3.filter full=w3:=cC
abbrev w4:List ByteArray:=[⟨#[107,101,121]⟩,⟨#[55]⟩,⟨#[49]⟩,⟨#[57]⟩]
def Mb:lQ vD 0 (gz l4 vD) l4=w4:=cC
def Mc:gz l4 vD+1=w4.length:=cC
def Nr:w4.filter full=w4:=cC
abbrev w5:List ByteArray:=[⟨#[116,117,114,110]⟩,⟨#[49]⟩]
def L8:lQ vD 0 (gz l5 vD) l5=w5:=cC
def Ma:gz l5 vD+1=w5.length:=cC
def Nq:w5.filter full=w5:=cC
abbrev w6:List ByteArray:=[⟨#[119,114,111,116,101]⟩,⟨#[48]⟩]
def L4:lQ vD 0 (gz l6 vD) l6=w6:=cC
def L7:gz l6 vD+1=w6.length:=cC
def Np:w6.filter full=w6:=cC
end Sc
def Kc(b:Nat)(w:aw)(h0:w.cell? ⟨b,0,I⟩=Z (aq (Z ⟨b,0,I⟩))):aF af 134 #[aq (Z ⟨b,0,I⟩)] w λe w'=>e=av (aB #[])/\w'=w:=by
 have a:(af.info? 178).map (·.size)=Z 2:=cC;obtain⟨j,c,_⟩:=Option.map_eq_some_iff.1 a;have d:∀W:aw,(binOp .neq 176 (aq (Z ⟨b,0,I⟩)) (aq (Z ⟨b,0,I⟩))).run af W=.ok (ai false) W:=λW=>Lib.run_neq_ptr_same W _ underlying176 c;go_enter func134,ntmps134;go_wp2_with fail;refine dq (bT results134 _ _ _) rfl ?_;exact⟨rfl,rfl⟩
def GQ(b:Nat)(v:Value)(w:aw)(c:aK w b 178 #[aq I,v]):aF af 134 #[aq (Z ⟨b,0,I⟩)] w λe w'=>e=av (aB #[])/\w'=w.setCell ⟨b,0,I⟩ (aq (Z ⟨b,0,I⟩)):=by
 have g:(af.info? 178).map (·.size)=Z 2:=cC;obtain⟨j,f,d⟩:=Option.map_eq_some_iff.1 g;have h0:=c.cell 0;have f0:=c.frozen 0;simp at h0;have a:w.shape? b=Z (178,2):=by unfold World.shape?;rw[show w.heap[b]? = _ from c];rfl
 go_enter func134,ntmps134;go_wp2_with fail;rw[Lib.run_to_unsafe w ⟨b,0,I⟩ underlying176 underlying365 f (by rw[d];decide) a (Nat.zero_lt_succ 1)];simp only[Result.andThen];rw[Oper.upon_value];go_wp2_with fail;rw[run_callFunc_extern func199 cC cC cC (e:=Extern.AbiNoEscape.same) cC];rw[Lib.run_noEscape];simp only[Result.andThen];rw[Oper.upon_value];go_wp2_with fail;rw[Lib.run_from_unsafe w ⟨b,0,I⟩ underlying365 underlying176 f a cC];simp only[Result.andThen];rw[Oper.upon_value];go_wp2_with fail;refine dq (bT results134 _ _ _) rfl ?_;exact⟨rfl,rfl⟩
end Go.Proofs.YtkfblammcilfhaaGreatDoor
