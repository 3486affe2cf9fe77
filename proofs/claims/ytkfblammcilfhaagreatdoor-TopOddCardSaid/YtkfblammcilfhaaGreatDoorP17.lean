import Derived.Test.YtkfblammcilfhaaGreatDoorP15
import Derived.Test.YtkfblammcilfhaaGreatDoorP16
set_option linter.all false
set_option maxRecDepth 100000
set_option maxHeartbeats 100000000
open Go.ChangeShapes Go.WideShapes Go.ChangeAt Go.RowKit Go.Proofs.Tryz
open Go.Proofs.Tryz renaming prog->af
open Go renaming World->aw,Calls->aF,bodyPost_end->dq,results_none->bT,bodyPost_ret->ax,results->aV,info_parts->cY,results_tmp2->ew,wp_region_held_drew->fC,yieldsIf_load_mid->eS,wpAnyH_ready->cH,wpAnyH_done->gV
open Go.Instr renaming lookup->cD,mapUpdate->eF
open Nat renaming le_refl->aj,le_succ->cZ,zero_add->cO,le_trans->aP,le_of_lt->lN
open Go.RowKit.Below renaming refl->ao,setCell->gT
open Option renaming isSome_iff_exists->dw,none->I,some->Z
open List renaming foldl_cons->eN,mem_map->eU,length_map->gP,map_map->qC,take_length->cT,getElem?_eq_getElem->ay,getElem_mem->dy,getElem?_map->dE,getElem?_toArray->iC,length_append->cG,length->pN,mem_append->bt
open Go.Value renaming int->J,slice->ae,bool->ai,pointer->aq,tuple->aB,agg->cg
open Function renaming comp_def->sG
open Go.IntKind renaming i64->V,u32->ar,u16->aN,u8->bI
open Go.RowKit renaming intOf->bS,Below->iQ
open And renaming intro->dj
open Go.Act renaming put->aA
open Go.AllReadyH renaming cons->bH,nil->cy
open Go.Ending renaming returned->av
namespace Go.Proofs.YtkfblammcilfhaaGreatDoor
theorem pqq{α:Type}:(∀{xs:List α} {i:Nat} (h:i<xs.toArray.size),xs.toArray[i]=xs[i]'(by simpa using h))/\(∀{a:α} {xs:List α} (h:0<(a::xs).length),(a::xs)[0]=a)/\(∀{a:α} {xs:List α} {i:Nat} (h:i+1<(a::xs).length),(a::xs)[i+1]=xs[i]'(by simpa using h))/\(∀(l:List α) (i:Nat) (a:α),l.toArray.setIfInBounds i a=(l.set i a).toArray)/\(∀{x:α} {xs:List α} {a:α},(x::xs).set 0 a=a::xs)/\(∀{x:α} {xs:List α} {n:Nat} {a:α},(x::xs).set (n+1) a=x::xs.set n a):=by refine⟨?_,?_,?_,?_,?_,?_⟩<;>intros<;>simp
section
theorem BZ:af.underlying 51=Z (.map KW.k 4):=underlying51
theorem Qe(w:aw):(zeroValue 4).run af w=.ok (ai false) w:=cC
theorem BU{R:M.Room}{x:M.eK}(h:x∈R.dF):(0<=x.1/\x.1<=4)/\(0<=x.2/\x.2<6):=by
 rcases(M.mA R x).1 h with rfl|rfl | ⟨h1,h2,_⟩
 ·exact⟨dt,dt⟩
 ·exact⟨dt,dt⟩
 ·refine⟨z,?_⟩;simp[M.gF]at h2;omega
section
variable {B:RB} {R:M.Room} {N:Nat} {w:aw} (h:aL w B R N)
include h
theorem aL.Eb(x:M.eK)(a:Gi x):(cD 51 (.map (Z B.ret)) (pv x) false).run af w=.ok (ai (decide (x∈R.returned))) w:=by
 have hm:gE KW w B.ret R.returned (λ_=>ai true):=h.part .ret;have b:gA KW w B.ret (λy=>if y∈R.returned then Z (ai true) else I) R.returned.length:=⟨_,_,hm,λy=>(by by_cases e:y∈R.returned<;>simp[e]),aj _⟩;refine(b.sW Nc BZ x a (Qe w)).trans ?_;by_cases e:x∈R.returned<;>simp[e]
theorem Li(x:M.eK)(hN:N<1000000):aF af 63 #[aq (Z ⟨B.g,0,I⟩),cg #[J V x.1,J V x.2]] w λe w'=>e=av (ai (R.may x))/\aC w w':=by
 have H0:=au h;obtain⟨res,j⟩:=dH (R.may x);rw[<-j];have b:=au j;clear h j;go_enter func63,ntmps63;go_upto_region 1 with fail;obtain⟨K,u⟩:=dH w.heap.size;rw[<-u];have k:aC w (w.alloc (.cells #[J V x.1,J V x.2] 40)):=(ao _ w).alloc (aj _) _;refine aW (λX=>aK X K 40 #[J V x.1,J V x.2]/\aL X B R N/\aC w X) ⟨aK.newAt _ _ _ _ u,H0.O.below k,k⟩ ?_;clear u k H0;rintro X ⟨b3,h,k⟩;have o:=b3.cell 0;have y:=b3.cell 1;simp at o y;obtain⟨P,H,Q,d⟩:=cA (h.below (eW (ao X.drew.heap.size X.drew))) h b3 k;clear h b3 k;go_cut [11] (λv wc=>v=ai (!decide (x∈R.dF))/\aK wc K 40 #[J V x.1,J V x.2]/\aL wc B R N/\aC w wc);case first =>
  go_region_held3 (λW=>W.cell? ⟨K,0,I⟩=Z (J V x.1)/\W.cell? ⟨K,1,I⟩=Z (J V x.2)) (first|(with_reducible exact⟨cE o,cE y⟩)|(with_reducible exact⟨d0,d1⟩)|(with_reducible exact⟨i0,i1⟩)) (first
   |(go_at_call 74;refine(vY P.O).mono ?_;rintro e w4 ⟨⟨A,m,c,rfl,SH,p,r⟩,b4⟩;have n:aC X w4:=(by with_reducible exact eW b4);have d0:=aM n o;have d1:=aM n y;have a:=au n;have SI:=au r;clear b4 n r)
   |(go_at_call 109;refine(yW A m c R.dF x w4 SI.O SH p).mono ?_;rintro e w5 ⟨rfl,b5⟩;have i0:=aM b5 d0;have i1:=aM b5 d1;have D:=au b5;clear b5))
  all_goals
   go_wp2_with fail;go_meet;have S:=a.O.trans (D.O.mono a.O.size);exact⟨rfl,Q.O.kept S,H.O.below S,d.O.trans (S.mono d.O.size)⟩
 case rest =>
  obtain⟨rfl,b3,h,k⟩:=hcut;clear H P Q d o y;by_cases hw:x∈R.dF;rotate_left
  ·have T:decide (x∈R.dF)=false:=decide_eq_false hw;have hr:res=false:=by rw[b.O];unfold M.Room.may;simp[hw]
   have d:=au k;clear b b3 h k hw;rw[T];subst hr;go_wp2_with fail;go_ret;exact⟨rfl,d.O⟩
  have T:decide (x∈R.dF)=true:=decide_eq_true hw;rw[T];obtain⟨SV,SW⟩:=BU hw;have hr:res=if R.cN then !decide (x∈R.returned) else if x.1=0 then decide (0<R.dm.length) else if x.1=1 then R.ready.isSome else match R.aD x.2 with | none=>false | some l=>if x.1=2 then l.nO R.dA.aG else if x.1=3 then decide (0<l.bF.length) else decide (0<l.ready.length):=by
   rw[b.O];unfold M.Room.may;rw[T];rfl
  obtain⟨HR,d,HW⟩:=bU hr k hw;have c2:=h.cw.cell 7;have o:=b3.cell 0;have y:=b3.cell 1;simp at c2 o y;clear hr k b hw T;cases p:R.cN with
  |true =>
   rw[p]at c2;have c3:=h.cw.cell 8;simp at c3;have hk:=λW (r:aL W B R N)=>r.Eb x (ir ⟨z,z⟩ ⟨z,z⟩);have SX:=hk _ h;have SY:=hk _ (h.below (eW (ao wc.drew.heap.size wc.drew)));have HC:=au p;clear p hk b3 h;go_wp2_with fail;go_region;all_goals
    go_wp2_with fail;go_ret;exact⟨by rw[HR.O,HC.O];rfl,cd d.O 1⟩
  |false =>
   rw[p]at c2;have hr:=HR.O;rw[p]at hr;simp only[Bool.false_eq_true,if_false]at hr;have f:=au hr;clear HR hr;by_cases s:x.1=0
   ·have hr:=f.O;rw[if_pos s]at hr;have i:=au hr;have SJ:=h.cw.cell 10;simp at SJ;rw[s]at o;have hq:=h.Qb;obtain⟨q,U,Y⟩:=hq;have aI:=Y.length;obtain⟨HQ,SK⟩:=bu (BI B.qg B.qp R.dA.aG q wc U) aI;clear h b3 U Y aI hr f p s;go_wp2_with (go_at_call 73;refine HQ.O.mono ?_;rw[SK.O];rintro e w9 ⟨rfl,e9⟩;subst e9);go_ret;exact⟨by rw[i.O];first|rfl|simp,d.O⟩
   ·have d0:(x.1==0)=false:=by simpa using s
    by_cases C:x.1=1
    ·have hr:=f.O;rw[if_neg s,if_pos C]at hr;have i:=au hr;rw[C]at o;have SL:=au (zj h hN);clear h b3 hr f p s C d0;go_wp2_with (go_at_call 110;refine SL.O.mono ?_;rintro e w9 ⟨rfl,b9⟩;have df:=au b9;clear b9);go_ret;exact⟨by rw[i.O];rfl,(d.O.trans (df.O.mono d.O.size)).alloc (by have:=d.O.size;have:=df.O.size;omega) _⟩
    ·have d1:(x.1==1)=false:=by simpa using C
     have hl:∃l,R.aD x.2=Z l:=by
      rcases(M.mA R x).1 HW.O with e|e | ⟨_,_,e⟩
      ·rw[e]at s;exact absurd rfl s
      ·rw[e]at C;exact absurd rfl C
      ·exact dw.1 e
     obtain⟨l,hl⟩:=hl;obtain⟨L,hL,hA⟩:=h.jq hl;have hr:=f.O;rw[if_neg s,if_neg C,hl]at hr;simp only at hr;have i:=au hr;have E:=h.cw.cell 12;simp at E;have SM:(Lit.int V x.2).wf=true:=Ig z z;have t:∀W,aL W B R N->(cD 54 (.map (Z B.lm)) (J V x.2) false).run af W=.ok (aq (Z ⟨L.g,0,I⟩)) W:=λW r=>by
      have SQ:=r.kW x.2 SM;rw[hL]at SQ;exact SQ
     have SU:=t _ h;have eI:=t _ (h.below (eW (ao wc.drew.heap.size wc.drew)));obtain⟨gX,HH,SN⟩:=bU t h (λW=>xf x.1 x.2 W);have F:∀W,ca W L R.dA.aG R.dA.aT l N->aF af 111 #[aq (Z ⟨L.g,0,I⟩),J V (if x.1=2 then 1 else if x.1=3 then 2 else 3)] W λe w'=>e=av (ai res)/\aC W w':=λW r=>by
      rw[i.O];by_cases e2:x.1=2
      ·rw[if_pos e2,if_pos e2];exact Bp L R.dA.aG R.dA.aT l N W r
      ·rw[if_neg e2,if_neg e2];by_cases u:x.1=3
       ·rw[if_pos u,if_pos u];exact Bo L R.dA.aG R.dA.aT l N W r
       ·rw[if_neg u,if_neg u];exact xu L R.dA.aG R.dA.aT l N W r
     obtain⟨sg,G⟩:=dH (if x.1=2 then(1:Int) else if x.1=3 then 2 else 3);rw[<-G]at F;have mK:∀W:aw,aF af 112 #[cg #[J V x.1,J V x.2]] W λe w'=>e=av (J V sg)/\aC W w':=λW=>by rw[G];exact xf x.1 x.2 W
     have SO:=au mK;have SG:=au F;have SP:=au hA;clear F mK G hr f i SN t hA hL hl h b3 p s C;go_wp2_with fail;go_region_held3 (λW=>W.cell? ⟨K,0,I⟩=Z (J V x.1)/\W.cell? ⟨K,1,I⟩=Z (J V x.2)/\W.cell? ⟨B.g,12,I⟩=Z (.map (Z B.lm))/\(cD 54 (.map (Z B.lm)) (J V x.2) false).run af W=.ok (aq (Z ⟨L.g,0,I⟩)) W) (first|(with_reducible exact⟨cE o,cE y,cE E,eI⟩)|(with_reducible exact⟨i0,i1,i2,i3⟩)|(with_reducible exact⟨j0,j1,j2,j3⟩)) (first
      |(go_at_call 112;refine(SO.O _).mono ?_;rintro e w4 ⟨rfl,b4⟩;have n:aC wc w4:=(by with_reducible exact eW b4);have i0:=aM n o;have i1:=aM n y;have i2:=aM n E;have i3:=gX.O w4 (HH.O.below n);have a:=au n;clear b4 n)
      |(go_at_call 111;refine(SG.O w4 (SP.O.below a.O)).mono ?_;rintro e w5 ⟨rfl,b5⟩;have j0:=aM b5 i0;have j1:=aM b5 i1;have j2:=aM b5 i2;have j3:=gX.O w5 ((HH.O.below a.O).below b5);have D:=au b5;clear b5))
     all_goals
      go_wp2_with fail;go_ret;have S:=a.O.trans (D.O.mono a.O.size);exact⟨rfl,d.O.trans (S.mono d.O.size)⟩
end
end
section
def Holds(R:M.Room):Prop:=∀o st,R.az o=Z st->∀y∈st.bQ.bD,y.id<=1000000
abbrev yD(s:Int)(r:M.Room)(id:Nat):M.Room:=r.bR s id 8
abbrev AY(id:Nat)(r:M.Room)(s:Int):M.Room:=r.bR s id 8
abbrev xS(r:M.Room)(id:Nat):M.Room:=M.gF.foldl (AY id) r
theorem zg(r:M.Room)(s:Int)(id:Nat)(f:Int):(r.bR s id f).az=r.az:=by rw[sV]
theorem po{α β c:Type}(g:β->c)(f:β->α->β)(b:∀r a,g (f r a)=g r):∀(l:List α) (r:β),g (l.foldl f r)=g r
 |[],r=>rfl
 |a::l,r=>by rw[eN,po g f b l,b]
theorem Am(r:M.Room)(id:Nat):(xS r id).az=r.az:=po M.Room.az (AY id) (λr s=>zg r s id 8) _ _
theorem drain_eq(R:M.Room)(o:M.bN)(s:M.eu)(h:R.az o=Z s):R.cP o=(s.bQ.bD.map (·.id)).foldl xS { R with az:=M.set R.az o (Z { s with bQ:=M.mf.iu s.bQ.bD.length s.bQ }) }:=by
 unfold M.Room.cP;rw[h]
theorem vx(R:M.Room)(o:M.bN)(s:M.eu)(h:R.az o=Z s):(R.cP o).az=M.set R.az o (Z { s with bQ:=M.mf.iu s.bQ.bD.length s.bQ }):=by
 rw[drain_eq R o s h];exact po M.Room.az xS Am _ _
theorem rh(R:M.Room)(o:M.bN)(h:R.az o=I):R.cP o=R:=by unfold M.Room.cP;rw[h]
theorem zR(R:M.Room)(o a:M.bN):((R.cP o).az a).isSome=(R.az a).isSome:=by
 cases h:R.az o with
 |none=>rw[rh R o h]
 |some s =>
  rw[vx R o s h];unfold M.set;split
  ·rename_i e;subst e;rw[h];rfl
  ·rfl
theorem Ex{R:M.Room}(h:Holds R)(o:M.bN):Holds (R.cP o):=by
 cases a:R.az o with
 |none=>rw[rh R o a];exact h
 |some s =>
  intro b FH q y hy;rw[vx R o s a]at q;unfold M.set at q;split at q
  ·cases q;have hy:y∈(M.mf.iu s.bQ.bD.length s.bQ).bD:=hy;rw[ua s.bQ _ (aj _),List.drop_length]at hy;cases hy
  ·exact h b FH q y hy
theorem wL:∀(l:List M.bN) (R:M.Room) (p:M.bN->Bool),(∀o,p o=(R.az o).isSome)->l.foldl M.Room.cP R=(l.filter p).foldl M.Room.cP R
 |[],R,p,hp=>rfl
 |o::l,R,p,hp=>by
  rw[eN,List.filter_cons];have a:=wL l (R.cP o) p (λb=>by rw[hp,zR]);rw[a,hp o];cases h:R.az o with
  |none=>rw[rh R o h];rfl
  |some s=>simp
theorem J9(R:M.Room):M.eX.foldl M.Room.cP R=(ei R 9).foldl M.Room.cP R:=by
 unfold ei;rw[List.take_of_length_le (aR:M.eX.length<=9)];exact wL _ R _ λ_=>rfl
theorem Ew(l:List M.bN)(R:M.Room)(b:Holds R):Holds (l.foldl M.Room.cP R)/\∀o,((l.foldl M.Room.cP R).az o).isSome=(R.az o).isSome:=by
 induction l generalizing R with
 |nil=>exact⟨b,λ_=>rfl⟩
 |cons a l c =>
  obtain⟨h1,h2⟩:=c (R.cP a) (Ex b a);exact⟨h1,λo=>by rw[eN,h2,zR]⟩
theorem J7(R:M.Room)(w:M.eK):(M.jd R w).returned=R.returned:=by
 have a:∀(l:List Nat) (s:Int) (r:M.Room),(r.fI s l).returned=r.returned:=λl s r=>po M.Room.returned (yD s) (λr id=>by show(r.bR s id 8).returned=_;rw[sV]) l r;have c:∀(r:M.Room) (o:M.bN),(r.cP o).returned=r.returned:=λr o=>by
  cases b:r.az o with
  |none=>rw[rh r o b]
  |some s =>
   rw[drain_eq r o s b];exact po M.Room.returned xS (λr id=>po M.Room.returned (AY id) (λr s=>by show(r.bR s id 8).returned=_;rw[sV]) _ _) _ _
 unfold M.jd;split
 ·rfl
 ·split
  ·exact po M.Room.returned M.Room.cP c _ _
  ·split
   ·rfl
   ·split
    ·exact a _ _ _
    ·split
     ·exact a _ _ _
     ·exact a _ _ _
theorem Hr{B:RB}{o:M.bN}{S S':SB}(b:B.sb o=Z S)(c:∀i,S'.own i->S.own i):∀i,({ B with sb:=M.set B.sb o (Z S') }:RB).all i->B.all i:=by
 rintro i ⟨X,a⟩;cases X with
 |fO t =>
  obtain⟨K,q,a⟩:=a;have q:M.set B.sb o (Z S') t=Z K:=q;unfold M.set at q;split at q
  ·rename_i e;cases q;subst e;exact⟨.fO t,S,b,c i a⟩
  ·exact⟨.fO t,K,q,a⟩
 |aG=>exact⟨.aG,a⟩
 |di=>exact⟨.di,a⟩
 |ret=>exact⟨.ret,a⟩
 |dm=>exact⟨.dm,a⟩
 |table=>exact⟨.table,a⟩
 |aD=>exact⟨.aD,a⟩
 |az=>exact⟨.az,a⟩
 |fo t=>exact⟨.fo t,a⟩
 |aO=>exact⟨.aO,a⟩
 |cj=>exact⟨.cj,a⟩
theorem aK.OB{w w':aw}{g:Nat}{t:TypeId}{cs:Array Value}{B B':RB}(h:aK w g t cs)(k:fK w w' B B')(hg:∀i,B.all i->i≠g):aK w' g t cs:=h.dW k.fr.u (λq=>hg g q rfl)
section
variable {B:RB} {R:M.Room} {N:Nat} {w:aw} (h:aL w B R N)
include h
theorem aL.Lm{w':aw}{l:List M.eK}(f:Fr (One B.ret) w w')(a:gE KW w' B.ret l (λ_=>ai true)):aL w' B { R with returned:=l } N/\fK w w' B B:=by
 refine h.yZ .ret (f.mono λi _ q=>q) a rfl ?_ (λY i b=>.inl b) { h.et with };intro Y c k;cases Y with
 |ret=>exact absurd rfl c
 |_=>exact k
theorem aL.ND(x:M.eK)(a:Gi x)(b:x∉R.returned)(hlen:R.returned.length<=1000):∃w',(eF 51 (.map (Z B.ret)) (pv x) (ai true)).run af w=.ok () w'/\aL w' B { R with returned:=R.returned++[x] } N/\fK w w' B B:=by
 have hm:gE KW w B.ret R.returned (λ_=>ai true):=h.part .ret;obtain⟨w',h1,h2,h3⟩:=hm.Ci w Nc BZ B.ret R.returned _ ui x (ai true) b a;have c:=h.Lm (Fr.jT h3 (λi d=>by cases d;exact yP hm)) (h2.congr (λy _=>dt));exact⟨w',h1,c⟩
end
theorem Fit.On{α:Type}{P:α->List Value->Prop}{xs:List α}{cs:List (List Value)}(h:Fit P xs cs){Q:α->Prop}(a:∀x c,P x c->Q x):∀x∈xs,Q x:=λx b=>by
 obtain⟨i,d⟩:=List.getElem?_of_mem b;obtain⟨c,_,e⟩:=h.get d;exact a x c e
theorem LY(L:LB)(aG:Nat)(aT:Int)(l:M.dP)(N:Nat)(w:aw)(h:ca w L aG aT l N)(st:Int)(k:2<=st) :
  ∃(ids:List Nat) (l1:M.dP),(∀(R:M.Room) (s:Int),R.aD s=Z l->M.jd R (st,s)=ids.foldl (yD s) { R with aD:=M.set R.aD s (Z l1) })/\(∀id∈ids,id<=1000000)/\ids.length<=1000000 /\
   ∀W,ca W L aG aT l N->aF af 118 #[aq (Z ⟨L.g,0,I⟩),J V (if st=2 then 1 else if st=3 then 2 else 3)] W λr w'=>∃v,r=av v/\w'.ownsRow W.heap.size 3 1 v ids.length ((ids.map λx=>((x:Nat):Int)).map (J V))/\ca w' L aG aT l1 N/\Fr L.own W w':=by
 have n0:¬st=0:=z;have n1:¬st=1:=z;by_cases a:st=2
 ·refine⟨l.cK.map M.Item.id,{ l with cK:=[] },λR s b=>?_,?_,?_,λW d=>?_⟩
  ·unfold M.jd;simp only[n0,n1,a,if_false,if_true,b];rfl
  ·obtain⟨q,hR,hF⟩:=h.cK;intro id hid;obtain⟨x,e,rfl⟩:=eU.1 hid;exact hF.On (Q:=λx=>x.id<=1000000) (by rintro x c ⟨_,_,_,_,_,f,_⟩;exact f) x e
  ·obtain⟨q,hR,hF⟩:=h.cK;have:=hR.le;have:=hR.aT;have:=hF.length;rw[gP];omega
  ·have i:=yi L aG aT l N W d;rw[if_pos a];simpa[qC,sG]using i
 ·by_cases j:st=3
  ·refine⟨l.bF.map (λy=>y.1.id),{ l with bF:=[] },λR s b=>?_,?_,?_,λW d=>?_⟩
   ·unfold M.jd;simp only[n0,n1,a,j,if_false,if_true,b];rfl
   ·obtain⟨q,hR,hF⟩:=h.bF;intro id hid;obtain⟨x,e,rfl⟩:=eU.1 hid;exact hF.On (Q:=λx=>x.1.id<=1000000) (by rintro x c ⟨_,_,_,_,_,f,_⟩;exact f) x e
   ·obtain⟨q,hR,hF⟩:=h.bF;have:=hR.le;have:=hR.aT;have:=hF.length;rw[gP];omega
   ·have i:=yg L aG aT l N W d;rw[if_neg a,if_pos j];simpa[qC,sG]using i
  ·refine⟨l.ready.map Prod.fst,{ l with ready:=[] },λR s b=>?_,?_,?_,λW d=>?_⟩
   ·unfold M.jd;simp only[n0,n1,a,j,if_false,if_true,b];rfl
   ·obtain⟨q,hR,hF⟩:=h.ready;intro id hid;obtain⟨x,e,rfl⟩:=eU.1 hid;exact hF.On (Q:=λx=>x.1<=1000000) (by rintro x c ⟨_,_,_,_,f⟩;exact f) x e
   ·obtain⟨q,hR,hF⟩:=h.ready;have:=hR.le;have:=hR.aT;have:=hF.length;rw[gP];omega
   ·have i:=ye L aG aT l N W d;rw[if_neg a,if_neg j];simpa[qC,sG]using i
end
section
section
variable {B:RB} {R:M.Room} {N:Nat} {w:aw} (h:aL w B R N)
include h
theorem Lj(st s:Int)(a:Bool)(SK:0<=st/\st<=4)(hs:0<=s/\s<6)(TX:2<=st->(R.aD s).isSome=true)(SN:(st,s)∉R.returned)(hlen:R.returned.length<=1000)(hH:Holds R)(hN:N<900000) :
  aF af 65 #[aq (Z ⟨B.g,0,I⟩),cg #[J V st,J V s],ai a] w λe w'=>∃B',e=av (aB #[])/\aL w' B' (R.ku (st,s)) (N+9)/\fK w w' B B':=by
 rw[M.rf];obtain⟨R1,Ti⟩:=dH (M.jd R (st,s));rw[<-Ti];have Tp:R1.returned=R.returned:=by rw[Ti];exact J7 R _
 rw[<-Tp]at SN hlen;obtain⟨SO,Tq,Tw,TY,H0⟩:=gY Ti SN TX hH h;have T8:=h.lt;clear h Ti Tp SN TX hH;go_enter func65,ntmps65;go_upto_region 1 with fail;obtain⟨r4,e4⟩:=dH w.heap.size;rw[<-e4];have al:aC w (w.alloc (.cells #[J V st,J V s] 40)):=(ao _ w).alloc (aj _) _;refine aW (λX=>aK X r4 40 #[J V st,J V s]/\aL X B R N/\fK w X B B) ⟨aK.newAt _ _ _ _ e4,H0.O.below al,fK.fN B al⟩ ?_;have T9:∀i,B.all i->i<r4:=λi t=>by have:=T8 i t;omega
 clear al H0 e4;rintro X ⟨b4,h,m⟩;have k0:=b4.cell 0;have k1:=b4.cell 1;simp at k0 k1;obtain⟨H,HS,d,SH⟩:=cA h m b4 T9;clear h m b4 T8 T9;go_upto_block 0 with fail;go_cut [] (λwc=>∃B',aL wc B' R1 (N+9)/\fK w wc B B'/\aK wc r4 40 #[J V st,J V s]);case first =>
  clear Tq;rcases(z:st=0\/st=1\/2<=st) with rfl|rfl|h2
  ·obtain⟨qq,Tj,Tx⟩:=H.O.Qb;have Ua:R.dm.length=qq.length:=Tx.length.symm;have UU:qq.length<=8:=by
    have:=Tj.le;have k:=H.O.et.dA;simp[M.jr]at k;omega
   have hl:=H.O.et.jw;have UD:=H.O.cw.cell 10;have Ub:=H.O.cw.cell 16;have f16:=H.O.cw.frozen 16;simp at UD Ub;obtain⟨C,UE,UF,Uc⟩:=cA (ES B.qg B.qp R.dA.aG qq X.drew (Tj.below (eW (ao X.drew.heap.size X.drew))) (λc hc=>by obtain⟨x,_,hx⟩:=Tx.mem c hc;obtain⟨b,rfl,_⟩:=hx;exact⟨_,_,_,rfl⟩)) Tj Ua H.O.Qo;have Ud:V.wrap (R.bp.jw+(qq.length:Int))=R.bp.jw+(qq.length:Int):=IntWalk.i64_in _ ⟨z,z⟩;clear Tj Tx Ua;go_upto_region 8 with fail;go_region_with (go_at_call 116;refine C.O.mono ?_;rintro e w9 ⟨v,rfl,own,hb,u⟩;have f9:=wJ (UE.O.below (eW (ao X.drew.heap.size X.drew))) u aR aR aR aR;have i16:=dD f9 Uc.O (cE Ub);have QM:=(H.O.cw.drew.dW f9.u Uc.O).frozen 16;obtain⟨A5,c5,rfl⟩:=bA own;have HB:=au hb;have HF:=au f9;clear own hb u f9);all_goals
    go_wp2_with fail;go_meet;have z1:=(H.O.below (eW (ao X.drew.heap.size X.drew))).vF (l:=[]) HF.O ⟨[],HB.O,trivial⟩;have hq:=UF.O;have z2:=(z1.1.mono (z:N<=N+9)).rq (cJ:=R.cJ) (cN:=R.cN) (bp:={ R.bp with jw:=R.bp.jw+R.dm.length }) ((Fr.refl (One B.g) _).setCell z1.1.cw (.inl rfl) aR aR 16 (J V (R.bp.jw+qq.length))) (by have e:=z1.1.cw.bC 16 (J V (R.bp.jw+qq.length));rw[hq];simpa using e) { (z1.1.et.mono (z:N<=N+9)) with jw:=by show 0<=R.bp.jw+(R.dm.length:Int)/\R.bp.jw+(R.dm.length:Int)<=((N+9:Nat):Int);omega };have T:=(fK.fN B (eW (ao X.drew.heap.size X.drew))).trans (z1.2.trans z2.2);refine⟨B,?_,HS.O.trans T,d.O.OB T (λi t=>by have:=SH.O i t;omega)⟩;have e:M.jd R (0,s)={ R with dm:=[],bp:={ R.bp with jw:=R.bp.jw+R.dm.length } }:=by unfold M.jd;rw[if_pos rfl]
    rw[SO.O,e];exact z2.1
  ·obtain⟨p,SP⟩:=dH (ei R 9);have Ty:=qw H.O;rw[<-SP]at Ty;have SQ:R1=p.foldl M.Room.cP R:=by rw[SO.O,SP,<-J9];unfold M.jd;rw[if_neg (by show¬((1:Int)=0);decide),if_pos rfl]
   have UW:p.length<=9:=by rw[SP];exact re R 9
   have Q:∀o∈p,(0<=o.1/\o.1<3)/\(0<=o.2/\o.2<3)/\(R.az o).isSome=true:=by rw[SP];exactλo ho=>rb R ho
   obtain⟨Ue,Tk,SL⟩:=bU Ty SQ Q;have UG:=d.O.lt;clear Ty SQ Q SP SO Tw;go_wp2_with (go_at_call 71;refine Ue.O.mono ?_;rintro e w2 ⟨v,rfl,own,b2⟩;obtain⟨A5,c5,rfl⟩:=bA own;have E:=au own;have F:=au b2;clear own b2);have HX:=au (show aL w2 B R N/\fK w w2 B B/\aK w2 r4 40 #[J V 1,J V s] from⟨H.O.below F.O,HS.O.trans (fK.fN B F.O),d.O.kept F.O⟩);clear k0 k1 H HS d Ue F;go_loopw [63] (λi wr=>∃(k:Nat) (Bk:RB),i=J V k/\k<=p.length/\aL wr Bk ((p.take k).foldl M.Room.cP R) N/\fK w wr B Bk/\(∀i,Bk.all i->i<r4)/\wr.ownsRow X.heap.size 91 2 (ae A5 p.length c5) p.length (p.flatMap zw)/\aK wr r4 40 #[J V 1,J V s]) (λi _=>p.length-(bS i).toNat);case atStart=>exact⟨0,B,rfl,z,HX.O.1,HX.O.2.1,SH.O,E.O,HX.O.2.2⟩
   case round =>
    clear HX E;obtain⟨k,Bk,rfl,hk,hR,m,Uf,own,b4⟩:=hrel;by_cases G:k<p.length;rotate_left
    ·have Tz:k=p.length:=z;subst Tz;rw[cT,<-Tk.O]at hR;obtain⟨H,HS,d⟩:=bU hR m b4;clear hR m own b4;go_wp2_with fail;go_meet;exact⟨Bk,H.O.mono z,HS.O,d.O⟩
    have Ud:((k:Int)<(p.length:Int)):=z;have r:p[k]? = Z p[k]:=ay G;have f:=M.lL M.Room.cP p k p[k] R r;obtain⟨UH,UI,SU⟩:=SL.O p[k] (dy G);obtain⟨TA,Ug⟩:=Ew (p.take k) R TY.O;rw[<-Ug]at SU;generalize p[k]=o at r f UH UI SU;clear Ug;generalize (p.take k).foldl M.Room.cP R=Rk at hR f TA SU;obtain⟨r5,rfl,UJ,_,Uh⟩:=wm own z;obtain⟨y0,y1⟩:=Uh k o r;obtain⟨st,SK⟩:=dw.1 SU;have Ui:=f.trans (drain_eq Rk o st SK);have Uj:=TA o st SK;obtain⟨H,HS,E,d,HF,Uk,P,TC⟩:=qh hR m own b4 Ui Uj Uf SK;clear hR m own b4 Ui Uj Uf SK f TA SU Uh r;go_upto_region 13 with fail;obtain⟨r7,e7⟩:=dH wr.heap.size;rw[<-e7];have al:aC wr (wr.alloc (.cells #[J V o.1,J V o.2] 91)):=(ao _ _).alloc (aj _) _;have g7:∀i,Bk.all i->i≠r7:=λi t=>by have:=P.O i t;have:=d.O.lt;omega
    refine aW (λY=>aK Y r7 91 #[J V o.1,J V o.2]/\aL Y Bk Rk N/\fK w Y B Bk/\Y.ownsRow X.heap.size 91 2 (ae (Z ⟨r5,0,I⟩) p.length c5) p.length (p.flatMap zw)/\aK Y r4 40 #[J V 1,J V s]) ⟨by simpa using aK.newAt _ _ _ _ e7,H.O.below al,HS.O.trans (fK.fN Bk al),gI E.O al,d.O.kept al⟩ ?_;have UK:=au g7;clear al e7 g7 y0 y1 H HS E d;rintro Y ⟨b7,hR,m,own,b4⟩;have hD:=hR.below (eW (ao Y.drew.heap.size Y.drew));obtain⟨S,TD,SV⟩:=hD.iB TC.O;have Ul:=m.g;have TE:=hR.cw.cell 13;have y0:=b7.cell 0;have y1:=b7.cell 1;have q0:Y.cell? ⟨S.g,0,I⟩=_:=SV.cw.cell 0;simp at TE y0 y1 q0;rw[Ul]at TE;have Um:(cD 55 (.map (Z Bk.sm)) (cg #[J V o.1,J V o.2]) false).run af Y.drew=.ok (aq (Z ⟨S.g,0,I⟩)) Y.drew:=by
     have SG:=hD.jU o (ir ⟨z,z⟩ ⟨z,z⟩);rw[TD]at SG;exact SG
    have UL:=SV.buf.small;obtain⟨C,H,HD,HS,E,d,TF,U⟩:=qh (Da S.b Rk.dA.eJ Rk.dA.cX st.bQ Y.drew SV.buf) hR hD m own b4 TD SV;clear hR hD m own b4 TD SV b7;have Tr:∀w9 B',gC w9 B' Rk.dA.eJ Rk.dA.cX (M.mf.iu st.bQ.bD.length st.bQ)->B'.g=S.b.g->cS S.b.own Y.drew w9->(∀i,B'.own i->S.b.own i) ->
      aL w9 { Bk with sb:=M.set Bk.sb o (Z ⟨S.g,B'⟩) } { Rk with az:=M.set Rk.az o (Z { st with bQ:=M.mf.iu st.bQ.bD.length st.bQ }) } N/\fK Y.drew w9 Bk { Bk with sb:=M.set Bk.sb o (Z ⟨S.g,B'⟩) }/\(∀i,({ Bk with sb:=M.set Bk.sb o (Z ⟨S.g,B'⟩) }:RB).all i->i<r4):=by
     intro w9 B' hB hg u aI;have f9:Fr S.own Y.drew w9:=Fr.jT (u.mono λi _ q=>.inr q) (λi t=>U.O.ni i t);have Un:gh w9 ⟨S.g,B'⟩ Rk.dA.eJ Rk.dA.cX { st with bQ:=M.mf.iu st.bQ.bD.length st.bQ } N:=by
      have hb:=U.O.cw.dW u (λq=>by
       have:=U.O.buf
       rcases q with q|q
       ·exact aK.jf U.O.cw this.cw aR q
       ·exact ej this.row U.O.cw aR q.symm)
      refine⟨?_,hB,U.O.uE,U.O.fH,U.O.gB⟩;have e:kI ⟨S.g,B'⟩ { st with bQ:=M.mf.iu st.bQ.bD.length st.bQ }=kI S st:=by simp[kI,hg]
      rw[e];exact hb
     have SG:=HD.O.nL TC.O TF.O f9 Un rfl (λi q=>.inl (q.imp id (aI i)));exact⟨SG.1,SG.2,λi t=>P.O i (Hr TF.O (S':=⟨S.g,B'⟩) (λi q=>q.imp id (aI i)) i t)⟩
    have SW:=au Tr;clear Tr;obtain⟨ids,df⟩:=dH (st.bQ.bD.map (·.id));obtain⟨Rd,Uo⟩:=dH ({ Rk with az:=M.set Rk.az o (Z { st with bQ:=M.mf.iu st.bQ.bD.length st.bQ }) }:M.Room);rw[<-Uo]at SW HF;have hlen:st.bQ.bD.length=ids.length:=by rw[df,gP]
    have Ts:st.bQ.bD.map (λh=>J V (h.id:Nat))=(ids.map λx=>((x:Nat):Int)).map (J V):=by rw[df,qC,qC];rfl
    have hid:∀id∈ids,id<=1000000:=by
     rw[df];intro id q;obtain⟨y,hy,rfl⟩:=eU.1 q;exact Uk.O y hy
    rw[<-df]at HF;rw[Ts]at C;have SX:=C.O;rw[hlen]at SX UL;obtain⟨C,TG⟩:=bu SX hid;have SI:=SW;rw[hlen]at SI;clear SX hlen Ts df hid Uo SW U TF TC Uk HD;go_cut [76,77,78] (λv n i wc=>n=J V ids.length/\i=J V 0/\wc.ownsRow Y.heap.size 3 1 v ids.length ((ids.map λx=>((x:Nat):Int)).map (J V))/\∃B',aL wc B' Rd N/\fK Y wc Bk B'/\(∀i,B'.all i->i<r4));case first =>
     go_region_with (go_at_call 117;refine C.O.mono ?_;rintro e w9 ⟨v,rfl,own,B',hB,hg,u,aI⟩;obtain⟨A6,c6,rfl⟩:=bA own;have HZ:=au (SI.out w9 B' hB hg u aI);have TH:=au own;clear own hB hg u aI);all_goals
      go_wp2_with fail;go_meet;exact⟨rfl,rfl,TH.O,_,HZ.O.1,(fK.fN Bk (eW (ao Y.drew.heap.size Y.drew))).trans HZ.O.2.1,HZ.O.2.2⟩
    case rest =>
     obtain⟨rfl,rfl,ky,B',hR,eI,Up⟩:=hcut;obtain⟨A6,c6,rfl⟩:=bA ky;have b4:=d.O.OB eI (λi t=>by have:=P.O i t;omega);have UX:=d.O.lt;have Uq:∀i,Bk.all i->i<X.heap.size:=λi t=>by have:=P.O i t;omega
     have own:=nh E.O eI.fr Uq;have m:=HS.O.trans eI;obtain⟨SM,D⟩:=dH (ids.map λx=>((x:Nat):Int));rw[<-D]at ky;obtain⟨TI,HL,H2,Ur,A,Us,F⟩:=lV D Up hR m ky own b4;clear own ky hR eI m b4 D Um TE y0 y1 q0 H HS C d SI Up Uq P UK Ul E;go_wp2_with fail;go_loopw [78] (λi wr=>∃j:Nat,i=J V j/\j<=ids.length/\aL wr B' ((ids.take j).foldl xS Rd) N/\fK w wr B B'/\wr.ownsRow X.heap.size 91 2 (ae (Z ⟨r5,0,I⟩) p.length c5) p.length (p.flatMap zw)/\wr.ownsRow Y.heap.size 3 1 (ae A6 ids.length c6) ids.length (SM.map (J V))/\aK wr r4 40 #[J V 1,J V s]) (λi _=>ids.length-(bS i).toNat);case atStart=>exact⟨0,rfl,z,H2.O,Ur.O,Us.O,A.O,F.O⟩
     case round =>
      clear H2 Ur A F Us;obtain⟨j,rfl,hj,hR,m,own,ky,b4⟩:=hrel;by_cases Ut:j<ids.length;rotate_left
      ·have UM:j=ids.length:=z;subst UM;rw[cT,<-HF.O]at hR;obtain⟨H,HS,d,E⟩:=cA hR m b4 own;clear hR m own b4 ky;go_wp2_with fail;go_roundw;case rel=>exact⟨k+1,B',by go_num,z,H.O,HS.O,HL.O,E.O,d.O⟩
       case measure=>simp[bS];omega
      have UY:((j:Int)<(ids.length:Int)):=z;have r:ids[j]? = Z ids[j]:=ay Ut;have f:=M.lL xS ids j ids[j] Rd r;have gX:=TG.O ids[j] (dy Ut);have hx:SM[j]? = Z ((ids[j]:Nat):Int):=by rw[TI.O,dE,r];rfl
      generalize ids[j]=id at r f gX hx;obtain⟨r6,rfl,z0,UT⟩:=uN ky hx;generalize (ids.take j).foldl xS Rd=Rj at hR f;obtain⟨UN,H,HS,E,A,d⟩:=lH f hR m own ky b4;clear f hR m own ky b4 hx r;go_wp2_with fail;go_loopw [82] (λi wr=>∃q:Nat,i=J V q/\q<=6/\aL wr B' ((M.gF.take q).foldl (AY id) Rj) N/\fK w wr B B'/\wr.ownsRow X.heap.size 91 2 (ae (Z ⟨r5,0,I⟩) p.length c5) p.length (p.flatMap zw)/\wr.ownsRow Y.heap.size 3 1 (ae (Z ⟨r6,0,I⟩) ids.length c6) ids.length (SM.map (J V))/\aK wr r4 40 #[J V 1,J V s]) (λi _=>6-(bS i).toNat);case atStart=>exact⟨0,rfl,z,H.O,HS.O,E.O,A.O,d.O⟩
      case round =>
       clear H HS E A d z0;obtain⟨q,rfl,hq,hR,m,own,ky,b4⟩:=hrel;by_cases UZ:q<6;rotate_left
       ·have UO:q=6:=z;subst UO;have hR:aL wr B' (xS Rj id) N:=hR;obtain⟨H,HS,E,A,d⟩:=gY hR m own ky b4;clear hR m own ky b4;go_wp2_with fail;go_roundw;case rel=>exact⟨j+1,by go_num,z,by rw[UN.O];exact H.O,HS.O,E.O,A.O,d.O⟩
        case measure=>simp[bS];omega
       have U0:((q:Int)<6):=z;have Uu:M.gF[q]? = Z ((q:Nat):Int):=by
        rcases(z:q=0\/q=1\/q=2\/q=3\/q=4\/q=5) with rfl|rfl|rfl|rfl|rfl|rfl<;>rfl
       have TJ:=M.lL (AY id) M.gF q _ Rj Uu;generalize (M.gF.take q).foldl (AY id) Rj=Rq at hR TJ;have c0:=hR.cw.cell 0;simp at c0;rw[m.g]at c0;have SY:=λW hW=>mz (w:=W) (B:=B') (R:=Rq) (N:=N) hW q id 8 ⟨z,z⟩ gX z z;obtain⟨TM,UP,H,HS,E,A,d⟩:=lV SY TJ hR m own ky b4;clear SY TJ hR m own ky b4 Uu;go_wp2_with (go_at_call 114;refine(TM.O _ H.O).mono ?_;rintro e w9 ⟨rfl,SZ,Ta⟩;have TN:=au SZ;have Tl:=au Ta;clear SZ Ta);go_roundw;case rel=>exact⟨q+1,by go_num,z,by rw[UP.O];exact TN.O,HS.O.trans Tl.O,nh E.O Tl.O.fr (λi t=>by have:=HL.O i t;omega),nh A.O Tl.O.fr (λi t=>by have:=HL.O i t;omega),d.O.OB Tl.O (λi t=>by have:=HL.O i t;omega)⟩
       case measure=>simp[bS];omega
  ·obtain⟨l,hl⟩:=dw.1 (Tw.O h2);obtain⟨L,hL,hA⟩:=H.O.jq hl;obtain⟨ids,l1,he,hid,U1,Uv⟩:=LY L R.dA.aG R.dA.aT l N X hA st h2;have SQ:=SO.O.trans (he R s hl);obtain⟨Tk,TG,C,SJ⟩:=cA SQ hid Uv (dj hl hL);have UQ:(Lit.int V s).wf=true:=Ig z z;have Tb:∀W R',aL W B R' N->(cD 54 (.map (Z B.lm)) (J V s) false).run af W=.ok (aq (Z ⟨L.g,0,I⟩)) W:=λW R' hW=>by
    have SG:=hW.kW s UQ;rw[SJ.O.2]at SG;exact SG
   have TO:=au Tb;have G:=Tb X.drew R (H.O.below (eW (ao _ _)));have Tm:=H.O.cw.cell 12;simp at Tm;have q0:(st==0)=false:=by simpa using(z:st≠0)
   have q1:(st==1)=false:=by simpa using(z:st≠1)
   have TP:=au (λW:aw=>xf st s W);clear hl hL hA he hid Uv SQ Tb SO Tw TY;obtain⟨sg,Uw⟩:=dH (if st=2 then 1 else if st=3 then 2 else 3:Int);rw[<-Uw]at C TP;clear Uw;go_upto_region 2 with fail;go_cut [26,27,28] (λv n i wc=>v.ownBlock=v.ownBlock/\n=J V ids.length/\i=J V 0/\wc.ownsRow X.heap.size 3 1 v ids.length ((ids.map λx=>((x:Nat):Int)).map (J V))/\aL wc B { R with aD:=M.set R.aD s (Z l1) } N/\fK X wc B B);case first =>
    go_region_held3 (λW=>W.cell? ⟨B.g,12,I⟩=Z (.map (Z B.lm))/\W.cell? ⟨r4,0,I⟩=Z (J V st)/\W.cell? ⟨r4,1,I⟩=Z (J V s)/\(cD 54 (.map (Z B.lm)) (J V s) false).run af W=.ok (aq (Z ⟨L.g,0,I⟩)) W) (first|(with_reducible exact⟨cE Tm,cE k0,cE k1,G⟩)|(with_reducible exact⟨d12,d0,d1,dl⟩)|(with_reducible exact⟨i12,i0,i1,il⟩)) (first
     |(go_at_call 112;refine(TP.O X.drew).mono ?_;rintro e w5 ⟨rfl,b5⟩;have bx:aC X w5:=(by with_reducible exact eW b5);have d12:=aM bx Tm;have d0:=aM bx k0;have d1:=aM bx k1;have dl:=TO.O w5 R (H.O.below bx);have Tn:=au bx;clear b5 bx)
     |(go_at_call 118;obtain⟨Lx,Ux,Uy⟩:=(H.O.below Tn.O).jq SJ.O.1;rw[SJ.O.2]at Ux;cases Ux;refine(C.O w5 Uy).mono ?_;rintro e w6 ⟨v,rfl,own,Uz,f6⟩;have SG:=(H.O.below Tn.O).qJ SJ.O.1 SJ.O.2 f6 Uz rfl (λi q=>.inl q);rw[qR B.lb s (Z L) SJ.O.2]at SG;have i12:=SG.1.cw.cell 12;simp at i12;have i0:=dD SG.2.fr (λq=>by have:=SH.O _ q;omega) d0;have i1:=dD SG.2.fr (λq=>by have:=SH.O _ q;omega) d1;have il:=TO.O _ _ SG.1;obtain⟨A5,c5,rfl⟩:=bA own;have E:=au own;have HZ:=au SG;clear own Uz f6 SG Uy))
    all_goals
     go_wp2_with fail;go_meet;exact⟨trivial,rfl,rfl,qS E.O Tn.O.size,HZ.O.1,(fK.fN B Tn.O).trans HZ.O.2⟩
   case rest =>
    obtain⟨_,rfl,rfl,own,hR,eI⟩:=hcut;obtain⟨A5,c5,rfl⟩:=bA own;have b4:=d.O.OB eI (λi t=>by have:=SH.O i t;omega);have UG:=d.O.lt;have m:=HS.O.trans eI;generalize ({ R with aD:=M.set R.aD s (Z l1) }:M.Room)=R2 at hR Tk;obtain⟨SM,D⟩:=dH (ids.map λx=>((x:Nat):Int));rw[<-D]at own;obtain⟨TI,H2,Tc,A,F⟩:=gY D hR m own b4;clear own hR eI m b4 D G Tm k0 k1 H HS C TO SJ TP d q0 q1;go_wp2_with fail;go_loopw [28] (λi wr=>∃k:Nat,i=J V k/\k<=ids.length/\aL wr B ((ids.take k).foldl (yD s) R2) N/\fK w wr B B/\wr.ownsRow X.heap.size 3 1 (ae A5 ids.length c5) ids.length (SM.map (J V))/\aK wr r4 40 #[J V st,J V s]) (λi _=>ids.length-(bS i).toNat);case atStart=>exact⟨0,rfl,z,H2.O,Tc.O,A.O,F.O⟩
    case round =>
     clear H2 Tc A F;obtain⟨k,rfl,hk,hR,m,own,b4⟩:=hrel;by_cases G:k<ids.length;rotate_left
     ·have Tz:k=ids.length:=z;subst Tz;rw[cT,<-Tk.O]at hR;obtain⟨H,HS,d⟩:=bU hR m b4;clear hR m own b4;go_wp2_with fail;go_meet;exact⟨B,H.O.mono z,HS.O,d.O⟩
     have Ud:((k:Int)<(ids.length:Int)):=z;have r:ids[k]? = Z ids[k]:=ay G;have f:=M.lL (yD s) ids k ids[k] R2 r;have gX:=TG.O ids[k] (dy G);have hx:SM[k]? = Z ((ids[k]:Nat):Int):=by rw[TI.O,dE,r];rfl
     generalize ids[k]=id at r f gX hx;obtain⟨r5,rfl,y0,UJ⟩:=uN own hx;have c0:=hR.cw.cell 0;have k1:=b4.cell 1;simp at c0 k1;generalize (ids.take k).foldl (yD s) R2=Rk at hR f;have SY:=λW hW=>mz (w:=W) (B:=B) (R:=Rk) (N:=N) hW s id 8 ⟨z,z⟩ gX z z;obtain⟨TM,HF,H,HS,E,d⟩:=lH SY f hR m own b4;clear SY f hR m own b4 hx r;go_wp2_with fail;go_region_with (go_at_call 114;refine(TM.O _ (H.O.below (eW (ao _ _)))).mono ?_;rintro e w9 ⟨rfl,SZ,Ta⟩);all_goals
      have T:=(fK.fN B (eW (ao wr.drew.heap.size wr.drew))).trans Ta;have Tt:∀i,B.all i->i<X.heap.size:=λi t=>by have:=SH.O i t;omega
      have O9:=nh E.O T.fr Tt;have B9:=d.O.OB T (λi t=>by have:=SH.O i t;omega);have S9:=HS.O.trans T;obtain⟨TN,UR,TH,Td⟩:=cA SZ S9 O9 B9;clear SZ Ta T O9 B9 S9 Tt;go_wp2_with fail;go_roundw;case rel=>exact⟨k+1,by go_num,z,by rw[HF.O];exact TN.O,UR.O,TH.O,Td.O⟩
      case measure=>simp[bS];omega
 case rest =>
  obtain⟨B',hR,m,b4⟩:=hcut;have hg:=m.g;have c8:=hR.cw.cell 8;have k0:=b4.cell 0;have k1:=b4.cell 1;simp at c8 k0 k1;rw[hg]at c8;have TQ:=λW=>Kx st s W SK;obtain⟨ah,mK⟩:=dH (M.ahead (st,s));rw[<-mK]at TQ;have gX:∀x,ah=Z x->Gi x:=by
   intro x q;rw[mK]at q;unfold M.ahead at q;simp only at q;split at q
   ·cases q
   ·split at q
    ·cases q;exact ir ⟨dt,dt⟩ ⟨dt,dt⟩
    ·split at q
     ·cases q;exact ir ⟨dt,dt⟩ ⟨dt,dt⟩
     ·cases q;exact ir ⟨by show _<=st-1;omega,by show st-1<=_;omega⟩ ⟨by show _<=s;omega,by show s<=_;omega⟩
  have UA:∀b:Bool,M.qz R1 (st,s)=b->M.back R1 (st,s)=if b then { R1 with returned:=R1.returned++[(st,s)] } else R1:=by
   intro b q;unfold M.back;rw[q]
  have UB:(ah=I->M.qz R1 (st,s)=true)/\∀x,ah=Z x->M.qz R1 (st,s)=decide (x∈R1.returned):=by
   constructor
   ·intro q;unfold M.qz;rw[<-mK,q]
   ·intro x q;unfold M.qz;rw[<-mK,q]
  obtain⟨TR,TS,P,To,H,Tc,HB⟩:=lV TQ gX UA UB hR m b4;clear TQ gX UA mK hR m b4 UB;have Tu:∀W,aL W B' R1 (N+9)->∃w',(eF 51 (.map (Z B'.ret)) (cg #[J V st,J V s]) (ai true)).run af W=.ok () w'/\aL w' B' { R1 with returned:=R1.returned++[(st,s)] } (N+9)/\fK W w' B' B':=λW hW =>
   hW.ND (st,s) (ir ⟨by show _<=st;omega,by show st<=_;omega⟩ ⟨by show _<=s;omega,by show s<=_;omega⟩) Tq.O hlen
  have Tv:=au Tu;clear Tu;obtain⟨x1,x2,hx⟩:∃x1 x2:Int,ah.getD (0,0)=(x1,x2):=⟨_,_,rfl⟩;obtain⟨ok,Q⟩:=dH ah.isSome;rw[hx,<-Q]at TR;obtain⟨TT,SL⟩:=bu hx Q;clear hx Q;go_upto_region 24 with(go_at_call 119;refine(TR.O _).mono ?_;rintro e w9 ⟨rfl,b9⟩;have Td:=au b9;clear b9)
  obtain⟨US,TV⟩:=dH w9.heap.size;rw[<-TV];have al:aC wc (w9.alloc (.cells #[J V x1,J V x2] 40)):=Td.O.alloc Td.O.size _;refine aW (λY=>aK Y US 40 #[J V x1,J V x2]/\aL Y B' R1 (N+9)/\fK w Y B B'/\aK Y r4 40 #[J V st,J V s]) ⟨by simpa using aK.newAt _ _ _ _ TV,H.O.below al,Tc.O.trans (fK.fN B' al),HB.O.kept al⟩ ?_;clear TV al H Tc HB Td TR c8 k0 k1 w9;rintro Y ⟨TW,hR,m,b4⟩;have c8:=hR.cw.cell 8;have k0:=b4.cell 0;have k1:=b4.cell 1;have z0:=TW.cell 0;have z1:=TW.cell 1;simp at c8 k0 k1 z0 z1;rw[hg]at c8;have hD:=hR.below (eW (ao Y.drew.heap.size Y.drew));obtain⟨U2,H,HS⟩:=bU (show aL Y.drew B' R1 (N+9)/\fK w Y.drew B B' from⟨hD,m.trans (fK.fN B' (eW (ao Y.drew.heap.size Y.drew)))⟩) hR m;clear hR m TW b4;cases ok with
  |false =>
   have e0:ah=I:=by have:=SL.O;cases ah<;>simp at this ⊢
   have hb:=P.O _ (To.O.1 e0);rw[if_pos rfl]at hb;have HE:=au hb;clear hb e0 P To SL TT TS hD;go_quiet (fail);obtain⟨wn,UC,Te,Tf⟩:=Tv.O _ (H.O.below (cd (ao Y.heap.size Y) (nq+1)));obtain⟨Tg,Th⟩:=bu Te (HS.O.trans ((fK.fN B' (cd (ao Y.heap.size Y) (nq+1))).trans Tf));clear Te Tf;go_wp2_with fail;go_region;all_goals
    go_wp2_with fail;first
     |refine dq (bT results65 _ _ _) rfl ?_
     |refine ax (v:=aB #[]) (by simp[aV,results65,go_sem]) rfl ?_
    have e:=HE.O;first|exact⟨B',rfl,by rw[e];exact Tg.O,Th.O⟩|exact⟨rfl,B',by rw[e];exact Tg.O,Th.O⟩
  |true =>
   have e0:ah=Z (x1,x2):=by
    have h1:=SL.O;have h2:=TT.O;cases ah with
    |none=>simp at h1
    |some y=>simp at h2;rw[h2]
   have hb:=P.O _ (To.O.2 _ e0);have Q:=TS.O _ e0;have G:∀n,(cD 51 (.map (Z B'.ret)) (cg #[J V x1,J V x2]) false).run af (Y.drewN n)=.ok (ai (decide ((x1,x2)∈R1.returned))) (Y.drewN n):=λn=>(H.O.below (cd (ao Y.heap.size Y) n)).Eb (x1,x2) Q;generalize decide ((x1,x2)∈R1.returned)=bb at hb G;have HE:=au hb;clear hb e0 P To SL TT TS hD Q;cases bb with
   |true =>
    go_quiet (fail);obtain⟨wn,UC,Te,Tf⟩:=Tv.O _ (H.O.below (cd (ao Y.heap.size Y) (nq+1)));obtain⟨Tg,Th⟩:=bu Te (HS.O.trans ((fK.fN B' (cd (ao Y.heap.size Y) (nq+1))).trans Tf));clear Te Tf;go_wp2_with fail;go_region;all_goals
     go_wp2_with fail;first
      |refine dq (bT results65 _ _ _) rfl ?_
      |refine ax (v:=aB #[]) (by simp[aV,results65,go_sem]) rfl ?_
     have e:=HE.O;first|exact⟨B',rfl,by rw[e];exact Tg.O,Th.O⟩|exact⟨rfl,B',by rw[e];exact Tg.O,Th.O⟩
   |false =>
    go_quiet (fail);go_wp2_with fail;first
     |refine dq (bT results65 _ _ _) rfl ?_
     |refine ax (v:=aB #[]) (by simp[aV,results65,go_sem]) rfl ?_
    have T:=HS.O.trans (fK.fN B' (cd (ao Y.heap.size Y) nq));have K:=H.O.below (cd (ao Y.heap.size Y) nq);have e:=HE.O;rw[if_neg dt]at e;first|exact⟨B',rfl,by rw[e];exact K,T⟩|exact⟨rfl,B',by rw[e];exact K,T⟩
end
end
section
theorem NF(R:M.Room)(b:M.cQ)(q:List M.cQ)(a:R.dm=b::q):R.read =
  if M.control b then Il { R with dm:=q } b else if(M.eP b).2≠0 then M.Room.count { R with dm:=q } (λc=>{ c with cI:=c.cI+1 })
  else match R.cW (M.eP b).1.bJ with | none=>M.Room.count { R with dm:=q } (λc=>{ c with gR:=c.gR+1 }) | some o=>M.Room.je { R with dm:=q } o (M.eP b).1:=by
 unfold M.Room.read;rw[a];rfl
section
variable {B:RB} {R:M.Room} {N:Nat} {w:aw} (h:aL w B R N)
include h
theorem Je(st s0:Int)(a:Bool)(b:M.cQ)(q:List M.cQ)(hq:R.dm=b::q)(hk:np R)(SK:∀s,R.di s R.aO.length=I)(SV:∀x o,R.cW x=Z o->(R.az o).isSome=true)
  (SW:∀o,(R.az o).isSome=true->(0<=o.1/\o.1<3)/\0<=o.2/\o.2<3) (hN:N<800000) :
  aF af 66 #[aq (Z ⟨B.g,0,I⟩),cg #[J V st,J V s0],ai a] w (kk B w (aB #[]) R.read (N+9)):=by
 obtain⟨res,k⟩:=dH R.read;rw[<-k];rw[NF R b q hq]at k;have u:=h.Qb;rw[hq]at u;obtain⟨SX,SH,HK,Tj,Tk,Tl,H0⟩:=lV u k hk SK SV SW h;clear h k hq u hk SK SV SW;go_enter func66,ntmps66;go_upto_region 1 with fail;have C:aC w (w.alloc (.cells #[J V st,J V s0] 40)):=(ao _ w).alloc (aj _) _;refine aW (λX=>aL X B R N/\wT X B.qg B.qp R.dA.aG (b::q)/\aC w X) ⟨H0.O.below C,SX.O.below C,C⟩ ?_;clear C H0 SX;rintro X ⟨h,u,C⟩;have SY:=h.cw.cell 10;simp at SY;obtain⟨HP,H,HA⟩:=bU (Of u) h C;clear h u C;go_upto_region 2 with(go_big_may;go_at_call 120;refine HP.O.mono ?_;rintro e w1 ⟨sl,rfl,hb,D,hD,f⟩;have HB:=au (dj hb D);have HD:=au (dj hD f);clear hb D hD f SY)
 obtain⟨d,E⟩:=dH ({ R with dm:=q }:M.Room);have A:=H.O.vF HD.O.2 HD.O.1;rw[<-E]at A;have SZ:np d:=by rw[E];exact⟨HK.O.iJ,HK.O.range,HK.O.sub⟩
 have k:=SH.O;rw[<-E]at k;have SL:d.cW=R.cW/\d.az=R.az/\d.di=R.di/\d.aO=R.aO/\d.bp=R.bp:=by rw[E];exact⟨rfl,rfl,rfl,rfl,rfl⟩
 rw[<-SL.1]at k;obtain⟨F,aI,Ta⟩:=bU SL k SZ;have Tb:=(fK.fN B HA.O).trans A.2;obtain⟨H1,SM⟩:=bu A.1 Tb;obtain⟨hb,D⟩:=HB.O;have df:=au (EE sl.a sl.n sl.c b w1 hb.tl);clear A E SZ k SL Tb SH HK H HA HD HP hb;obtain⟨ct,Tc⟩:=dH (M.control b);rw[<-Tc]at df aI;clear Tc;cases ct with
 |true =>
  have hr:res=Il d b:=aI.O;have eI:=au hr;clear hr;go_upto_region 3 with(go_big_may;go_at_call 121;refine df.O.mono ?_;rintro e w2 ⟨rfl,j,hj⟩;have bj:aC w1 w2:=(by rw[hj];exact cd (ao _ _) j);have m:=au bj;clear hj bj)
  have HT:=au (Jd (H1.O.below m.O) sl b (HB.O.1.below m.O) D Ta.O z);go_wp2_with (go_at_call 122;refine HT.O.mono ?_;rintro e w3 ⟨B',rfl,G,K⟩;have SN:=au G;have SO:=au K;clear G K);first
   |refine ax (bT results66 _ _ _) rfl ?_
   |refine dq (bT results66 _ _ _) rfl ?_
  exact⟨B',rfl,by rw[eI.O];exact SN.O.mono z,(SM.O.trans (fK.fN B m.O)).trans SO.O⟩
 |false =>
  have hr:res=if(M.eP b).2≠0 then M.Room.count d (λc=>{ c with cI:=c.cI+1 })
   else match d.cW (M.eP b).1.bJ with | none=>M.Room.count d (λc=>{ c with gR:=c.gR+1 }) | some o=>M.Room.je d o (M.eP b).1:=aI.O
  have SP:=λW (hW:TB W sl.a sl.n b)=>wF sl.a sl.n sl.c b W hW HB.O.1.zero z;generalize M.eP b=hd at hr SP;obtain⟨p,er⟩:=hd;obtain⟨Td,eI⟩:=bu SP hr;clear hr SP aI;go_upto_region 4 with(go_big_may;go_at_call 121;refine df.O.mono ?_;rintro e w2 ⟨rfl,j,hj⟩;have bj:aC w1 w2:=(by rw[hj];exact cd (ao _ _) j);have m:=au bj;clear hj bj)
  go_upto_region 5 with(go_big_may;go_at_call 16;refine(Td.O _ (HB.O.1.below m.O).tl).mono ?_;rintro e w3 ⟨⟨sp,ep,yp,rfl,l⟩,b3⟩;have L:=au l;have Te:=au b3;clear l b3)
  obtain⟨r8,e8⟩:=dH w3.heap.size;rw[<-e8];have bl:=m.O.trans (Te.O.mono m.O.size);have C:aC w1 (w3.alloc (.cells (uA p sp ep yp) 76)):=bl.alloc bl.size _;have n8:∀i,B.all i->i≠r8:=λi hi=>by have:=H1.O.lt i hi;have:=bl.size;omega
  have Ts:=au n8;refine aW (λY=>aK Y r8 76 (uA p sp ep yp)/\aL Y B d N/\iT Y p sp ep yp/\fK w Y B B) ⟨aK.newAt _ _ _ _ e8,H1.O.below C,L.O.below ((ao _ _).alloc (aj _) _),SM.O.trans (fK.fN B C)⟩ ?_;clear e8 bl C n8 H1 SM L Te m df Td HB D;rintro Y ⟨b8,h,l,hS⟩;obtain⟨H,HS,v,L⟩:=cA h hS b8 l;have n1:=h.et.cI;have n2:=h.et.gR;by_cases h0:er=0;rotate_left
  ·have SK:(er==0)=false:=by simpa using h0
   have hr:=eI.O;rw[if_pos h0]at hr;have P:=au hr;have Tm:=h.cw.cell 17;have f17:=h.cw.frozen 17;simp at Tm;clear hr h0 b8 h l hS;go_wp2_with fail;have A:=H.O.ri 17 (λc=>{ c with cI:=c.cI+1 }) (J V (d.bp.cI+1)) rfl { H.O.et.mono (cZ N) with cI:=by show 0<=d.bp.cI+1/\d.bp.cI+1<=((N+1:Nat):Int);omega };first
    |refine ax (bT results66 _ _ _) rfl ?_
    |refine dq (bT results66 _ _ _) rfl ?_
   exact⟨B,rfl,by rw[P.O];exact A.1.mono z,HS.O.trans A.2⟩
  subst h0;have hr:res=match d.cW p.bJ with | none=>M.Room.count d (λc=>{ c with gR:=c.gR+1 }) | some o=>M.Room.je d o p:=eI.O
  have Tn:=l.bJ;have To:(Lit.int ar p.bJ).wf=true:=Ca Tn;have hD:=h.below (eW (ao Y.drew.heap.size Y.drew));have Tf:=λW (hW:aL W B d N)=>MH B.t d.cW d.aQ d.bh N W (hW.part .table) p.bJ To;have gX:=h.cw.cell 11;have k4:=b8.cell 4;simp at gX k4;obtain⟨y,P⟩:=bu Tf hr;clear hr Tf hD b8 h l hS;generalize Q:d.cW p.bJ=of at y P;obtain⟨⟨T,U⟩,ho⟩:∃A:Int×Int,A=of.getD (0,0):=⟨_,rfl⟩;obtain⟨is,r⟩:=dH (of.isSome:Bool);rw[<-ho,<-r]at y;have y:Hd (∀W,aL W B d N->aF af 123 #[aq (Z ⟨B.t.g,0,I⟩),J ar p.bJ] W λe w'=>e=av (aB #[cg #[J V T,J V U],ai is])/\aC W w'):=y;have Tg:=au (dj Q (dj ho r));clear Q ho r;go_upto_region 7 with fail;go_cut [10,11] (λa b wc=>∃S,a=aq (Z ⟨S,0,I⟩)/\b=ai is/\aK wc S 91 #[J V T,J V U]/\aK wc r8 76 (uA p sp ep yp)/\aC Y wc);case first =>
   have hC:∀W,aC Y W->W.cell? ⟨B.g,11,I⟩=Z (aq (Z ⟨B.t.g,0,I⟩)):=λW b=>aM b gX;have Tt:∀W,aC Y W->W.cell? ⟨r8,4,I⟩=Z (J ar p.bJ):=λW b=>aM b k4;clear gX k4;go_region_held3 (λW=>aC Y W) (first
    |(with_reducible exact eW (ao _ _))
    |(with_reducible exact bx)
    |(exact Below.alloc (by assumption) (Below.size (by assumption)) _)
    |(exact(gT (gT (by assumption) (p:=⟨_,_,I⟩) (by first|exact aj _|exact bx.size) _) (p:=⟨_,_,I⟩) (by first|exact aj _|exact bx.size) _)))
    ((go_at_call 123;refine(y.O _ (H.O.below (by assumption))).mono ?_;rintro e w9 ⟨rfl,b9⟩;have bx:aC Y w9:=Below.trans (by assumption) (b9.mono (Below.size (by assumption)));first|(have z9:aK w9 Y.heap.size 91 #[J V 0,J V 0]:=(by with_reducible exact MK b9);have Tp:=au z9;have j0:=z9.cell 0;have j1:=z9.cell 1;have g0:=z9.frozen 0;have g1:=z9.frozen 1;simp at j0 j1;clear z9 b9)|clear b9))
   all_goals
    go_wp2_with fail;go_meet;have Th:r8≠Y.heap.size:=by have:=v.O.lt;omega
    first
     |exact⟨_,rfl,rfl,aK.new _ _ _,(v.O.kept bx).alloc _,bx.alloc bx.size _⟩
     |exact⟨_,rfl,rfl,by simpa using(Tp.O.bC 0 (J V T)).bC 1 (J V U),((v.O.kept bx).dS (p:=⟨Y.heap.size,0,I⟩) Th _).dS (p:=⟨Y.heap.size,1,I⟩) Th _,(bx.setCell (p:=⟨Y.heap.size,0,I⟩) (aj _) _).setCell (p:=⟨Y.heap.size,1,I⟩) (aj _) _⟩
  case rest =>
  obtain⟨S,rfl,rfl,mK,b8,bY⟩:=hcut;have h:=H.O.below bY;have l:=L.O.below bY;have SG:=HS.O.trans (fK.fN B bY);clear H HS v L y gX k4;have n2:=h.et.gR;cases of with
  |none =>
   obtain⟨_,ho,r⟩:=Tg.O;subst r;have hr:res=M.Room.count d (λc=>{ c with gR:=c.gR+1 }):=P.O;obtain⟨SQ,H,HS⟩:=bU hr h SG;have Tq:=h.cw.cell 18;have f18:=h.cw.frozen 18;simp at Tq;clear hr h SG mK b8 l bY ho;go_wp2_with fail;have A:=H.O.ri 18 (λc=>{ c with gR:=c.gR+1 }) (J V (d.bp.gR+1)) rfl { H.O.et.mono (cZ N) with gR:=by show 0<=d.bp.gR+1/\d.bp.gR+1<=((N+1:Nat):Int);omega };first
    |refine ax (bT results66 _ _ _) rfl ?_
    |refine dq (bT results66 _ _ _) rfl ?_
   exact⟨B,rfl,by rw[SQ.O];exact A.1.mono z,HS.O.trans A.2⟩
  |some o =>
   obtain⟨Q,ho,r⟩:=Tg.O;subst r;replace ho:(T,U)=o:=ho;subst ho;have hr:res=M.Room.je d (T,U) p:=P.O;have SU:(d.az (T,U)).isSome=true:=by rw[F.O.2.1];exact Tk.O p.bJ (T,U) (by rw[<-F.O.1];exact Q)
   obtain⟨s1,Ti⟩:=dw.1 SU;have SI:=Tl.O (T,U) (by rw[<-F.O.2.1];exact SU);have SJ:=Dz h (T,U) p sp ep yp s1 Ti l Ta.O (by rw[F.O.2.2.1,F.O.2.2.2.1];exact Tj.O) SI z;have k0:wc.cell? ⟨S,0,I⟩=Z (J V T):=mK.cell 0;have k1:wc.cell? ⟨S,1,I⟩=Z (J V U):=mK.cell 1;obtain⟨v,SQ,HS,Tr⟩:=cA b8 hr SG SJ;clear hr h SG mK b8 l bY Q SU Ti SI SJ;go_wp2_with (first|(refine lI _ rfl (.tmp 8) 76 rfl r8 0 76 _ rfl (uA p sp ep yp) _ underlying76 Tryz.zf v.O (λj _=>by rw[cO]) ?_)|(go_at_call 124;refine Tr.O.mono ?_;rintro e w9 ⟨B',rfl,G,K⟩;have SN:=au G;have SO:=au K;clear G K));first
    |refine ax (bT results66 _ _ _) rfl ?_
    |refine dq (bT results66 _ _ _) rfl ?_
   exact⟨B',rfl,by rw[SQ.O];exact SN.O,HS.O.trans SO.O⟩
end
end
section
structure Hx(R:M.Room):Prop where
 tell:np R
 kz:mF R
 held:∀o st,R.az o=Z st->∀y∈st.bQ.bD,y.id<R.aO.length
 back:R.returned.length<=1000
 fresh:∀s,R.di s R.aO.length=I
 Qt:∀x o,R.cW x=Z o->(R.az o).isSome=true
 Qh:∀o,(R.az o).isSome=true->(0<=o.1/\o.1<3)/\0<=o.2/\o.2<3
 eG:∀s l,R.aD s=Z l->0<l.ready.length->l.eG=false
section
variable {B:RB} {R:M.Room} {N:Nat}
theorem oT(f:Hx R)(st s:Int)(a:Bool)(hm:R.may (st,s)=true)(K:N<700000) :
  ∃fn:Nat,(R.cN=true/\fn=65\/R.cN=false/\(st=0/\fn=66\/st=1/\fn=67\/st=2/\fn=68\/st=3/\fn=69\/st=4/\fn=64)) /\
   ∀w,aL w B R N->aF af fn #[aq (Z ⟨B.g,0,I⟩),cg #[J V st,J V s],ai a] w (kk B w (aB #[]) (R.pick (st,s) a).1 (N+9)):=by
 have hp:(R.pick (st,s) a).1=if R.cN then R.ku (st,s) else if st=0 then R.read else if st=1 then R.order else if st=2 then R.gq s else if st=3 then R.fD s else R.jS s a:=by
  unfold M.Room.pick;rw[hm];rfl
 rw[hp];unfold M.Room.may at hm;rw[Bool.and_eq_true,decide_eq_true_iff,M.mA]at hm;obtain⟨hw,hm⟩:=hm;have i:2<=st->∃l,R.aD s=Z l/\(0<=s/\s<6):=λh2=>by
  rcases hw with e|e | ⟨_,_,e⟩
  ·injection e with k m;omega
  ·injection e with k m;omega
  ·obtain⟨l,j⟩:=dw.1 e;exact⟨l,j,f.tell.range s e⟩
 have h4:0<=st/\st<=4:=by
  rcases hw with e|e | ⟨e,_,_⟩
  ·injection e with k m;omega
  ·injection e with k m;omega
  ·have e:st=2\/st=3\/st=4:=e;omega
 have h6:0<=s/\s<6:=by
  rcases hw with e|e | ⟨e,_,q⟩
  ·injection e with k m;omega
  ·injection e with k m;omega
  ·exact f.tell.range s q
 cases D:R.cN with
 |true =>
  rw[D]at hm;simp only[if_true]at hm;refine⟨65,.inl ⟨rfl,rfl⟩,λw h=>?_⟩;simp only[if_true];exact Lj h st s a h4 h6 (λh2=>by obtain⟨l,j,_⟩:=i h2;rw[j];rfl) (by simpa using hm) f.back (λo sm u y hy=>by have:=f.held o sm u y hy;have:=h.et.aO;omega) z
 |false =>
  rw[D]at hm;simp only[Bool.false_eq_true,if_false]at hm ⊢;by_cases v:st=0
  ·refine⟨66,.inr ⟨trivial,.inl ⟨v,rfl⟩⟩,λw h=>?_⟩;rw[if_pos v]at hm ⊢;cases E:R.dm with
   |nil=>rw[E]at hm;simp at hm
   |cons b q=>exact Je h st s a b q E f.tell f.fresh f.Qt f.Qh z
  ·rw[if_neg v]at hm ⊢;by_cases k:st=1
   ·refine⟨67,.inr ⟨trivial,.inr (.inl ⟨k,rfl⟩)⟩,λw h=>?_⟩;rw[if_pos k]at hm ⊢;obtain⟨o,F⟩:=dw.1 hm;refine(FO h st s a o F z f.kz (λsm u=>f.held o sm u)).mono ?_;rintro e w' ⟨B',n,p,t⟩;exact⟨B',n,p.mono z,t⟩
   ·rw[if_neg k]at hm ⊢;obtain⟨l,j,_⟩:=i z;rw[j]at hm;simp only at hm;by_cases m:st=2
    ·refine⟨68,.inr ⟨trivial,.inr (.inr (.inl ⟨m,rfl⟩))⟩,λw h=>?_⟩;rw[if_pos m]at hm ⊢;simp[M.dP.nO]at hm;cases d:l.cK with
     |nil=>rw[d]at hm;simp at hm
     |cons x r =>
      refine(Dy h st s a l x r j d z h6 z).mono ?_;rintro e w' ⟨B',n,p,t⟩;exact⟨B',n,p.mono z,t⟩
    ·rw[if_neg m]at hm ⊢;by_cases A:st=3
     ·refine⟨69,.inr ⟨trivial,.inr (.inr (.inr (.inl ⟨A,rfl⟩)))⟩,λw h=>?_⟩;rw[if_pos A]at hm ⊢;cases d:l.bF with
      |nil=>rw[d]at hm;simp at hm
      |cons x r =>
       obtain⟨x,first⟩:=x;refine(Cn h st s a l x first r j d h6 z).mono ?_;rintro e w' ⟨B',n,p,t⟩;exact⟨B',n,p.mono z,t⟩
     ·refine⟨64,.inr ⟨trivial,.inr (.inr (.inr (.inr ⟨z,rfl⟩)))⟩,λw h=>?_⟩;rw[if_neg A]at hm ⊢;have hg:=f.eG s l j (by simpa using hm);cases d:l.ready with
      |nil=>rw[d]at hm;simp at hm
      |cons x r =>
       obtain⟨L,P,G⟩:=h.jq j;obtain⟨q,hR,hF⟩:=G.ready;have C:x.1<=1000000:=hF.On (Q:=λx=>x.1<=1000000) (by rintro x c ⟨_,_,_,_,H⟩;exact H) x (by rw[d];simp);refine(FN h st s a l x r j d hg C h6 z).mono ?_;rintro e w' ⟨B',n,p,t⟩;exact⟨B',n,p.mono z,t⟩
end
section
variable {B:RB} {R:M.Room} {N:Nat} {w:aw} (h:aL w B R N)
include h
theorem sY(st s:Int)(a:Bool)(E:Hx R)(P:N<700000) :
  aF af 25 #[aq (Z ⟨B.g,0,I⟩),cg #[J V st,J V s],ai a] w (kk B w (ai (R.pick (st,s) a).2) (R.pick (st,s) a).1 (N+9)):=by
 have l:=λW (Q:aL W B R N)=>Li Q (st,s) z;have n:aC w (w.alloc (.cells #[J V st,J V s] 40)):=(ao _ w).alloc (aj _) _;cases hm:R.may (st,s) with
 |false =>
  have e:R.pick (st,s) a=(R,false):=by unfold M.Room.pick;rw[hm];rfl
  rw[e];obtain⟨H,m,i,u⟩:=cA h l n hm;clear h l n e hm;go_enter func25,ntmps25;go_wp2_with (go_at_call 63;refine(m.O _ (H.O.below i.O)).mono ?_;rw[u.O];rintro e w2 ⟨rfl,b2⟩;have j:=au b2;clear b2);go_ret;have r:=i.O.trans (j.O.mono i.O.size);exact⟨B,rfl,(H.O.mono z).below r,fK.fN B r⟩
 |true =>
  have F:(R.pick (st,s) a).2=true:=by unfold M.Room.pick;rw[hm];rfl
  rw[F];obtain⟨fn,A,o⟩:=oT (B:=B) E st s a hm P;generalize (R.pick (st,s) a).1=res at o;obtain⟨r4,C⟩:=dH w.heap.size;obtain⟨H,m,i,u,d⟩:=gY h l n hm o;have G:∀X,aC w X->fK w X B B/\aL X B R N:=λX b=>⟨fK.fN B b,H.O.below b⟩;have K:=au G;have b4:aK (w.alloc (.cells #[J V st,J V s] 40)) r4 40 #[J V st,J V s]:=aK.newAt _ _ _ _ C;have S:∀(fn:Fn) (first cap:Array Value) (w:aw),(Instr.makeFunc fn first cap).run af w=.ok (.func fn first cap) w:=λ_ _ _ _=>rfl;have k:=au b4;clear h l n hm F o E G b4;go_enter func25,ntmps25;go_upto_region 1 with fail;rw[<-C];refine aW (λX=>aK X r4 40 #[J V st,J V s]/\aC w X) ⟨k.O,i.O⟩ ?_;clear C i k;rintro X ⟨b4,n⟩;have v:=b4.cell 0;have x:=b4.cell 1;simp at v x;obtain⟨i,k⟩:=bu n b4;clear n b4;go_upto_region 3 with(go_at_call 63;refine(m.O _ (H.O.below i.O)).mono ?_;rw[u.O];rintro e w2 ⟨rfl,b2⟩;have j:=au b2;clear b2)
  have r:=i.O.trans (j.O.mono i.O.size);have y:=K.O _ r;have b4:=k.O.kept j.O;clear v x;obtain⟨T,f⟩:=bu y y.2;have L:=y.2.cw.cell 7;have v:=b4.cell 0;have x:=b4.cell 1;simp at L v x;clear y b4 r m u K k j H i;rcases A with⟨D,rfl⟩ | ⟨D,⟨rfl,rfl⟩ | ⟨rfl,rfl⟩ | ⟨rfl,rfl⟩ | ⟨rfl,rfl⟩ | ⟨rfl,rfl⟩⟩
  all_goals
   rw[D]at L;clear D;go_wp2_with (first|(go_at_call 65;refine(d.O _ f.O).mono ?_;rintro e t ⟨B',rfl,h9,c⟩;have p:=au h9;have q:=au c;clear h9 c)|(go_at_call 66;refine(d.O _ f.O).mono ?_;rintro e t ⟨B',rfl,h9,c⟩;have p:=au h9;have q:=au c;clear h9 c)|(go_at_call 67;refine(d.O _ f.O).mono ?_;rintro e t ⟨B',rfl,h9,c⟩;have p:=au h9;have q:=au c;clear h9 c)|(go_at_call 68;refine(d.O _ f.O).mono ?_;rintro e t ⟨B',rfl,h9,c⟩;have p:=au h9;have q:=au c;clear h9 c)|(go_at_call 69;refine(d.O _ f.O).mono ?_;rintro e t ⟨B',rfl,h9,c⟩;have p:=au h9;have q:=au c;clear h9 c)|(go_at_call 64;refine(d.O _ f.O).mono ?_;rintro e t ⟨B',rfl,h9,c⟩;have p:=au h9;have q:=au c;clear h9 c));go_ret;exact⟨B',rfl,p.O,T.O.1.trans q.O⟩
end
end
abbrev OG:List Value:=[ai false,J ar 0,J ar 0,J ar 0,J ar 0,J ar 0,J ar 0,ae I 0 0]
abbrev zr(x:Int):List Value:=[J V 1,J ar 0,J ar x,ae I 0 0,ae I 0 0]
abbrev Gp:List Value:=[J bI 0,J bI 0,ae I 0 0]
abbrev tT(x:Int):List Value:=[J V 2,ai false,J ar 0,J ar 0,J ar 0,J ar 0,J ar 0,J ar 0,ae I 0 0,J V 1,J ar 0,J ar x,ae I 0 0,ae I 0 0,J bI 0,J bI 0,ae I 0 0]
def CH(w:aw):aF af 317 #[cg OG.toArray] w λe w'=>e=av (ai true)/\aC w w':=by
 have a:aC w (w.alloc (.cells OG.toArray 284)):=(ao _ w).alloc (aj _) _;have b:=au a;clear a;go_enter func317,ntmps317;go_wp2_with fail;go_ret;exact⟨rfl,b.O⟩
def DZ(w:aw):aF af 315 #[cg Gp.toArray] w λe w'=>e=av (ai true)/\aC w w':=by
 have a:aC w (w.alloc (.cells Gp.toArray 286)):=(ao _ w).alloc (aj _) _;have b:=au a;clear a;go_enter func315,ntmps315;go_wp2_with fail;go_ret;exact⟨rfl,b.O⟩
def wi(x:Int)(w:aw):aF af 318 #[cg (zr x).toArray] w λe w'=>e=av (ai true)/\aC w w':=by
 have a:aC w (w.alloc (.cells (zr x).toArray 277)):=(ao _ w).alloc (aj _) _;have b:=au a;clear a;go_enter func318,ntmps318;go_wp2_with fail;go_ret;exact⟨rfl,b.O⟩
def DY(w:aw):aF af 321 #[ae I 0 0] w λe w'=>e=av (ae I 0 0)/\w'=w:=by
 go_enter func321,ntmps321;go_wp2_with fail;refine wp_loop_rounds 1 ?_;rw[rounds_succ];go_wp2_with fail;go_ret;exact⟨rfl,rfl⟩
def Au(x:Int)(w:aw):aF af 290 #[cg (tT x).toArray] w λe w'=>e=av (ai true)/\aC w w':=by
 have f:aC w (w.alloc (.cells (tT x).toArray 288)):=(ao _ w).alloc (aj _) _;have d:=au f;clear f;go_enter func290,ntmps290;go_upto_region 1 with fail;obtain⟨r1,h⟩:=dH w.heap.size;rw[<-h];refine aW (λX=>aK X r1 288 (tT x).toArray/\aC w X) ⟨aK.newAt _ _ _ _ h,d.O⟩ ?_;clear h d;rintro X ⟨b1,f⟩;have a:=au (λ(W:aw) (q:aK W r1 288 (tT x).toArray) (i:Nat) (v:Value) (l:(tT x)[i]? = Z v)=>(show W.cell? ⟨r1,i,I⟩=Z v from by have k:=q.cell i;simp only[iC]at k;rw[k,l]));have m:=a.O X b1 0 _ rfl;have n:=a.O X b1 1 _ rfl;have o:=a.O X b1 2 _ rfl;have p:=a.O X b1 3 _ rfl;have r:=a.O X b1 4 _ rfl;have s:=a.O X b1 5 _ rfl;have t:=a.O X b1 6 _ rfl;have u:=a.O X b1 7 _ rfl;have y:=a.O X b1 8 _ rfl;have d:=au f;have c:=au b1;clear f b1;go_wp2_with (first
  |(go_at_call 317;refine(CH _).mono ?_;rintro e w1 ⟨rfl,b1⟩;have i14:=a.O w1 (c.O.kept b1) 14 _ rfl;have i15:=a.O w1 (c.O.kept b1) 15 _ rfl;have i16:=a.O w1 (c.O.kept b1) 16 _ rfl;have b:=au b1;clear b1)
  |(go_at_call 315;refine(DZ _).mono ?_;rintro e w2 ⟨rfl,b2⟩;have j9:=a.O w2 ((c.O.kept b.O).kept b2) 9 _ rfl;have QQ:=a.O w2 ((c.O.kept b.O).kept b2) 10 _ rfl;have QP:=a.O w2 ((c.O.kept b.O).kept b2) 11 _ rfl;have QO:=a.O w2 ((c.O.kept b.O).kept b2) 12 _ rfl;have PB:=a.O w2 ((c.O.kept b.O).kept b2) 13 _ rfl;have g:=au b2;clear b2)
  |(go_at_call 318;refine(wi x _).mono ?_;rintro e w3 ⟨rfl,b3⟩;have j:=au b3;clear b3))
 go_ret;exact⟨rfl,((d.O.trans (b.O.mono d.O.size)).trans (g.O.mono (aP d.O.size b.O.size))).trans (j.O.mono (aP (aP d.O.size b.O.size) g.O.size))⟩
def MF(w:aw):aF af 322 #[J V 1] w λe w'=>e=av (aB #[J bI 206,J bI 1])/\w'=w:=by
 go_enter func322,ntmps322;go_wp2_with fail;refine ax (v:=aB #[J bI 206,J bI 1]) (by simp[aV,results322,go_sem]) rfl ⟨rfl,rfl⟩
structure FW(w W:aw)(r1 r2 r4:Nat)(x:Int)(bs:List Int):Prop where
 b1:aK W r1 277 (zr x).toArray
 b2:aK W r2 286 Gp.toArray
 wr:lM W r4 r4 bs
 fN:aC w W
 lt:w.heap.size<=r1/\r1<r2/\r2<r4
def FW.step{w W W':aw}{r1 r2 r4:Nat}{x:Int}{bs a:List Int}(h:FW w W r1 r2 r4 x bs)(q:lM W' r4 r4 a)(b:iQ r4 W W'):FW w W' r1 r2 r4 x a:=
 ⟨h.b1.below b (lE h.lt),h.b2.below b (lE h.lt),q,h.fN.trans (b.mono (lE h.lt)),h.lt⟩
def FW.c1{w W:aw}{r1 r2 r4:Nat}{x:Int}{bs:List Int}(h:FW w W r1 r2 r4 x bs)(i:Nat)(v:Value)(b:(zr x)[i]? = Z v):W.cell? ⟨r1,i,I⟩=Z v:=by
 have a:=h.b1.cell i;simp only[iC]at a;rw[a,b]
def Cv(x:Int)(hx:0<=x/\x<=4294967295)(w:aw):aF af 292 #[cg (zr x).toArray] w λe w'=>(∃A c,e=av (aB #[cg #[J bI 1,J bI 206,ae A 8 c],J V 0])/\TB w' A 8 (M.bK 4 0++M.bK 4 x)/\8<=c/\c<=maxLen/\(A=I->c=0))/\aC w w':=by
 have m:(M.bK 4 0++M.bK 4 x).length=8:=by rw[cG,cV,cV]
 have s:=au m;clear m;go_enter func292,ntmps292;go_upto_region 1 with fail;obtain⟨r1,t⟩:=dH w.heap.size;obtain⟨r2,u⟩:=dH (w.heap.size+1);rw[<-u,<-t];have K:aC w ((w.alloc (.cells (zr x).toArray 277)).alloc (.cells Gp.toArray 286)):=((ao _ w).alloc (aj _) _).alloc dt _;have g12:w.heap.size<=r1/\r1<r2:=z;refine aW (λX=>aK X r1 277 (zr x).toArray/\aK X r2 286 Gp.toArray/\aC w X) ⟨(aK.newAt _ _ _ _ t).alloc _,aK.newAt _ _ _ _ (by simp[u]),K⟩ ?_;clear t u K;rintro X ⟨b1,b2,fN⟩;have k:=au (λ(W:aw) (q:aK W r1 277 (zr x).toArray) (i:Nat) (v:Value) (hv:(zr x)[i]? = Z v)=>(show W.cell? ⟨r1,i,I⟩=Z v from by have L:=q.cell i;simp only[iC]at L;rw[L,hv]));have N:=k.O X b1 0 _ rfl;have y:=k.O X b1 1 _ rfl;have B:=k.O X b1 2 _ rfl;have P:=k.O X b1 3 _ rfl;have Q:=k.O X b1 4 _ rfl;obtain⟨n,g,d⟩:=bU b1 b2 fN;clear b1 b2 fN;go_upto_region 4 with(go_at_call 318;refine(wi x _).mono ?_;rintro e w3 ⟨rfl,b3⟩;have b:=au b3;clear b3)
 obtain⟨r4,C⟩:=dH w3.heap.size;rw[<-C];have o:FW w (w3.alloc (.cells #[ae I 0 0] 408)) r1 r2 r4 x []:=by
  refine⟨(n.O.kept b.O).alloc _,(g.O.kept b.O).alloc _,?_,(d.O.trans (b.O.mono d.O.size)).alloc (by have:=d.O.size;have:=b.O.size;omega) _,?_⟩
  ·rw[C];exact wZ w3
  ·have:=(g.O.kept b.O).lt;omega
 refine aW (λY=>FW w Y r1 r2 r4 x []) o ?_;clear C o N y B P Q n g d b k w3 X g12;intro Y f;have y:=f.c1 1 _ rfl;have B:=f.c1 2 _ rfl;have h:=au f;clear f;go_upto_region 6 with(first
  |(go_at_call 242;refine(kH r4 r4 [] 0 _ h.O.wr dt z).mono ?_;rintro e w5 ⟨rfl,R,b5⟩;have f5:=h.O.step R b5;have i2:=f5.c1 2 _ rfl;have j:=au f5;clear R b5 f5 h)
  |(go_at_call 242;refine(kH r4 r4 _ x _ j.O.wr (by simp[cV]) hx).mono ?_;rintro e w6 ⟨rfl,S,T⟩;have f6:=j.O.step S T;have a:=au f6;clear S T f6 j))
 have f:=a.O;have N:=f.c1 0 _ rfl;have P:=f.c1 3 _ rfl;have Q:=f.c1 4 _ rfl;clear y B i2 f;go_wp2_with fail;refine wp_loop_rounds 1 ?_;rw[rounds_succ];go_wp2_with (go_at_call 321;refine(DY _).mono ?_;rintro e w7 ⟨rfl,e7⟩;subst e7);refine wp_loop_rounds 1 ?_;rw[rounds_succ];go_wp2_with (first
  |(go_at_call 322;refine(MF _).mono ?_;rintro e w8 ⟨rfl,e8⟩;subst e8)
  |(go_at_call 244;refine(oX r4 r4 _ _ a.O.wr (by simp[cV])).mono ?_;rintro e w9 ⟨⟨A,c,rfl,l,h8,r,U⟩,D⟩;have f9:=a.O.b2.kept D;have m0:=f9.cell 0;have m1:=f9.cell 1;have m2:=f9.cell 2;have z0:=f9.frozen 0;have z1:=f9.frozen 1;have z2:=f9.frozen 2;simp at m0 m1 m2;have HT:=au l;have E:=au D;have HH:=au (dj h8 (dj r U));have HK:=au f9;clear l D h8 r U f9))
 have s0:=HK.O.bC 0 (J bI 1);have s1:=s0.bC 1 (J bI 206);have s2:=s1.bC 2 (ae A (pN (M.bK 4 0)+pN (M.bK 4 x)) c);have F:=s2.cell 0;have G:=s2.cell 1;have H:=s2.cell 2;have l:=((HT.O.bC HK.O aR 0 (J bI 1)).bC s0 aR 1 (J bI 206)).bC s1 aR 2 (ae A (pN (M.bK 4 0)+pN (M.bK 4 x)) c);have hb:=(((a.O.fN.trans (E.O.mono a.O.fN.size)).setCell (p:=⟨r2,0,I⟩) (by have:=a.O.lt;show _<=r2;omega) (J bI 1)).setCell (p:=⟨r2,1,I⟩) (by have:=a.O.lt;show _<=r2;omega) (J bI 206)).setCell (p:=⟨r2,2,I⟩) (by have:=a.O.lt;show _<=r2;omega) (ae A (pN (M.bK 4 0)+pN (M.bK 4 x)) c);simp at F G H;have hh:=HH.O;simp only[List.nil_append,s.O]at hh l;rw[cV,cV]at F G H l hb ⊢;exact ax (v:=aB #[cg #[J bI 1,J bI 206,ae A 8 c],J V 0]) (by simp[aV,results292,go_sem,F,G,H]) rfl ⟨⟨A,c,rfl,l,hh.1,hh.2.1,hh.2.2⟩,hb⟩
abbrev Jn(x:Int):List Int:=M.bK 4 0++M.bK 4 x
def vB(w:aw)(x:Int)(A:Option Addr)(c:Nat):Prop:=TB w A 8 (Jn x)/\8<=c/\c<=maxLen/\(A=I->c=0)
def Cw(x:Int)(E:0<=x/\x<=4294967295)(w:aw):aF af 258 #[cg (tT x).toArray] w λe w'=>(∃A c,e=av (aB #[cg #[J bI 1,J bI 206,ae A 8 c],J V 0])/\vB w' x A c)/\aC w w':=by
 go_enter func258,ntmps258;go_upto_region 1 with fail;obtain⟨r1,j⟩:=dH w.heap.size;obtain⟨r2,k⟩:=dH (w.heap.size+1);rw[<-k,<-j];have r:aC w ((w.alloc (.cells (tT x).toArray 288)).alloc (.cells Gp.toArray 286)):=((ao _ w).alloc (aj _) _).alloc dt _;have g12:w.heap.size<=r1/\r1<r2:=z;refine aW (λX=>aK X r1 288 (tT x).toArray/\aK X r2 286 Gp.toArray/\aC w X) ⟨(aK.newAt _ _ _ _ j).alloc _,aK.newAt _ _ _ _ (by simp[k]),r⟩ ?_;clear j k r;rintro X ⟨b1,b2,fN⟩;have a:=au (λ(W:aw) (q:aK W r1 288 (tT x).toArray) (i:Nat) (v:Value) (F:(tT x)[i]? = Z v)=>(show W.cell? ⟨r1,i,I⟩=Z v from by have s:=q.cell i;simp only[iC]at s;rw[s,F]));have S:=a.O X b1 0 _ rfl;have T:=a.O X b1 1 _ rfl;have U:=a.O X b1 2 _ rfl;have Y:=a.O X b1 3 _ rfl;have k4:=a.O X b1 4 _ rfl;have k5:=a.O X b1 5 _ rfl;have k6:=a.O X b1 6 _ rfl;have k7:=a.O X b1 7 _ rfl;have k8:=a.O X b1 8 _ rfl;have k9:=a.O X b1 9 _ rfl;have G:=a.O X b1 10 _ rfl;have H:=a.O X b1 11 _ rfl;have K:=a.O X b1 12 _ rfl;have L:=a.O X b1 13 _ rfl;have M:=a.O X b1 14 _ rfl;have N:=a.O X b1 15 _ rfl;have P:=a.O X b1 16 _ rfl;have b:=au b1;have l:=au b2;have d:=au fN;clear b1 b2 fN;go_wp2_with (first
  |(go_at_call 290;refine(Au x _).mono ?_;rintro e w3 ⟨rfl,b3⟩;have i0:=a.O w3 (b.O.kept b3) 0 _ rfl;have i9:=a.O w3 (b.O.kept b3) 9 _ rfl;have i10:=a.O w3 (b.O.kept b3) 10 _ rfl;have i11:=a.O w3 (b.O.kept b3) 11 _ rfl;have i12:=a.O w3 (b.O.kept b3) 12 _ rfl;have i13:=a.O w3 (b.O.kept b3) 13 _ rfl;have f:=au b3;clear b3)
  |(go_at_call 292;refine(Cv x E _).mono ?_;rintro e w9 ⟨⟨A,c,rfl,h,h8,g,t⟩,m⟩;have f9:=(l.O.kept f.O).kept m;have m0:=f9.cell 0;have m1:=f9.cell 1;have m2:=f9.cell 2;have z0:=f9.frozen 0;have z1:=f9.frozen 1;have z2:=f9.frozen 2;simp at m0 m1 m2;have Q:=au h;have n:=au m;have o:=au (dj h8 (dj g t));have u:=au f9;clear h m h8 g t f9))
 have s0:=u.O.bC 0 (J bI 1);have s1:=s0.bC 1 (J bI 206);have s2:=s1.bC 2 (ae A 8 c);have y:=s2.cell 0;have B:=s2.cell 1;have C:=s2.cell 2;have h:=((Q.O.bC u.O aR 0 (J bI 1)).bC s0 aR 1 (J bI 206)).bC s1 aR 2 (ae A 8 c);have D:=(d.O.trans (f.O.mono d.O.size));have R:=(((D.trans (n.O.mono D.size)).setCell (p:=⟨r2,0,I⟩) (by show _<=r2;omega) (J bI 1)).setCell (p:=⟨r2,1,I⟩) (by show _<=r2;omega) (J bI 206)).setCell (p:=⟨r2,2,I⟩) (by show _<=r2;omega) (ae A 8 c);simp at y B C;exact ax (v:=aB #[cg #[J bI 1,J bI 206,ae A 8 c],J V 0]) (by simp[aV,results258,go_sem,y,B,C]) rfl ⟨⟨A,c,rfl,h,o.O.1,o.O.2.1,o.O.2.2⟩,R⟩
def As(x:Int)(hx:0<=x/\x<=4294967295)(g:Nat)(w:aw)(hc:aK w g 288 (tT x).toArray) :
  aF af 208 #[ae (Z ⟨g,0,I⟩) 1 1] w λe w'=>(∃A c A2 c2,e=av (aB #[ae A2 1 c2,J V 0])/\w'.ownsRow w.heap.size 286 3 (ae A2 1 c2) 1 [J bI 1,J bI 206,ae A 8 c]/\vB w' x A c)/\aC w w':=by
 obtain⟨i0,hi,D,E,F⟩:=cY IC;obtain⟨HI,aI,df,eI⟩:=cA hi D E F;obtain⟨i1,hj,G,H,K⟩:=cY My;obtain⟨HJ,gX,mK,SG,HW⟩:=gY hj G H K (λ(W:aw) (b:aC w W)=>hc.kept b);clear hi D E F hj G H K hc;have u:=au (show aC w w/\w.ownsRow w.heap.size 286 3 (ae I 0 0) 0 []/\w.ownsRow w.heap.size 29 1 (ae I 0 0) 0 [] from⟨ao _ _,⟨rfl,.inl ⟨rfl,rfl⟩⟩,⟨rfl,.inl ⟨rfl,rfl⟩⟩⟩);go_enter func208,ntmps208;go_wp2_with fail;go_loopw [4,5,12] (λa b i wr=>∃k:Nat,i=J V k/\aC w wr/\(k=0/\wr.ownsRow w.heap.size 286 3 a 0 []/\wr.ownsRow w.heap.size 29 1 b 0 []\/k=1/\∃A c,wr.ownsRow w.heap.size 286 3 a 1 [J bI 1,J bI 206,ae A 8 c]/\wr.ownsRow w.heap.size 29 1 b 1 [J V 0]/\vB wr x A c)) (λa b i _=>2-(bS i).toNat);case atStart=>exact⟨0,rfl,u.O.1,.inl ⟨rfl,u.O.2.1,u.O.2.2⟩⟩
 case round =>
  clear u;obtain⟨k,rfl,fN,⟨rfl,p,n⟩ | ⟨rfl,A,c,p,n,m⟩⟩:=hrel
  ·obtain⟨T,U,rfl⟩:=bA p;obtain⟨L,M,rfl⟩:=bA n;obtain⟨d,h,o⟩:=bU p n fN;clear p n fN;have HG:=au (HW.O wr o.O);go_upto_region 6 with(go_big_may;refine lI _ rfl (.tmp 14) 288 rfl g 0 288 (tT x).toArray rfl (tT x).toArray _ underlying288 qv HG.O (λj _=>by rw[cO]) ?_)
   obtain⟨r7,e7⟩:=dH wr.heap.size;rw[<-e7];have v:aC wr (wr.alloc (.cells (tT x).toArray 288)):=(ao _ _).alloc (aj _) _;refine aW (λY=>aK Y r7 288 (tT x).toArray/\Y.ownsRow w.heap.size 286 3 (ae T 0 U) 0 []/\Y.ownsRow w.heap.size 29 1 (ae L 0 M) 0 []/\aC w Y) ⟨aK.newAt _ _ _ _ e7,gI d.O v,gI h.O v,o.O.trans (v.mono o.O.size)⟩ ?_;clear e7 v d h o HG;rintro Y ⟨b7,p,n,fN⟩;obtain⟨HC,d,h,o⟩:=cA b7 p n fN;clear p n fN b7;go_upto_region 7 with(first|(go_big_may;refine lI _ rfl (.tmp 7) 288 rfl r7 0 288 (tT x).toArray rfl (tT x).toArray _ underlying288 qv HC.O (λj _=>by rw[cO]) ?_)|(go_at_call 258;refine(Cw x hx _).mono ?_;rintro e w2 ⟨⟨A,c,rfl,m⟩,b2⟩;have l:=au m;have C:=au b2;clear m b2))
   obtain⟨r8,e8⟩:=dH w2.heap.size;rw[<-e8];have v:aC w2 (w2.alloc (.cells #[J bI 1,J bI 206,ae A 8 c] 286)):=(ao _ _).alloc (aj _) _;have X:=C.O.trans (v.mono C.O.size);have y:∀W,aC w2 W->vB W x A c:=λW b=>⟨l.O.1.below b,l.O.2⟩;refine aW (λB=>aK B r8 286 #[J bI 1,J bI 206,ae A 8 c]/\B.ownsRow w.heap.size 286 3 (ae T 0 U) 0 []/\B.ownsRow w.heap.size 29 1 (ae L 0 M) 0 []/\vB B x A c/\aC w B) ⟨aK.newAt _ _ _ _ e8,gI d.O X,gI h.O X,y _ v,o.O.trans (X.mono o.O.size)⟩ ?_;clear e8 v X y l C d h o HC w2 Y;rintro B ⟨b8,p,n,m,fN⟩;have y0:=b8.cell 0;have y1:=b8.cell 1;have y2:=b8.cell 2;simp at y0 y1 y2;obtain⟨d,h,o,l⟩:=cA p n fN m;have hZ:=fN.size;clear p n fN m b8;go_upto_region 8 with(at_builtin;go_loud (refine dV _ rfl _ _ 373 rfl w.heap.size 286 i0 (cg #[J bI 0,J bI 0,ae I 0 0]) 3 32 underlying373 HI.O aI.O df.O eI.O rfl aR _ _ _ rfl (eH d.O _) ⟨B.heap.size,0,I⟩ 1 1 [J bI 1,J bI 206,ae A 8 c] rfl rfl (fB B 286 _) tk ui z dZ ?_;intro v5 w5 f g5 q))
   have N:=pn (eH h.O _) (eH d.O _) aR g5;have s:vB w5 x A c:=⟨(l.O.1.below ((ao _ _).alloc (aj _) _)).typed (eT g5) (ib (eH d.O _)) aR,l.O.2⟩;have t:=tf (o.O.alloc o.O.size _) (eH d.O _) (aj _) g5;obtain⟨A9,c9,rfl⟩:=bA f;have f:w5.ownsRow w.heap.size 286 3 (ae A9 1 c9) 1 [J bI 1,J bI 206,ae A 8 c]:=by simpa using f
   refine aW (λW=>W.ownsRow w.heap.size 286 3 (ae A9 1 c9) 1 [J bI 1,J bI 206,ae A 8 c]/\W.ownsRow w.heap.size 29 1 (ae L 0 M) 0 []/\vB W x A c/\aC w W) ⟨f,N,s,t⟩ ?_;clear f N s t g5 q d h o l hZ y0 y1 y2;rintro W ⟨p,n,m,fN⟩;obtain⟨d,h,o,l⟩:=cA p n fN m;have hZ:=fN.size;clear p n fN m;go_upto_region 9 with(at_builtin;go_loud (refine dV _ rfl _ _ 391 rfl w.heap.size 29 i1 (J V 0) 1 8 underlying391 HJ.O gX.O mK.O SG.O rfl aR _ _ _ rfl (eH h.O _) ⟨W.heap.size,0,I⟩ 1 1 [J V 0] rfl rfl (fB W 29 _) tk ui z dZ ?_;intro v5 w5 f g5 q))
   have P:=pn (eH d.O _) (eH h.O _) aR g5;have s:vB w5 x A c:=⟨(l.O.1.below ((ao _ _).alloc (aj _) _)).typed (eT g5) (ib (eH h.O _)) aR,l.O.2⟩;have t:=tf (o.O.alloc o.O.size _) (eH h.O _) (aj _) g5;have f:w5.ownsRow w.heap.size 29 1 v5 1 [J V 0]:=by simpa using f
   obtain⟨Q,R,SH,SI⟩:=cA P f t s;clear P f t s g5 q d h o l;go_wp2_with fail;go_roundw;case rel=>exact⟨1,by go_num,SH.O,.inr ⟨rfl,A,c,Q.O,R.O,SI.O⟩⟩
   case measure=>simp[bS]
  ·obtain⟨T,U,rfl⟩:=bA p;obtain⟨L,M,rfl⟩:=bA n;have S:=BC L 1 M [0] wr rfl (by
    intro _
    obtain⟨r,e,SJ,_⟩:=xn (k:=0) n (x:=J V 0) rfl
    refine⟨r,e,λi hi=>?_⟩
    have:i=0:=z
    subst this
    exact SJ) (uO n).1 (uO n).2
   obtain⟨SK,d,o,l⟩:=cA S p fN m;clear S p n fN m;go_wp2_with (go_at_call 227;refine SK.O.mono ?_;rintro e w2 ⟨rfl,hw⟩;have SL:=hw.symm;subst SL);refine ax (ew rfl _ _ _) rfl ?_;exact⟨⟨A,c,T,U,rfl,d.O,l.O⟩,o.O⟩
def Ai(w w':aw):Prop:=∀b cs,aK w b 286 cs->aK w' b 286 cs
def Ai.of{w w':aw}(b:aC w w'):Ai w w':=λi cs h=>h.kept b
def Ai.trans{a b c:aw}(h:Ai a b)(k:Ai b c):Ai a c:=λi cs q=>k i cs (h i cs q)
def KP(g B:Nat)(xs o:List Int)(A:Option Addr)(n c:Nat)(w:aw)(h:lM w B g xs)(ht:TB w A n o)(F:A=I->c=0)(X:xs.length<=1000000)(hn:n<=1000000) :
  aF af 243 #[aq (Z ⟨g,0,I⟩),ae A n c] w λe w'=>e=av (aB #[])/\lM w' B g (xs++o)/\iQ B w w'/\Ai w w':=by
 obtain⟨i0,Y,r,s,t⟩:=cY Tryz.zL;obtain⟨HI,G,H,K⟩:=cA Y r s t;clear Y r s t;obtain⟨f,v,i,own,hw⟩:=h;have u:=au (λ(b:Nat) (cs:Array Value) (h:aK w b 286 cs)=>(aK.jf h i aR:b≠g));have E:=ht.len;have c0:=i.cell 0;have f0:=i.frozen 0;simp at c0;have sz:B<=w.heap.size:=aP f (lN i.lt);have y:∀x∈xs++o,(Lit.int bI x).wf=true:=λx X=>by
  rcases bt.1 X with q|q
  ·exact hw x q
  ·exact ht.wf x q
 obtain⟨HW,HL⟩:=bu y E;clear y hw;cases A with
 |none =>
  have L:n=0:=by
   rcases Nat.eq_zero_or_pos n with q|q
   ·exact q
   ·obtain⟨b,off,e,_⟩:=ht.cell q;cases e
  have M:=F rfl;subst L;subst M;have hy:o=[]:=List.length_eq_zero_iff.1 E;subst hy;obtain⟨p,c1,rfl⟩:=bA own;have m:Z g≠(ae p xs.length c1).ownBlock:=ej own i aR;have ky:=kJ own m 0 (ae p xs.length c1);have B2:=i.bC 0 (ae p xs.length c1);obtain⟨N,HO,P⟩:=bU B2 ky own;clear i B2 ky own ht F E;go_enter func243,ntmps243;go_wp2_with (at_builtin;go_loud (refine wpList_append_own_none rfl _ _ 38 rfl B 5 i0 1 underlying38 HI.O _ _ _ rfl P.O rfl ?_));first|refine dq (bT results243 _ _ _) rfl ?_|refine ax (bT results243 _ _ _) rfl ?_
  refine⟨rfl,⟨f,ae p xs.length c1,?_,?_,HW.O⟩,(ao _ _).setCell f _,λb cs h=>h.dS (u.O b cs h) _⟩
  ·simpa using N.O
  ·simpa using HO.O
 |some a =>
  have NW:=au ht.iX;obtain⟨p,c1,rfl⟩:=bA own;have m:Z g≠(ae p xs.length c1).ownBlock:=ej own i aR;clear ht F E;have N:=au i;clear i;go_enter func243,ntmps243;go_wp2_with (at_builtin;go_loud (refine wpList_append_own _ rfl _ _ 38 rfl B 5 i0 (J bI 0) 1 1 underlying38 HI.O G.O H.O K.O rfl aR _ _ _ rfl own a n c (o.map (J bI)) rfl (by simp[HL.O]) NW.O uQ ?c3 ?c4 ?c5 ?_));case c3=>unfold maxLen;omega
  case c4=>omega
  case c5=>omega
  intro v5 w5 k g5 _;have C:=N.O.grown g5 m;have Q:=au (λ(b:Nat) (cs:Array Value) (h:aK w b 286 cs)=>(h.grown g5 (ej own h aR):aK w5 b 286 cs));have R:iQ B w w5:=(ao _ _).grown g5 sz (λj hj=>(own.lt j hj).1);have d:w5.ownsRow B 5 1 v5 (xs.length+n) ((xs++o).map (J bI)):=by
   rw[List.map_append];exact k
  have c5:=C.cell 0;have f5:=C.frozen 0;simp at c5;obtain⟨S,T,rfl⟩:=bA d;have D:=ej d C aR;have B6:=C.bC 0 (ae S (xs.length+n) T);have l:=kJ d D 0 (ae S (xs.length+n) T);obtain⟨U,W⟩:=bu B6 l;clear own k g5 C B6 c0 f0 d l D;go_wp2_with fail;first|refine dq (bT results243 _ _ _) rfl ?_|refine ax (bT results243 _ _ _) rfl ?_
  exact⟨rfl,⟨f,ae S (xs.length+n) T,by simpa using U.O,by rw[cG,HL.O];exact W.O,HW.O⟩,R.setCell f _,λb cs h=>(Q.O b cs h).dS (u.O b cs h) _⟩
def AS(g B:Nat)(xs:List Int)(n:Int)(s:Nat)(w:aw)(h:lM w B g xs)(p:xs.length<=900000)(h0:0<=n)(h1:n<=4294967295)(k:1<=s/\s<=4) :
  aF af 278 #[aq (Z ⟨g,0,I⟩),J ar n,J V s] w λe w'=>e=av (aB #[])/\lM w' B g (xs++M.bK s n)/\iQ B w w'/\Ai w w':=by
 have d:=au h;have l:B<=w.heap.size:=aP h.1 (lN h.lt);clear h;go_enter func278,ntmps278;go_wp2_with fail;refine(BJ n s w h0 h1 k).mono ?_;rintro e w1 ⟨⟨g1,rfl,f,m⟩,b1⟩;obtain⟨a,o⟩:=bu (d.O.below b1) f;clear f d;go_wp2_with fail;refine(KP g B xs (M.bK s n) _ s s w1 a.O o.O (λe=>by cases e) z z).mono ?_;rintro e w2 ⟨rfl,i,b2,j⟩;obtain⟨b,c⟩:=bu i j;clear i j;go_wp2_with fail;first|refine dq (bT results278 _ _ _) rfl ?_|refine ax (bT results278 _ _ _) rfl ?_
 exact⟨rfl,b.O,(b1.mono l).trans b2,(Ai.of b1).trans c.O⟩
def Ih(g B:Nat)(xs:List Int)(n:Int)(w:aw)(h:lM w B g xs)(f:xs.length<=900000)(h0:0<=n/\n<=255) :
  aF af 240 #[aq (Z ⟨g,0,I⟩),J bI n] w λe w'=>e=av (aB #[])/\lM w' B g (xs++M.bK 1 n)/\iQ B w w'/\Ai w w':=by
 have i:=au h;clear h;obtain⟨h0,h1⟩:=h0;go_enter func240,ntmps240;go_wp2_with fail;refine(AS g B xs n 1 w i.O f h0 z z).mono ?_;rintro e w1 ⟨rfl,c,b1,d⟩;obtain⟨a,b⟩:=bu c d;clear c d;go_wp2_with fail;first|refine dq (bT results240 _ _ _) rfl ?_|refine ax (bT results240 _ _ _) rfl ?_
 exact⟨rfl,a.O,b1,b.O⟩
def KN(g B:Nat)(xs:List Int)(n:Int)(w:aw)(h:lM w B g xs)(f:xs.length<=900000)(h0:0<=n/\n<=65535) :
  aF af 241 #[aq (Z ⟨g,0,I⟩),J aN n] w λe w'=>e=av (aB #[])/\lM w' B g (xs++M.bK 2 n)/\iQ B w w'/\Ai w w':=by
 have i:=au h;clear h;obtain⟨h0,h1⟩:=h0;go_enter func241,ntmps241;go_wp2_with fail;refine(AS g B xs n 2 w i.O f h0 z z).mono ?_;rintro e w1 ⟨rfl,c,b1,d⟩;obtain⟨a,b⟩:=bu c d;clear c d;go_wp2_with fail;first|refine dq (bT results241 _ _ _) rfl ?_|refine ax (bT results241 _ _ _) rfl ?_
 exact⟨rfl,a.O,b1,b.O⟩
def Lt(x:Int):(Jn x).length=8:=by rw[cG,cV,cV]
def Ge(x:Int):M.Chunk.right ⟨1,206,Jn x⟩=true:=by
 unfold M.Chunk.right;simp[cV]
abbrev wj(x:Int):List Int:=[]++M.bK 1 129++M.bK 1 206++M.bK 2 2++Jn x
def DJ(x:Int)(base:Nat)(A A2:Option Addr)(c c2:Nat)(w:aw)(own:w.ownsRow base 286 3 (ae A2 1 c2) 1 [J bI 1,J bI 206,ae A 8 c])(h:vB w x A c) :
  aF af 209 #[ae A2 1 c2] w λe w'=>(∃E:Sl,e=av (aB #[ae E.a E.n E.c,J V 0])/\E.B w' (wj x)/\E.n<=400)/\aC w w':=by
 have F:=own.lt;obtain⟨r,cap,U,SK,g⟩:=jZ (q:=[[J bI 1,J bI 206,ae A 8 c]]) (by simpa using own) (by intro d hd;simp at hd;subst hd;rfl) z;injection U with U e2 e3
 subst U e3;have hr:r<w.heap.size:=(F r rfl).2;have s:=g 0 _ rfl 0 z;have u:=g 0 _ rfl 1 z;have v:=g 0 _ rfl 2 z;simp at s u v;have hq:∀W,aC w W->W.cell? ⟨r,0,I⟩=Z (J bI 1)/\W.cell? ⟨r,1,I⟩=Z (J bI 206)/\W.cell? ⟨r,2,I⟩=Z (ae A 8 c)/\vB W x A c:=λW b =>
  ⟨(b.cell (p:=⟨r,0,I⟩) hr).trans s,(b.cell (p:=⟨r,1,I⟩) hr).trans u,(b.cell (p:=⟨r,2,I⟩) hr).trans v,h.1.below b,h.2⟩
 obtain⟨X,aI,G⟩:=bU hq h (ao w.heap.size w);clear s u v hq g own h F;go_enter func209,ntmps209;go_wp2_with fail;go_loopw [4,12] (λt i wr=>∃k:Nat,i=J V k/\aC w wr/\(k=0/\t=J V 0\/k=1/\t=J V 12)) (λt i _=>2-(bS i).toNat);case atStart=>exact⟨0,rfl,G.O,.inl ⟨rfl,rfl⟩⟩
 case round =>
  clear G;obtain⟨k,rfl,fN,⟨rfl,rfl⟩ | ⟨rfl,rfl⟩⟩:=hrel
  ·obtain⟨s,u,v,h⟩:=X.O wr fN;have f:=au fN;clear fN h;go_upto_region 5 with fail;obtain⟨r6,e6⟩:=dH wr.heap.size;rw[<-e6];have H:aC w (wr.alloc (.cells #[J bI 1,J bI 206,ae A 8 c] 286)):=f.O.alloc f.O.size _;refine aW (λY=>aK Y r6 286 #[J bI 1,J bI 206,ae A 8 c]/\aC w Y) ⟨aK.newAt _ _ _ _ e6,H⟩ ?_;clear e6 H f s u v;rintro Y ⟨m,fN⟩;have y0:=m.cell 0;have y1:=m.cell 1;have R:=m.cell 2;simp at y0 y1 R;have y:=rj 1 206 A 8 c (Jn x) Y (Lt x) z;rw[Ge]at y;obtain⟨df,f,K⟩:=bU y fN m;clear y fN m;go_wp2_with (go_at_call 259;refine df.O.mono ?_;rintro e w3 ⟨rfl,b3⟩;have j2:=aM b3 R;have eI:=au b3;clear b3);go_roundw;case rel=>exact⟨1,by go_num,f.O.trans (eI.O.mono f.O.size),.inr ⟨rfl,rfl⟩⟩
   case measure=>simp[bS]
  ·have f:=au fN;clear fN;go_upto_region 12 with fail;obtain⟨r7,e7⟩:=dH wr.heap.size;rw[<-e7];have H:aC w (wr.alloc (.cells #[ae I 0 0] 408)):=f.O.alloc f.O.size _;have g7:w.heap.size<=r7:=by have:=f.O.size;omega
   refine aW (λY=>lM Y r7 r7 []/\aC w Y) ⟨by rw[e7];exact wZ wr,H⟩ ?_;clear e7 H f;rintro Y ⟨hw,fN⟩;have HI:=au (dj hw fN);clear hw fN;go_wp2_with fail;go_loopw [30] (λi wr=>∃k:Nat,i=J V k/\aC w wr/\(k=0/\lM wr r7 r7 []\/k=1/\lM wr r7 r7 (wj x))) (λi _=>2-(bS i).toNat);case atStart=>exact⟨0,rfl,HI.O.2,.inl ⟨rfl,HI.O.1⟩⟩
   case round =>
    clear HI;obtain⟨k,rfl,fN,⟨rfl,hw⟩ | ⟨rfl,hw⟩⟩:=hrel
    ·obtain⟨s,u,v,h⟩:=X.O wr fN;have f:=au fN;have l:=au hw;clear fN h hw;go_upto_region 15 with fail;obtain⟨r9,e9⟩:=dH wr.heap.size;rw[<-e9];have C:aC wr (wr.alloc (.cells #[J bI 1,J bI 206,ae A 8 c] 286)):=(ao _ _).alloc (aj _) _;refine aW (λS=>aK S r9 286 #[J bI 1,J bI 206,ae A 8 c]/\lM S r7 r7 []/\aC w S) ⟨aK.newAt _ _ _ _ e9,l.O.below C,f.O.trans (C.mono f.O.size)⟩ ?_;clear e9 C f l s u v;rintro S ⟨o,hw,fN⟩;have y0:=o.cell 0;have y1:=o.cell 1;have R:=o.cell 2;simp at y0 y1 R;have f:=au fN;have D:=au o;have L:=au hw;clear fN o hw;go_wp2_with (first
      |(go_at_call 240;refine(Ih r7 r7 [] 129 _ L.O dt z).mono ?_;rintro e w5 ⟨rfl,q5,b5,k5⟩;have j:=k5 _ _ D.O;have n1:=j.cell 1;simp at n1;have M:=au q5;have gX:=au (f.O.trans (b5.mono g7));have mK:=au j;clear q5 b5 k5 j L)
      |(go_at_call 240;refine(Ih r7 r7 _ 206 _ M.O (by simp[cV]) z).mono ?_;rintro e w6 ⟨rfl,q6,m,k6⟩;have j:=k6 _ _ mK.O;have n2:=j.cell 2;simp at n2;have SG:=au q6;have K:=au (gX.O.trans (m.mono g7));have SH:=au j;clear q6 m k6 j M)
      |(go_at_call 241;refine(KN r7 r7 _ 2 _ SG.O (by simp[cV]) z).mono ?_;rintro e w7 ⟨rfl,q7,b7,k7⟩;have j:=k7 _ _ SH.O;have m2:=j.cell 2;simp at m2;have SI:=au q7;have N:=au (K.O.trans (b7.mono g7));clear q7 b7 k7 j)
      |(go_at_call 243;refine(KP r7 r7 _ (Jn x) A 8 c _ SI.O (X.O _ N.O).2.2.2.1 aI.O.2.2.2 (by simp[cV]) z).mono ?_;rintro e w8 ⟨rfl,q8,b8,k8⟩;have P:=au q8;have Q:=au (N.O.trans (b8.mono g7));clear q8 b8 k8))
     go_roundw;case rel=>first|exact⟨1,by go_num,Q.O,.inr ⟨rfl,P.O⟩⟩|(refine⟨_,_,_,_,_,_,_,_,_,_,_,_,_,_,_,_,_,_,_,_,_,_,⟨1,?_,Q.O,.inr ⟨rfl,P.O⟩⟩,rfl⟩;go_num)
     case measure=>simp[bS]
    ·obtain⟨f,l⟩:=bu fN hw;clear fN hw;have hl:(wj x).length=12:=by simp[cV]
     have hb:=oX r7 r7 (wj x) wr l.O (by rw[hl];omega);rw[hl]at hb;have SJ:=au hb;clear hb hl;go_wp2_with (go_at_call 244;refine SJ.O.mono ?_;rintro e w9 ⟨⟨A',c',rfl,T,h1,h2,h3⟩,o⟩;have HT:=au (⟨T,h1,h2,h3⟩:Sl.B w9 ⟨A',12,c'⟩ (wj x));have D:=au o;clear T h1 h2 h3 o);refine ax (ew rfl _ _ _) rfl ?_;exact⟨⟨⟨A',12,c'⟩,rfl,HT.O,by show 12<=400;omega⟩,f.O.trans (D.O.mono f.O.size)⟩
def Cx(x:Int)(l:0<=x/\x<=4294967295)(g:Nat)(w:aw)(j:aK w g 288 (tT x).toArray) :
  aF af 143 #[ae (Z ⟨g,0,I⟩) 1 1] w λe w'=>(∃b:Sl,e=av (aB #[ae b.a b.n b.c,J V 0])/\b.B w' (wj x)/\b.n<=400)/\aC w w':=by
 have m:=au (As x l g w j);clear j;go_enter func143,ntmps143;go_wp2_with (first
  |(go_at_call 208;refine m.O.mono ?_;rintro e w1 ⟨⟨A,c,o,c2,rfl,own,d⟩,b1⟩;have p:=au own;have h:=au d;have f:=au b1;clear own d b1)
  |(go_at_call 209;refine(DJ x _ A o c c2 _ p.O h.O).mono ?_;rintro e w2 ⟨⟨b,rfl,k,h4⟩,b2⟩;have HS:=au k;have q:=au h4;have i:=au b2;clear k h4 b2))
 refine ax (ew rfl _ _ _) rfl ?_;exact⟨⟨b,rfl,HS.O,q.O⟩,f.O.trans (i.O.mono f.O.size)⟩
section
def rS(R:M.Room)(a s:Int):Bool:=match R.aD s with | some l=>l.wanted&&(!l.eG&&(l.pending&&decide (l.fh=a))) | none=>false
theorem IU(R:M.Room)(o:M.bN)(st:M.eu)(a:R.az o=Z st):R.wanted o=(st.jc||(R.ik o.1).any (rS R o.2)):=by
 unfold M.Room.wanted;rw[a];rfl
section
variable {B:RB} {R:M.Room} {N:Nat} {w:aw} (h:aL w B R N)
include h
theorem Dx(o:M.bN)(st:M.eu)(hs:R.az o=Z st)(hk:np R)(ho:(0<=o.1/\o.1<3)/\0<=o.2/\o.2<3)(hN:N<1000000) :
  aF af 83 #[aq (Z ⟨B.g,0,I⟩),cg #[J V o.1,J V o.2]] w λe w'=>e=av (ai (R.wanted o))/\aC w w':=by
 obtain⟨res,d⟩:=dH (R.wanted o);rw[<-d];rw[IU R o st hs]at d;obtain⟨n,HS,HK,H0⟩:=cA d hs hk h;clear h d hs hk;go_enter func83,ntmps83;go_upto_region 1 with fail;obtain⟨r3,e3⟩:=dH w.heap.size;rw[<-e3];have E:aC w (w.alloc (.cells #[J V o.1,J V o.2] 91)):=(ao _ w).alloc (aj _) _;refine aW (λX=>aK X r3 91 #[J V o.1,J V o.2]/\aL X B R N/\aC w X) ⟨aK.newAt _ _ _ _ e3,H0.O.below E,E⟩ ?_;clear e3 E H0;rintro X ⟨b3,h,E⟩;have SJ:=h.cw.cell 13;have p:=h.cw.cell 11;have y0:=b3.cell 0;have y1:=b3.cell 1;have hD:=h.below (eW (ao X.drew.heap.size X.drew));obtain⟨S,hS,SK⟩:=hD.iB HS.O;have q7:X.cell? ⟨S.g,7,I⟩=_:=SK.cw.cell 7;simp at SJ p y0 y1 q7;have T:(cD 55 (.map (Z B.sm)) (cg #[J V o.1,J V o.2]) false).run af X.drew=.ok (aq (Z ⟨S.g,0,I⟩)) X.drew:=by
  have SL:=hD.jU o (ir ⟨z,z⟩ ⟨z,z⟩);rw[hS]at SL;exact SL
 obtain⟨SM,HR,HA⟩:=bU b3 h E;clear b3 h E hD SK hS;go_cut [18] (λv wc=>v=ai st.jc/\aC X wc);case first =>
  go_region;all_goals
   go_wp2_with fail;go_meet;exact⟨rfl,eW (ao _ _)⟩
 case rest =>
 obtain⟨rfl,bX⟩:=hcut;clear T SJ y0 y1 q7;have hA2:=HA.O.trans (bX.mono HA.O.size);cases F:st.jc with
 |true =>
  have hr:res=true:=by rw[n.O,F];rfl
  obtain⟨SX,j⟩:=bu hr hA2;clear hr hA2 F bX;go_wp2_with fail;go_ret;exact⟨by rw[SX.O];rfl,j.O⟩
 |false =>
  have hr:res=(R.ik o.1).any (rS R o.2):=by rw[n.O,F];rfl
  obtain⟨bh,a⟩:=dH (R.ik o.1);have r:tJ R.bh (λs=>s.cL&&decide (s.jo=o.1))=bh:=by rw[a,y9]
  rw[<-a]at hr;have h:=HR.O.below bX;have b3:=SM.O.kept bX;have p:=h.cw.cell 11;have y0:=b3.cell 0;simp at p y0;have U:=xQ B.t R.cW R.aQ R.bh N wc.drew ((h.below (eW (ao wc.drew.heap.size wc.drew))).part .table) z HK.O.may o.1;rw[r]at U;have hm:∀s∈bh,∃l,R.aD s=Z l/\0<=s/\s<6:=λs q=>by
   rw[<-r]at q;unfold tJ oR at q;rw[List.mem_filter]at q;have hq:=q.2;have:(R.aD s).isSome=true:=by
    rw[<-HK.O.iJ];cases e:R.bh s with
    |none=>rw[e]at hq;simp at hq
    |some y=>rfl
   obtain⟨l,hl⟩:=dw.1 this;exact⟨l,hl,HK.O.range s this⟩
  have Ti:bh.length<=6:=by rw[a];unfold M.Room.ik;exact aP (List.length_filter_le _ _) (aj 6)
  have yk:∀W,aC wc W->W.cell? ⟨B.g,11,I⟩=Z (aq (Z ⟨B.t.g,0,I⟩)):=λW b=>aM b p;have SY:∀W,aC wc W->W.cell? ⟨r3,0,I⟩=Z (J V o.1):=λW b=>aM b y0;obtain⟨SN,SZ,HM,j,Ta,SO⟩:=lH hr U hm hA2 h b3;clear hr a r h b3 p y0 U hm hA2 HR SM HA F bX n;go_wp2_with fail;go_region_held3 (λW=>aC wc W) (first|(with_reducible exact eW (ao _ _))|(with_reducible exact bx)|assumption) ((go_at_call 141;refine SZ.O.mono ?_;rintro e w9 ⟨v,rfl,own,b9⟩;obtain⟨A9,m9,rfl⟩:=bA own;have bx:=eW b9;have HO:=au own;have SP:=au bx;clear own b9));clear yk SY;go_wp2_with fail;go_loopw [27] (λi wr=>∃k:Nat,i=J V k/\k<=bh.length/\(∀s∈bh.take k,rS R o.2 s=false)/\wr.ownsRow wc.heap.size 3 1 (ae A9 bh.length m9) bh.length (bh.map (J V))/\aC wc wr) (λi _=>bh.length-(bS i).toNat);case atStart=>exact⟨0,rfl,z,dt,CA HO.O (aj _),SP.O⟩
  case round =>
   clear HO SP;obtain⟨k,rfl,hk,P,own,br⟩:=hrel;have Q:=au P;clear P;by_cases aI:k<bh.length;rotate_left
   ·have Tb:k=bh.length:=z;subst Tb;have e:res=false:=by
     rw[SN.O,List.any_eq_false];intro s q;have:=Q.O s (by rw[cT];exact q);simp[this]
    obtain⟨u,HB⟩:=bu e br;clear e br own;go_wp2_with fail;go_ret;exact⟨by rw[u.O];rfl,j.O.trans (HB.O.mono j.O.size)⟩
   have Tj:((k:Int)<(bh.length:Int)):=z;have hx:bh[k]? = Z bh[k]:=ay aI;obtain⟨r9,rfl,q1,Tk⟩:=uN own hx;obtain⟨l,hl,Tc,Td⟩:=HM.O bh[k] (dy aI);have x:bh[k]∈bh:=dy aI;have c:∀f:Bool,rS R o.2 bh[k]=f->f=false->∀s∈bh.take (k+1),rS R o.2 s=false:=by
    intro f e1 e2 s q;rw[List.take_add_one,hx]at q;rcases bt.1 q with q|q
    ·exact Q.O s q
    ·simp at q;subst q;rw[e1,e2]
   have A:rS R o.2 bh[k]=true->res=true:=λe=>by rw[SN.O,List.any_eq_true];exact⟨_,x,e⟩
   have df:rS R o.2 bh[k]=(l.wanted&&(!l.eG&&(l.pending&&decide (l.fh=o.2)))):=by unfold rS;rw[hl]
   generalize bh[k]=s at hx q1 hl Tc Td c A df x;have Te:(Lit.int V s).wf=true:=Ig z z;have hR:=Ta.O.below br;obtain⟨L,hL,hA⟩:=hR.jq hl;have SQ:=hR.cw.cell 12;simp at SQ;have T:(cD 54 (.map (Z B.lm)) (J V s) false).run af wr=.ok (aq (Z ⟨L.g,0,I⟩)) wr:=by
    have SL:=hR.kW s Te;rw[hL]at SL;exact SL
   obtain⟨SU,eI,SV,gX,Tf,HO,HB⟩:=lV (vH L R.dA.aG R.dA.aT l N wr hA) c A df hA own br;clear own br hx hl x c A df hR hA hL;go_upto_region 8 with(go_big_may;go_at_call 44;refine SU.O.mono ?_;rintro e w5 ⟨rfl,b5⟩;have mK:=au b5;clear b5)
   obtain⟨r8,e8⟩:=dH w5.heap.size;rw[<-e8];have E:aC wr (w5.alloc (.cells #[J V l.dx,J V l.fh] 68)):=mK.O.alloc mK.O.size _;refine aW (λY=>aK Y r8 68 #[J V l.dx,J V l.fh]/\aC wr Y) ⟨aK.newAt _ _ _ _ e8,E⟩ ?_;clear e8 E mK SU T SQ q1 w5;rintro Y ⟨b8,bY⟩;have z0:=b8.cell 0;have z1:=b8.cell 1;have b3:=(SO.O.kept HB.O).kept bY;have y1:=b3.cell 1;simp at z0 z1 y1;obtain⟨m,G,Tl,Th⟩:=cA (qK L R.dA.aG R.dA.aT l N Y (Tf.O.below bY)) bY b8 b3;have hp:om.NI l.dx l.fh=l.pending:=rfl;have C:=au (λW=>om.rV l.dx l.fh W);clear b8 bY b3;obtain⟨wa,SG⟩:=dH (l.wanted:Bool);rw[<-SG];obtain⟨wt,SH⟩:=dH ((wa&&(!l.eG&&(l.pending&&decide (l.fh=o.2)))):Bool);rw[<-SG,<-SH]at gX;have H:=au SH;clear SH SG;go_cut [58] (λv wd=>v=ai wt/\aC Y wd);case first =>
    cases wa with
    |false =>
     have e:wt=false:=by rw[H.O];rfl
     have u:=au e;clear e;go_wp2_with fail;go_meet;exact⟨by rw[u.O],ao _ _⟩
    |true =>
     cases hg:l.eG with
     |true =>
      have e:wt=false:=by rw[H.O,hg];rfl
      have u:=au e;clear e;rw[hg]at m;go_wp2_with (go_at_call 46;refine m.O.mono ?_;rintro e w6 ⟨rfl,D⟩;have D:=D.symm;subst D);go_meet;exact⟨by rw[u.O],ao _ _⟩
     |false =>
      rw[hg]at m;cases K:l.pending with
      |false =>
       have e:wt=false:=by rw[H.O,hg,K];rfl
       have u:=au e;clear e;rw[show om.NI l.dx l.fh=false from hp.trans K]at C;clear hp;go_wp2_with (first|(go_at_call 46;refine m.O.mono ?_;rintro e w6 ⟨rfl,D⟩;have D:=D.symm;subst D)|(go_at_call 18;refine(C.O _).mono ?_;rintro e w6 ⟨rfl,b6⟩;have SI:=au b6;clear b6));go_meet;exact⟨by rw[u.O],SI.O⟩
      |true =>
       have e:wt=decide (l.fh=o.2):=by rw[H.O,hg,K];rfl
       rw[show om.NI l.dx l.fh=true from hp.trans K]at C;have u:=au e;clear hp e;go_wp2_with (first|(go_at_call 46;refine m.O.mono ?_;rintro e w6 ⟨rfl,D⟩;have D:=D.symm;subst D)|(go_at_call 18;refine(C.O _).mono ?_;rintro e w6 ⟨rfl,b6⟩;have Tm:=aM b6 z1;have Tn:=aM b6 y1;have SI:=au b6;clear b6));go_meet;exact⟨by rw[u.O];first|rfl|(congr 1;rw[Bool.eq_iff_iff];simp),SI.O⟩
   case rest =>
    obtain⟨rfl,bd⟩:=hcut;have bw:=HB.O.trans ((G.O.trans (bd.mono G.O.size)).mono HB.O.size);have bo:=G.O.trans (bd.mono G.O.size);obtain⟨SW,Tg⟩:=bu bw bo;clear bd bw bo z0 z1 y1 m C hp;cases wt with
    |false =>
     go_wp2_with fail;go_roundw;case rel=>exact⟨k+1,by go_num,z,eI.O _ gX.O rfl,gI HO.O Tg.O,SW.O⟩
     case measure=>simp[bS];omega
    |true =>
     have e:=SV.O gX.O;have u:=au e;clear e;go_wp2_with fail;go_ret;exact⟨by rw[u.O];rfl,j.O.trans (SW.O.mono j.O.size)⟩
end
end
structure De(R S:M.Room)(s:Int):Prop where
 fo:qW (R.aD s)=qW (S.aD s)
 fF:M.kA R s=M.kA S s
 di:R.di s=S.di s
 aO:R.aO.length=S.aO.length
def Gu(o:Option M.dP):∃(a b c d e:Int) (f g:Bool),qW o=aB #[cg #[J V a,J V b],cg #[J V c,J V d,J V e],ai f,ai g]:=by
 cases o with
 |none=>exact⟨0,0,0,0,0,false,false,rfl⟩
 |some l=>exact⟨_,_,_,_,_,_,_,rfl⟩
def BF{w:aw}{base n c:Nat}{A:Option Addr}{zs:List Int}(h:w.ownsRow base 3 1 (ae A n c) n (zs.map (J V))):wU V w A n zs:=λh0=>by
 obtain⟨_,k⟩:=DM h;obtain⟨b,off,e,_,q⟩:=k h0;exact⟨b,off,e,q⟩
def Lz{R:M.Room}{N:Nat}{s:Int}{zs:List Int}(h:(∀s id,R.aO.length<=id->R.di s id=I)/\N<=1000000/\R.aO.length<=N)(p:xL (R.di s) zs):zs.length<=1000000:=by
 have b:zs.Nodup:=p.1.imp (λh=>Int.ne_of_lt h);have a:∀x∈zs,x∈(List.range R.aO.length).map (λi:Nat=>(i:Int)):=λx c=>by
  obtain⟨id,rfl,q⟩:=(p.2 x).1 c;refine eU.2 ⟨id,List.mem_range.2 ?_,rfl⟩;rcases Nat.lt_or_ge id R.aO.length with k|k
  ·exact k
  ·rw[h.1 s id k]at q;cases q
 have:=List.Nodup.length_le_of_subset b a;simp at this;omega
def Ao{B:RB}{R:M.Room}{N:Nat}{w:aw}(h:aL w B R N)(s:Int):(M.kA R s).length<=N:=by
 unfold M.kA;cases a:R.aD s with
 |none=>simp
 |some l =>
  obtain⟨L,_,b⟩:=h.jq a;exact b.small
def Dv{B C:RB}{R S:M.Room}{N M':Nat}{w:aw}(h:aL w B R N)(h2:aL w C S M')(s:Int)(hs:(Lit.int V s).wf=true)(al:De R S s)(hN:N<=1000000)(hM:M'<=1000000)(mK:∀s id,R.aO.length<=id->R.di s id=I)(SG:∀s id,S.aO.length<=id->S.di s id=I) :
  aF af 21 #[aq (Z ⟨B.g,0,I⟩),aq (Z ⟨C.g,0,I⟩),J V s] w λe w'=>e=av (ai true)/\aC w w':=by
 obtain⟨E,F,l0,l1,l2,gn,th,he⟩:=Gu (R.aD s);have G:=λW (b:aC w W)=>AZ (h.below b) s hs;have p:=λW (b:aC w W)=>AZ (h2.below b) s hs;rw[<-al.fo]at p;rw[he]at G p;obtain⟨SH,SI,H,H2,r,L,SJ⟩:=lV G p h h2 al mK SG;clear G p h h2 al mK SG he;go_enter func21,ntmps21;go_upto_region 2 with(go_at_call 15;refine(SH.O _ (ao _ _)).mono ?_;rintro e w2 ⟨rfl,b2⟩;have u:=au b2;clear b2)
 obtain⟨r7,e7⟩:=dH w2.heap.size;obtain⟨r8,e8⟩:=dH (w2.heap.size+1);rw[<-e8,<-e7];refine aW (λX=>aK X r7 68 #[J V E,J V F]/\aK X r8 69 #[J V l0,J V l1,J V l2]/\aC w X) ⟨(aK.newAt _ _ _ _ e7).alloc _,aK.newAt _ _ _ _ (by rw[e8];simp),(u.O.alloc u.O.size _).alloc (by have:=u.O.size;simp;omega) _⟩ ?_;clear e7 e8 u;rintro X ⟨b7,b8,bX⟩;obtain⟨SK,SL,y⟩:=bU b7 b8 bX;clear b7 b8 bX;go_upto_region 3 with(go_at_call 15;refine(SI.O _ y.O).mono ?_;rintro e w3 ⟨rfl,b3⟩;have A:=au b3;clear b3)
 obtain⟨P,Q⟩:=dH w3.heap.size;obtain⟨T,U⟩:=dH (w3.heap.size+1);rw[<-U,<-Q];have b3:=y.O.trans (A.O.mono y.O.size);refine aW (λY=>aK Y r7 68 #[J V E,J V F]/\aK Y r8 69 #[J V l0,J V l1,J V l2]/\aK Y P 68 #[J V E,J V F]/\aK Y T 69 #[J V l0,J V l1,J V l2]/\aC w Y) ⟨((SK.O.kept A.O).alloc _).alloc _,((SL.O.kept A.O).alloc _).alloc _,(aK.newAt _ _ _ _ Q).alloc _,aK.newAt _ _ _ _ (by rw[U];simp),(b3.alloc b3.size _).alloc (by have:=b3.size;simp;omega) _⟩ ?_;clear Q U b3 SK SL A y SH SI;rintro Y ⟨b7,b8,SM,SN,bY⟩;have hR:=H.O.below bY;have hS:=H2.O.below bY;have rows:∀(g:Nat) (t:TypeId) (cs:Array Value),aK Y g t cs->∀W,aC Y W->∀(j:Nat) v,cs.toList[j]? = Z v->W.cell? ⟨g,0+j,I⟩=Z v:=λg t cs hB W i j v l=>aM i (by rw[cO];exact(hB.cell j).trans (by simpa using l));obtain⟨D7,D8,SW,SX⟩:=cA (rows r7 68 _ b7) (rows r8 69 _ b8) (rows P 68 _ SM) (rows T 69 _ SN);have m:∀(g:Nat) (t:TypeId) (cs:Array Value) (x:Value),aK Y g t cs->cs[0]? = Z x->∀W,aC Y W->∀(j:Nat) v,(#[x]:Array Value).toList[j]? = Z v->W.cell? ⟨g,0+j,I⟩=Z v:=λg t cs x hB hx W i j v l=>by
  rcases j with _|j
  ·simp at l;rw[<-l];exact aM i ((hB.cell 0).trans hx)
  ·simp at l
 obtain⟨DB,DC,SY⟩:=bU (m B.g 61 _ (aq (Z ⟨B.bg,0,I⟩)) hR.cw rfl) (m C.g 61 _ (aq (Z ⟨C.bg,0,I⟩)) hS.cw rfl) (λW (b:aC Y W)=>tL (hR.below b) s hs hN);have aI:=λW (b:aC Y W)=>tL (hS.below b) s hs hM;rw[<-r.O.fF]at aI;have SZ:=au aI;clear aI;have Ta:=au (λW (b:aC Y W)=>ya B.bg B.bm N R.di s W ((hR.below b).part .di) hN);have df:=λW (b:aC Y W)=>ya C.bg C.bm M' S.di s W ((hS.below b).part .di) hM;rw[<-r.O.di]at df;have Tb:=au df;clear df;obtain⟨Tc,SO⟩:=bu (⟨L.O,hN,hR.et.aO⟩:(∀s id,R.aO.length<=id->R.di s id=I)/\N<=1000000/\R.aO.length<=N) (λW (b:aC Y W)=>wB B.bg B.bm N R.aO.length R.di s W ((hR.below b).part .di) hN L.O);have eI:=λW (b:aC Y W)=>wB C.bg C.bm M' S.aO.length S.di s W ((hS.below b).part .di) hM SJ.O;have ef:pX S.di S.aO.length s=pX R.di R.aO.length s:=by
  have e0:∀f,mq S.di S.aO.length s f=mq R.di R.aO.length s f:=λf=>by unfold mq;rw[r.O.di,r.O.aO]
  unfold pX;simp only[e0]
 rw[ef]at eI;have SP:=au eI;obtain⟨cv,gX⟩:=dH (pX R.di R.aO.length s);rw[<-gX]at SO SP;have D:∀W:aw,(Op.equalIn 10000 46 (cg cv) (cg cv)).run af W=.ok true W:=λW=>by rw[gX];exact QE [_,_,_,_,_,_,_,_,_] rfl W
 have SQ:=au D;clear D gX;have SU:=Ao hR s;obtain⟨Td,SV⟩:=bu SU bY;clear rows m hR hS b7 b8 SM SN eI ef SU bY H H2 L SJ;refine fC (S:=λW=>aC Y W) cC (eW (ao _ _)) (λa=>?_);refine Fj 0 (cg #[J V E,J V F]) rfl (eS jP 68 (.tmp 7) rfl r7 0 rfl (#[J V E,J V F]:Array Value).toList _ (λW i j v l=>D7.O W i j v l) underlying68 rfl cC) a ?_;try simp only[aA,pqq]
 refine Fj 1 (cg #[J V E,J V F]) rfl (eS jP 68 (.tmp 11) rfl P 0 rfl (#[J V E,J V F]:Array Value).toList _ (λW i j v l=>SW.O W i j v l) underlying68 rfl cC) a ?_;simp only[aA,pqq]
 refine fS 2 (ai true) rfl a ?_;simp only[aA,pqq]
 refine fS 3 (ai true) rfl a ?_;simp only[aA,pqq]
 refine Fj 4 (cg #[J V l0,J V l1,J V l2]) rfl (eS jP 69 (.tmp 8) rfl r8 0 rfl (#[J V l0,J V l1,J V l2]:Array Value).toList _ (λW i j v l=>D8.O W i j v l) underlying69 rfl cC) a ?_;simp only[aA,pqq]
 refine Fj 5 (cg #[J V l0,J V l1,J V l2]) rfl (eS jP 69 (.tmp 12) rfl T 0 rfl (#[J V l0,J V l1,J V l2]:Array Value).toList _ (λW i j v l=>SX.O W i j v l) underlying69 rfl cC) a ?_;simp only[aA,pqq]
 refine fS 6 (ai true) rfl a ?_ (hy:=λW i=>by have q:=QD l0 l1 l2 W;go_simp);simp only[aA,pqq]
 refine fS 7 (ai true) rfl a ?_;simp only[aA,pqq]
 refine fS 8 (ai true) rfl a ?_;simp only[aA,pqq]
 refine fS 9 (ai gn) rfl a ?_;simp only[aA,pqq]
 refine fS 10 (ai gn) rfl a ?_;simp only[aA,pqq]
 refine fS 11 (ai true) rfl a ?_;simp only[aA,pqq]
 refine fS 12 (ai true) rfl a ?_;simp only[aA,pqq]
 refine fS 13 (ai true) rfl a ?_;simp only[aA,pqq]
 refine fS 14 (ai th) rfl a ?_;simp only[aA,pqq]
 refine fS 15 (ai th) rfl a ?_;simp only[aA,pqq]
 refine fS 16 (ai true) rfl a ?_;simp only[aA,pqq]
 refine fS 17 (ai true) rfl a ?_;simp only[aA,pqq]
 refine fS 18 (ai true) rfl a ?_;simp only[aA,pqq]
 refine fS 19 (aq (Z ⟨B.g,0,I⟩)) rfl a ?_;simp only[aA,pqq]
 refine fS 20 (J V s) rfl a ?_;simp only[aA,pqq]
 refine fS 22 (aq (Z ⟨C.g,0,I⟩)) rfl a ?_;simp only[aA,pqq]
 refine fS 23 (J V s) rfl a ?_;simp only[aA,pqq]
 refine cH (rs:=[21]) cC dt ?_;refine bH rfl (λK d=>?_) cy;rw[if_pos jP];go_simp;go_at_call 13;refine(SY.O _ a).mono ?_;rintro e w4 ⟨v1,q1,rfl,o1,f1,n⟩;dsimp only;have h4:aC Y w4:=a.trans (n.mono a.size);refine d.out _ _ h4 (λo=>?_);clear o d K;try simp only[aA,pqq]
 refine cH (rs:=[24]) cC dt ?_;refine bH rfl (λK d=>?_) cy;rw[if_pos jP];go_simp;go_at_call 13;refine(SZ.O _ h4).mono ?_;rintro e w5 ⟨v2,q2,rfl,o2,f2,n⟩;dsimp only;have h5:aC Y w5:=h4.trans (n.mono h4.size);have o1:=gI o1 n;have f1:=f1.mono λx c k=>k.rows (.bn n);have Te:=au (LC _ _ v1 v2 _ q1 q2 w5 o1 o2 f1 f2 (aP Td.O hN));clear o1 o2 f1 f2;refine d.out _ _ h5 (λo=>?_);clear o d K;try simp only[aA,pqq]
 refine cH (rs:=[25]) cC dt ?_;refine bH rfl (λK d=>?_) cy;rw[if_pos jP];go_simp;go_at_call 58;refine(Te.O).mono ?_;rintro e w6 ⟨rfl,n⟩;dsimp only;have h6:aC Y w6:=h5.trans (n.mono h5.size);refine d.out _ _ h6 (λo=>?_);clear o d K;try simp only[aA,pqq]
 refine fS 26 (ai true) rfl h6 ?_;simp only[aA,pqq]
 refine fS 27 (ai true) rfl h6 ?_;simp only[aA,pqq]
 refine fS 28 (aq (Z ⟨B.g,0,I⟩)) rfl h6 ?_;simp only[aA,pqq]
 refine fS 29 (aq (Z ⟨B.g,0,I⟩)) rfl h6 ?_;simp only[aA,pqq]
 refine fS 30 (aq (Z ⟨B.g,0,I⟩)) rfl h6 ?_;simp only[aA,pqq]
 refine Fj 31 (cg #[aq (Z ⟨B.bg,0,I⟩)]) rfl (eS jP 50 (.tmp 61) rfl B.g 0 rfl (#[aq (Z ⟨B.bg,0,I⟩)]:Array Value).toList _ (λW i j v l=>DB.O W i j v l) underlying50 rfl cC) h6 ?_;simp only[aA,pqq]
 refine fS 32 (J V s) rfl h6 ?_;simp only[aA,pqq]
 refine fS 34 (aq (Z ⟨C.g,0,I⟩)) rfl h6 ?_;simp only[aA,pqq]
 refine fS 35 (aq (Z ⟨C.g,0,I⟩)) rfl h6 ?_;simp only[aA,pqq]
 refine fS 36 (aq (Z ⟨C.g,0,I⟩)) rfl h6 ?_;simp only[aA,pqq]
 refine Fj 37 (cg #[aq (Z ⟨C.bg,0,I⟩)]) rfl (eS jP 50 (.tmp 67) rfl C.g 0 rfl (#[aq (Z ⟨C.bg,0,I⟩)]:Array Value).toList _ (λW i j v l=>DC.O W i j v l) underlying50 rfl cC) h6 ?_;simp only[aA,pqq]
 refine fS 38 (J V s) rfl h6 ?_;simp only[aA,pqq]
 refine cH (rs:=[33]) cC dt ?_;refine bH rfl (λK d=>?_) cy;rw[if_pos jP];go_simp;go_at_call 60;refine(Ta.O _ h6).mono ?_;rintro e w7 ⟨v3,z3,rfl,o3,p3,n⟩;dsimp only;have h7:aC Y w7:=h6.trans (n.mono h6.size);refine d.out _ _ h7 (λo=>?_);clear o d K;try simp only[aA,pqq]
 refine cH (rs:=[39]) cC dt ?_;refine bH rfl (λK d=>?_) cy;rw[if_pos jP];go_simp;go_at_call 60;refine(Tb.O _ h7).mono ?_;rintro e w8 ⟨v4,z4,rfl,o4,p4,n⟩;dsimp only;have h8:aC Y w8:=h7.trans (n.mono h7.size);have o3:=gI o3 n;have ez:=p3.same p4;subst ez;obtain⟨A3,c3,rfl⟩:=bA o3;obtain⟨A4,c4,rfl⟩:=bA o4;have Tf:=au (I8 A3 A4 z3.length c3 c4 z3 w8 (BF o3) (BF o4) (Lz Tc.O p3));clear o3 o4 p3 p4;refine d.out _ _ h8 (λo=>?_);clear o d K;try simp only[aA,pqq]
 refine cH (rs:=[40]) cC dt ?_;refine bH rfl (λK d=>?_) cy;rw[if_pos jP];go_simp;go_at_call 59;refine(Tf.O).mono ?_;rintro e w9 ⟨rfl,j9,rfl⟩;dsimp only;have h9:aC Y (w8.drewN j9):=cd h8 j9;refine d.out _ _ h9 (λo=>?_);clear o d K;try simp only[aA,pqq]
 refine fS 41 (ai true) rfl h9 ?_;simp only[aA,pqq]
 refine fS 42 (ai true) rfl h9 ?_;simp only[aA,pqq]
 refine fS 43 (aq (Z ⟨B.g,0,I⟩)) rfl h9 ?_;simp only[aA,pqq]
 refine fS 44 (aq (Z ⟨B.g,0,I⟩)) rfl h9 ?_;simp only[aA,pqq]
 refine fS 45 (aq (Z ⟨B.g,0,I⟩)) rfl h9 ?_;simp only[aA,pqq]
 refine Fj 46 (cg #[aq (Z ⟨B.bg,0,I⟩)]) rfl (eS jP 50 (.tmp 76) rfl B.g 0 rfl (#[aq (Z ⟨B.bg,0,I⟩)]:Array Value).toList _ (λW i j v l=>DB.O W i j v l) underlying50 rfl cC) h9 ?_;simp only[aA,pqq]
 refine fS 47 (J V s) rfl h9 ?_;simp only[aA,pqq]
 refine fS 49 (aq (Z ⟨C.g,0,I⟩)) rfl h9 ?_;simp only[aA,pqq]
 refine fS 50 (aq (Z ⟨C.g,0,I⟩)) rfl h9 ?_;simp only[aA,pqq]
 refine fS 51 (aq (Z ⟨C.g,0,I⟩)) rfl h9 ?_;simp only[aA,pqq]
 refine Fj 52 (cg #[aq (Z ⟨C.bg,0,I⟩)]) rfl (eS jP 50 (.tmp 82) rfl C.g 0 rfl (#[aq (Z ⟨C.bg,0,I⟩)]:Array Value).toList _ (λW i j v l=>DC.O W i j v l) underlying50 rfl cC) h9 ?_;simp only[aA,pqq]
 refine fS 53 (J V s) rfl h9 ?_;simp only[aA,pqq]
 refine cH (rs:=[48]) cC dt ?_;refine bH rfl (λK d=>?_) cy;rw[if_pos jP];go_simp;go_at_call 12;refine(SO.O _ h9).mono ?_;rintro e Tg ⟨rfl,n⟩;dsimp only;have xx:aC Y Tg:=h9.trans (n.mono h9.size);refine d.out _ _ xx (λo=>?_);clear o d K;try simp only[aA,pqq]
 refine cH (rs:=[54]) cC dt ?_;refine bH rfl (λK d=>?_) cy;rw[if_pos jP];go_simp;go_at_call 12;refine(SP.O _ xx).mono ?_;rintro e Th ⟨rfl,n⟩;dsimp only;have yk:aC Y Th:=xx.trans (n.mono xx.size);refine d.out _ _ yk (λo=>?_);clear o d K;try simp only[aA,pqq]
 refine fS 55 (ai true) rfl yk ?_ (hy:=λW i=>by have q:=SQ.O W;go_simp);simp only[aA,pqq]
 refine fS 56 (ai true) rfl yk ?_;simp only[aA,pqq]
 refine fS 57 (ai true) rfl yk ?_;simp only[aA,pqq]
 refine gV cC ?_ _;go_wp2_with fail;go_ret;exact⟨rfl,SV.O.trans (yk.mono SV.O.size)⟩
def JY(p bk o c:Nat)(m:Nat)(eJ cX eA ek aT:Int)(v0:Value)(w:aw)(hp:aK w p 180 #[v0])(N:bk≠p)
  (d:∀(j:Nat) x,[(m:Int),eJ,cX,eA,ek,aT][j]? = Z x->w.cell? ⟨bk,o+j,I⟩=Z (J V x)) (F:M.jr m eJ cX eA ek aT=true) :
  aF af 202 #[aq (Z ⟨p,0,I⟩),ae (Z ⟨bk,o,I⟩) 6 c] w λe w'=>∃B:RB,e=av (J V 0)/\aL w' B (.new ⟨m,eJ,cX,eA,ek,aT⟩) 0/\(∀i,B.all i->w.heap.size<=i)/\aK w' p 180 #[aq (Z ⟨B.g,0,I⟩)]/\cS (One p) w w':=by
 have G:w.cell? ⟨bk,o,I⟩=Z (J V (m:Int)):=d 0 _ rfl;have c1:=d 1 _ rfl;have c2:=d 2 _ rfl;have c3:=d 3 _ rfl;have c4:=d 4 _ rfl;have c5:=d 5 _ rfl;obtain⟨P,s,t,v,y,A,C,D⟩:=qh (tM m eJ cX eA ek aT w.drew F) hp (λW (b:aC w W)=>aM b G) (λW (b:aC w W)=>aM b c1) (λW (b:aC w W)=>aM b c2) (λW (b:aC w W)=>aM b c3) (λW (b:aC w W)=>aM b c4) (λW (b:aC w W)=>aM b c5);clear hp F d G c1 c2 c3 c4 c5;go_enter func202,ntmps202;go_upto_region 1 with fail;go_cut [5,6] (λa b wc=>b=J V 0/\∃B:RB,a=aq (Z ⟨B.g,0,I⟩)/\aL wc B (.new ⟨m,eJ,cX,eA,ek,aT⟩) 0/\(∀i,B.all i->w.heap.size<=i)/\aC w wc);case first =>
  refine fC (S:=λW=>aC w W) cC (eW (ao _ _)) (λh=>?_);refine fS 0 (ae (Z ⟨bk,o,I⟩) 6 c) rfl h ?_;try simp only[aA,pqq]
  refine fS 1 (aq (Z ⟨bk,o,I⟩)) rfl h ?_;simp only[aA,pqq]
  refine fS 2 (J V (m:Int)) rfl h ?_ (hy:=λW l=>by have q:=t.O W l;go_simp);simp only[aA,pqq]
  refine fS 3 (ae (Z ⟨bk,o,I⟩) 6 c) rfl h ?_;simp only[aA,pqq]
  refine fS 4 (aq (Z ⟨bk,o+1,I⟩)) rfl h ?_;simp only[aA,pqq]
  refine fS 5 (J V eJ) rfl h ?_ (hy:=λW l=>by have q:=v.O W l;go_simp);simp only[aA,pqq]
  refine fS 6 (ae (Z ⟨bk,o,I⟩) 6 c) rfl h ?_;simp only[aA,pqq]
  refine fS 7 (aq (Z ⟨bk,o+2,I⟩)) rfl h ?_;simp only[aA,pqq]
  refine fS 8 (J V cX) rfl h ?_ (hy:=λW l=>by have q:=y.O W l;go_simp);simp only[aA,pqq]
  refine fS 9 (ae (Z ⟨bk,o,I⟩) 6 c) rfl h ?_;simp only[aA,pqq]
  refine fS 10 (aq (Z ⟨bk,o+3,I⟩)) rfl h ?_;simp only[aA,pqq]
  refine fS 11 (J V eA) rfl h ?_ (hy:=λW l=>by have q:=A.O W l;go_simp);simp only[aA,pqq]
  refine fS 12 (ae (Z ⟨bk,o,I⟩) 6 c) rfl h ?_;simp only[aA,pqq]
  refine fS 13 (aq (Z ⟨bk,o+4,I⟩)) rfl h ?_;simp only[aA,pqq]
  refine fS 14 (J V ek) rfl h ?_ (hy:=λW l=>by have q:=C.O W l;go_simp);simp only[aA,pqq]
  refine fS 15 (cg #[J V eA,J V ek]) rfl h ?_;simp only[aA,pqq]
  refine fS 16 (ae (Z ⟨bk,o,I⟩) 6 c) rfl h ?_;simp only[aA,pqq]
  refine fS 17 (aq (Z ⟨bk,o+5,I⟩)) rfl h ?_;simp only[aA,pqq]
  refine fS 18 (J V aT) rfl h ?_ (hy:=λW l=>by have q:=D.O W l;go_simp);simp only[aA,pqq]
  refine fS 19 (cg #[J V (m:Int),J V eJ,J V cX,J V eA,J V ek,J V aT]) rfl h ?_;simp only[aA,pqq]
  refine cH (rs:=[20]) cC dt ?_;refine bH rfl (λK H=>?_) cy;rw[if_pos jP];go_simp;go_at_call 9;refine P.O.mono ?_;rintro e w2 ⟨⟨B,rfl,hR,k⟩,b2⟩;dsimp only;have h2:aC w w2:=h.trans (b2.mono h.size);refine H.out _ _ h2 (λQ=>?_);clear Q H K;try simp only[aA,pqq]
  refine fS 21 (aB #[aq (Z ⟨B.g,0,I⟩),J V 0]) rfl h2 ?_;simp only[aA,pqq]
  refine fS 22 (aq (Z ⟨B.g,0,I⟩)) rfl h2 ?_;simp only[aA,pqq]
  refine fS 23 (J V 0) rfl h2 ?_;simp only[aA,pqq]
  refine fS 24 (aq (Z ⟨B.g,0,I⟩)) rfl h2 ?_;simp only[aA,pqq]
  refine fS 25 (J V 0) rfl h2 ?_;simp only[aA,pqq]
  refine gV cC ?_ _;go_wp2_with fail;go_meet;exact⟨rfl,B,rfl,hR,k,h2⟩
 case rest =>
  obtain⟨rfl,B,rfl,hR,k,E⟩:=hcut;have r:=s.O.kept E;have R:=r.cell 0;have f0:=r.frozen 0;simp at R;have T:=s.O.lt;obtain⟨U,L,X,n⟩:=cA hR k E r;clear hR k E r s;go_wp2_with fail;go_ret;have f:Fr (One p) wc (wc.setCell ⟨p,0,I⟩ (aq (Z ⟨B.g,0,I⟩))):=(Fr.refl (One p) _).setCell n.O (.inl rfl) aR aR 0 _;exact⟨B,rfl,U.O.fr f (λi Y q=>by have:=L.O i Y;rw[show i=p from q]at this;omega),L.O,by simpa using n.O.bC 0 (aq (Z ⟨B.g,0,I⟩)),(cS.bn X.O).trans f.u⟩
end Go.Proofs.YtkfblammcilfhaaGreatDoor
