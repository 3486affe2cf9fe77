import Derived.ScopeJumps
import Derived.Test.YtkfblammcilfhaaGreatDoorP4
import Derived.Test.YtkfblammcilfhaaGreatDoorP5
set_option linter.all false
set_option maxRecDepth 100000
set_option maxHeartbeats 100000000
open Go.ChangeShapes Go.WideShapes Go.ChangeAt Go.RowKit Go.Proofs.Tryz
open Go renaming World->aw,zeroValue->ja,Calls->aF,bodyPost_ret->ax,results->aV,bodyPost_end->dq,results_none->bT,info_parts->cY
open Option.some renaming injEq->bf
open List renaming mem_cons->fw,getElem?_eq_getElem->ay,filter_append->ju,length_filter_le->eE,mem_filter->eL,pairwise_mergeSort->tq,length_mergeSort->oU,pairwise_cons->cv,mem_cons_of_mem->dI,flatten_cons->jM
open Go.Proofs.Tryz renaming prog->af
open Go.Instr renaming lookup->cD,mapUpdate->eF
open List.Nodup renaming mem_erase_iff->iH,length_le_of_subset->dX
open Go.RowKit.Below renaming refl->ao
open Nat renaming le_refl->aj,le_of_eq->lO,le_trans->aP,add_mul->jG
open Option renaming getD_none->gy,isSome_none->fy,getD_some->gS,isSome_some->fQ,none->I,some->Z
open Go.Value renaming int->J,slice->ae,bool->ai,pointer->aq,tuple->aB,agg->cg
open Bool renaming and_eq_true->cM
open Go.IntKind renaming i64->V,u32->ar,u8->bI
open Go.Ending renaming returned->av
namespace Go.Proofs.YtkfblammcilfhaaGreatDoor
section
def Rows(w w':aw):Prop:=∀i t cs,t=5\/t=41->aK w i t cs->aK w' i t cs
def Rows.refl(w:aw):Rows w w:=λ_ _ _ _ h=>h
def Rows.trans{a b c:aw}(h:Rows a b)(k:Rows b c):Rows a c:=λi t cs ht d=>k i t cs ht (h i t cs ht d)
def Rows.bn{a b:aw}(h:aC a b):Rows a b:=λi t cs ht c=>c.kept h
def Rows.drew{a b:aw}(h:Rows a b):Rows a b.drew:=λi t cs ht c=>h i t cs ht c
def Rows.alloc{a b:aw}(h:Rows a b)(o:Obj):Rows a (b.alloc o):=λi t cs ht c=>(h i t cs ht c).alloc o
def Rows.setCell{a b:aw}(h:Rows a b){g:Nat}{t:TypeId}{cs:Array Value}(k:aK b g t cs)(h5:t≠5)(d:t≠41)(i:Nat)(v:Value):Rows a (b.setCell ⟨g,i,I⟩ v):=λj e c ht f =>
 (h j e c ht f).dS (p:=⟨g,i,I⟩) (aK.jf (h j e c ht f) k (by rcases ht with rfl|rfl;exact Ne.symm h5;exact Ne.symm d)) v
def PY(w:aw)(i:Nat):Prop:=(∃es k,w.heap[i]? = Z (.map es k))\/∃t cs,aK w i t cs/\t≠5/\t≠41
def PY.cw{w:aw}{i:Nat}{t:TypeId}{cs:Array Value}(h:aK w i t cs)(h5:t≠5)(a:t≠41):PY w i:=.inr ⟨t,cs,h,h5,a⟩
def PY.ne{w:aw}{i g:Nat}{t:TypeId}{cs:Array Value}(h:PY w i)(a:aK w g t cs)(ht:t=5\/t=41):i≠g:=by
 rintro rfl;rcases h with⟨es,k,h⟩ | ⟨d,c,h,h5,b⟩
 ·unfold aK at a;rw[a]at h;cases h
 ·unfold aK at a h;rw[a]at h;simp only[bf,Obj.cells.injEq]at h;obtain⟨_,rfl,_⟩:=h;rcases ht with rfl|rfl
  ·exact h5 rfl
  ·exact b rfl
def vP(w:aw)(F:Nat->Prop):Prop:=∀i,F i->PY w i
def vP.none(w:aw):vP w cr:=λi hi=>hi.elim
def Typed.ni{w:aw}{F:Nat->Prop}{ts:List TypeId}(T:Typed w F ts)(h5:5∉ts)(a:41∉ts):vP w F:=λi hi=>by
 obtain⟨t,cs,ht,b⟩:=T i hi;exact .cw b (λe=>h5 (e ▸ ht)) (λe=>a (e ▸ ht))
def Rows.jT{w w':aw}{F:Nat->Prop}(u:cS F w w')(T:vP w F):Rows w w':=λi t cs ht a=>a.dW u λq=>(T i q).ne a ht rfl
structure Fr(F:Nat->Prop)(w w':aw):Prop where
 u:cS F w w'
 r:Rows w w'
section
variable {F G:Nat->Prop} {a b c:aw}
def Fr.refl(F:Nat->Prop)(w:aw):Fr F w w:=⟨cS.refl _ _,Rows.refl _⟩
def Fr.trans(h:Fr F a b)(k:Fr F b c):Fr F a c:=⟨h.u.trans k.u,h.r.trans k.r⟩
def Fr.mono(h:Fr F a b)(c:∀i,i<a.heap.size->F i->G i):Fr G a b:=⟨h.u.mono c,h.r⟩
def Fr.step(h:Fr F a b)(k:Fr G b c)(d:∀i,G i->F i\/a.heap.size<=i):Fr F a c:=⟨h.u.step k.u d,h.r.trans k.r⟩
def Fr.bn(h:aC a b):Fr F a b:=⟨.bn h,.bn h⟩
def Fr.then(h:Fr F a b)(k:aC b c):Fr F a c:=h.trans (.bn k)
def Fr.jT(u:cS F a b)(T:vP a F):Fr F a b:=⟨u,.jT u T⟩
def Fr.nY{ts:List TypeId}(u:cS F a b)(T:Typed a F ts)(h5:5∉ts)(c:41∉ts):Fr F a b:=.jT u (T.ni h5 c)
def Fr.drew(h:Fr F a b):Fr F a b.drew:=⟨h.u.drew,h.r.drew⟩
def Fr.alloc(h:Fr F a b)(o:Obj):Fr F a (b.alloc o):=⟨h.u.alloc o,h.r.alloc o⟩
def Fr.setCell(h:Fr F a b){g:Nat}{t:TypeId}{cs:Array Value}(d:aK b g t cs)(hg:F g\/a.heap.size<=g)(h5:t≠5)(c:t≠41)(i:Nat)(v:Value):Fr F a (b.setCell ⟨g,i,I⟩ v):=
 ⟨h.u.setCell (p:=⟨g,i,I⟩) hg v,h.r.setCell d h5 c i v⟩
def Fr.size(h:Fr F a b):a.heap.size<=b.heap.size:=h.u.size
def Fr.below{B:Nat}(h:Fr F a b)(c:B<=a.heap.size)(hF:∀i,F i->B<=i):Below B a b:=h.u.below c hF
end
section
variable {t:TypeId} {k:IntKind} {w w':aw} {A:Option Addr} {n:Nat} {xs:List Int}
def TL.rows(h:TL t k w A n xs)(ht:t=5\/t=41)(r:Rows w w'):TL t k w' A n xs:=h.map λb cs a=>r b t cs ht a
def Sl.At.rows{s:Sl}(h:s.At t k w xs)(ht:t=5\/t=41)(r:Rows w w'):s.At t k w' xs:=h.map λq=>q.rows ht r
def iT.rows{p:M.cR}{s e y:Sl}(h:iT w p s e y)(r:Rows w w'):iT w' p s e y:=h.map (·.rows (.inr rfl) r) (·.rows (.inl rfl) r)
end
def im:aw->Nat->Nat->List Value->aw
 |w,_,_,[]=>w
 |w,g,i,v::vs=>im (w.setCell ⟨g,i,I⟩ v) g (i+1) vs
def aK.im{g:Nat}{t:TypeId}:∀(vs:List Value) (i:Nat) {w:aw} {cs:Array Value},aK w g t cs->aK (im w g i vs) g t (ph cs i vs)
 |[],_,_,_,h=>h
 |v::vs,i,_,_,h=>aK.im vs (i+1) (h.bC i v)
def Fr.im{g:Nat}{t:TypeId}(h5:t≠5)(b:t≠41):∀(vs:List Value) (i:Nat) {a w:aw} {cs:Array Value} {F:Nat->Prop},aK w g t cs->(F g\/a.heap.size<=g)->Fr F a w->Fr F a (im w g i vs)
 |[],_,_,_,_,_,_,_,f=>f
 |v::vs,i,_,_,_,_,h,hg,f=>Fr.im h5 b vs (i+1) (h.bC i v) hg (f.setCell h hg h5 b i v)
def Fit{α:Type}(R:α->List Value->Prop):List α->List (List Value)->Prop
 |[],[]=>True
 |x::xs,c::cs=>R x c/\Fit R xs cs
 |_,_=>False
section
variable {α:Type} {R S:α->List Value->Prop}
def Fit.mono(a:∀x c,R x c->S x c):∀{xs:List α} {cs:List (List Value)},Fit R xs cs->Fit S xs cs
 |[],[],_=>trivial
 |x::xs,c::cs,h=>⟨a x c h.1,Fit.mono a h.2⟩
 |[],_::_,h=>h.elim
 |_::_,[],h=>h.elim
def Fit.length:∀{xs:List α} {cs:List (List Value)},Fit R xs cs->cs.length=xs.length
 |[],[],_=>rfl
 |x::xs,c::cs,h=>by simp[Fit.length h.2]
 |[],_::_,h=>h.elim
 |_::_,[],h=>h.elim
def Fit.snoc:∀{xs:List α} {cs:List (List Value)} {x:α} {c:List Value},Fit R xs cs->R x c->Fit R (xs++[x]) (cs++[c])
 |[],[],_,_,_,h=>⟨h,trivial⟩
 |x::xs,c::cs,_,_,h,k=>⟨h.1,Fit.snoc h.2 k⟩
 |[],_::_,_,_,h,_=>h.elim
 |_::_,[],_,_,h,_=>h.elim
def Fit.cons_inv{x:α}{xs:List α}{cs:List (List Value)}(h:Fit R (x::xs) cs):∃c a,cs=c::a/\R x c/\Fit R xs a:=by
 cases cs with
 |nil=>exact h.elim
 |cons c cs=>exact⟨c,cs,rfl,h⟩
def Fit.mem:∀{xs:List α} {cs:List (List Value)},Fit R xs cs->∀c∈cs,∃x∈xs,R x c
 |[],[],_=>λc b=>by simp at b
 |x::xs,c::cs,h=>λd a=>by
  rcases fw.1 a with rfl|a
  ·exact⟨x,dt,h.1⟩
  ·obtain⟨y,hy,hR⟩:=Fit.mem h.2 d a;exact⟨y,by simp[hy],hR⟩
 |[],_::_,h=>h.elim
 |_::_,[],h=>h.elim
def Fit.get:∀{xs:List α} {cs:List (List Value)} {i:Nat} {x:α},Fit R xs cs->xs[i]? = Z x->∃c,cs[i]? = Z c/\R x c
 |x::xs,c::cs,0,_,h,e=>by simp at e;subst e;exact⟨c,rfl,h.1⟩
 |x::xs,c::cs,i+1,_,h,e=>by simpa using Fit.get h.2 (by simpa using e)
 |[],_,_,_,_,e=>by simp at e
 |_::_,[],_,_,h,_=>h.elim
end
end
section
open Go.Maps (Keyed)
section
variable {κ:Type} [DecidableEq κ]
def gA(S:Keys κ)(w:aw)(b:Nat)(F:κ->Option Value)(N:Nat):Prop:=∃ds f,gE S w b ds f/\(∀x,F x=if x∈ds then Z (f x) else I)/\ds.length<=N
variable {S:Keys κ} {w w':aw} {b N:Nat} {F:κ->Option Value}
theorem gA.made(w:aw)(S:Keys κ):gA S (w.alloc (.map #[] 0)) w.heap.size (λ_=>I) 0:=⟨[],λ_=>undef,gE.made w _,λx=>dt,dt⟩
theorem gA.lt(h:gA S w b F N):b<w.heap.size:=by obtain⟨ds,f,h1,_⟩:=h;exact h1.lt
theorem gA.dW{G:Nat->Prop}(h:gA S w b F N)(u:cS G w w')(a:¬G b):gA S w' b F N:=by obtain⟨ds,f,h1,h2⟩:=h;exact⟨ds,f,h1.dW u a,h2⟩
theorem gA.below(h:gA S w b F N)(u:aC w w'):gA S w' b F N:=h.dW (F:=F) (G:=cr) (.bn u) id
theorem gA.ki(h:gA S w b F N){g:Nat}{t:TypeId}{cs:Array Value}(a:aK w g t cs):b≠g:=by obtain⟨ds,f,h1,_⟩:=h;exact h1.ki a
theorem gA.mono{M:Nat}(h:gA S w b F N)(a:N<=M):gA S w b F M:=by obtain⟨ds,f,h1,h2,h3⟩:=h;exact⟨ds,f,h1,h2,z⟩
theorem gA.congr{G:κ->Option Value}(h:gA S w b F N)(e:∀x,F x=G x):gA S w b G N:=by have:F=G:=funext e;subst this;exact h
variable (he:∀x y,S.enc x=S.enc y->x=y) {t e:TypeId} (ht:af.underlying t=Z (.map S.k e))
include he ht
theorem gA.my(h:gA S w b F N)(y:κ)(c:S.ok y){a:Value}(d:(ja e).run af w=.ok a w) :
  (cD t (.map (Z b)) (S.enc y) true).run af w=.ok (aB #[(F y).getD a,ai (F y).isSome]) w:=by
 obtain⟨ds,f,h1,h2,h3⟩:=h;rw[gE.my w he ht b ds f h1 y c d,h2 y];by_cases hy:y∈ds<;>simp[hy]
theorem gA.sW(h:gA S w b F N)(y:κ)(g:S.ok y){d:Value}(i:(ja e).run af w=.ok d w) :
  (cD t (.map (Z b)) (S.enc y) false).run af w=.ok ((F y).getD d) w:=by
 obtain⟨ds,f,⟨D,h1,h4⟩,h2,h3⟩:=h;obtain⟨v,ps,c,a⟩:=h1.lookup S.K ht i (zd:=.held d) (zp:=[]) (R:=RV) rfl (S.key y g);have hh:=h4.has y g;have j:v=(F y).getD d:=by
  rw[h2 y];simp only[RV,bf,Prod.mk.injEq]at a;by_cases hy:y∈ds
  ·rw[h4.at_ y hy]at a;simp at a;rw[if_pos hy];exact a.1
  ·have k:Maps.has D (S.kl y)=false:=by rw[hh];simp[hy]
   rw[Maps.atKey_of_not_has k]at a;simp at a;rw[if_neg hy];exact a.1
 rw[c,j]
theorem gA.nX(h:gA S w b F N)(d:N<1000000)(y:κ)(c:Value)(a:S.ok y) :
  ∃w',(eF t (.map (Z b)) (S.enc y) c).run af w=.ok () w'/\gA S w' b (M.set F y (Z c)) (N+1)/\cS (One b) w w':=by
 obtain⟨ds,f,h1,h2,h3⟩:=h;by_cases hy:y∈ds
 ·obtain⟨w',hr,hm,u⟩:=gE.nX w he ht b ds f h1 ui y c hy;refine⟨w',hr,⟨ds,_,hm,λx=>?_,z⟩,u⟩;unfold M.set;by_cases e:x=y
  ·subst e;simp[hy]
  ·simp[e,h2 x]
 ·obtain⟨w',hr,hm,u⟩:=gE.Ci w he ht b ds f h1 ui y c hy a;refine⟨w',hr,⟨_,_,hm,λx=>?_,dZ⟩,u⟩;unfold M.set;by_cases e:x=y
  ·subst e;simp
  ·simp[e,h2 x]
theorem gA.Dw(h:gA S w b F N)(y:κ)(c:S.ok y)(ty:TypeId) :
  ∃w',(Builtin.delete_ #[t,S.k] ty #[.map (Z b),S.enc y]).run af w=.ok (aB #[]) w'/\gA S w' b (M.set F y I) N/\cS (One b) w w':=by
 obtain⟨ds,f,⟨D,h1,h4⟩,h2,h3⟩:=h;obtain⟨w',hr,d,g⟩:=World.ownsMap.drop h1 S.K ht (S.key y c) ty;have C:=h4.del he (h1.tidy S.K) c;refine⟨w',hr,⟨ds.erase y,f,⟨_,by rw[<-C.size];exact CB d,C⟩,λx=>?_,by have:=List.length_erase_le (a:=y) (l:=ds);omega⟩,tH g.grown⟩;unfold M.set;by_cases e:x=y
 ·subst e;simp[iH h4.nodup]
 ·simp[iH h4.nodup,e,h2 x]
end
end
def PZ.bC{ds:List (Int×Int)}{v:Int×Int->Int}{bk:Bk}{N:Nat}(h:PZ ds v bk N){s:Int}{id:Nat}(hy:((s,(id:Int)):Int×Int)∈ds){f:Int}(g:0<=f/\f<=8) :
  PZ ds (λx=>if x=(s,(id:Int)) then f else v x) (M.set bk s (M.set (bk s) id (Z f))) N:=by
 refine⟨λs' a=>?_,h.wb,λx i=>?_,h.small⟩
 ·unfold M.set;by_cases c:s'=s
  ·subst c;rw[if_pos rfl];by_cases d:a=id
   ·subst d;rw[if_pos rfl,if_pos hy];simp
   ·have b:((s',(a:Int)):Int×Int)≠(s',(id:Int)):=by intro q;injection q with _ q;omega
    rw[if_neg d,h.at_ s' a];simp only[b,if_false]
  ·have b:((s',(a:Int)):Int×Int)≠(s,(id:Int)):=by intro q;injection q with q _;exact c q
   rw[if_neg c,h.at_ s' a];simp only[b,if_false]
 ·by_cases e:x=(s,(id:Int))
  ·simp[e,g]
  ·simp only[e,if_false];exact h.sJ x i
def Ad(g m N:Nat)(bk:Bk)(s:Int)(id:Nat)(f:Int)(w:aw)(h:eD w g m bk N)(S:-1000000000000<=s/\s<=1000000000000)(hi:id<=1000000)(r:bk s id=Z 0)(H:1<=f/\f<=8)(hN:N<1000000) :
  aF af 167 #[aq (Z ⟨g,0,I⟩),pv (s,(id:Int)),J V f] w λe w'=>e=av (J V 0)/\eD w' g m (M.set bk s (M.set (bk s) id (Z f))) N/\cS (One m) w w':=by
 obtain⟨ds,v,o,p,hR⟩:=h;have hlen:ds.length<1000000:=by have:=hR.small;omega
 have a:=hR.at_ s id;have hy:((s,(id:Int)):Int×Int)∈ds:=by
  by_cases q:((s,(id:Int)):Int×Int)∈ds
  ·exact q
  ·rw[r,if_neg q]at a;cases a
 have t:v (s,(id:Int))=0:=by rw[r,if_pos hy]at a;simpa using a.symm
 have ok:=okB (s:=s) (id:=id) S hi;have i:=hR.bC hy (f:=f) ⟨z,H.2⟩;obtain⟨u,T⟩:=bu i hy;have U:m≠g:=p.ki o;have lm:=p.lt;have lg:=o.lt;clear a hR i r;go_enter func167,ntmps167;go_upto_region 1 with fail;obtain⟨y,b⟩:=dH w.heap.size;rw[<-b];refine aW (λW=>aK W y 210 #[J V s,J V id]/\aK W g 204 #[.map (Z m)]/\gE KB W m ds (λx=>J V (v x))/\aC w W) ⟨aK.newAt _ _ _ _ b,o.alloc _,p.alloc _,(ao _ w).alloc (aj _) _⟩ ?_;rintro W ⟨b3,c,d,j⟩;have X:y≠m:=z;clear b o p;have A:=c.cell 0;have B:=b3.cell 0;have C:=b3.cell 1;simp at A B C;have Tf:(cD 202 (.map (Z m)) (cg #[J V s,J V id]) true).run af W.drew=.ok (aB #[J V 0,ai true]) W.drew:=by
  have q:=gE.Iq W.drew ue nV m ds _ (d.dW (F:=cr) (cS.refl cr W).drew (λq=>q)) (s,(id:Int)) ok hy (vc _);rw[t]at q;exact q
 clear hy;obtain⟨HM,H3,HG,AL⟩:=cA d b3 c j;clear d b3 c j;go_wp2_with (refine(xR f W H).mono ?_;rintro e w2 ⟨rfl,D⟩;have k:=D.symm;subst k);go_region;all_goals
  refine gN (λY=>aK Y y 210 #[J V s,J V id]/\aK Y g 204 #[.map (Z m)]/\gE KB Y m ds (λx=>J V (v x))/\aC w Y) ⟨H3.O.drew,HG.O.drew,HM.O.dW (F:=cr) (cS.refl cr W).drew (λq=>q),cd AL.O 1⟩ ?_;rintro Y ⟨b3,c,d,j⟩;have A:=c.cell 0;have B:=b3.cell 0;have C:=b3.cell 1;simp at A B C;obtain⟨Tg,K,L,E⟩:=gE.nX Y.drew ue nV m ds _ (d.dW (F:=cr) (cS.refl cr Y).drew (λq=>q)) ui (s,(id:Int)) (J V f) T.O;have K:(eF 202 (.map (Z m)) (cg #[J V s,J V id]) (J V f)).run af Y.drew=.ok () Tg:=K;have P:=c.drew.dW E (λq=>U q.symm);have Q:=((cS.bn (F:=One m) j).drew.trans E);obtain⟨l,G,n⟩:=bU P L Q;clear b3 c d j P L E Q;go_wp2_with fail;go_region;all_goals
   go_wp2_with fail;go_ret;refine⟨rfl,⟨_,λx=>if x=(s,(id:Int)) then f else v x,?_,?_,u.O⟩,?_⟩
   ·first|exact l.O|exact l.O.drew
   ·have R:=G.O.congr (g:=λx=>J V (if x=(s,(id:Int)) then f else v x)) (λx _=>by split<;>rfl);first|exact R|exact R.dW (F:=cr) ((cS.refl cr _).drewN _) (λq=>q)
   ·first|exact n.O|exact n.O.drewN _
abbrev Qv(g:Nat):Value:=cg #[aq (Z ⟨g,0,I⟩)]
def Ec(g m N:Nat)(bk:Bk)(s:Int)(id:Nat)(w:aw)(h:eD w g m bk N)(b:-1000000000000<=s/\s<=1000000000000)(hi:id<=1000000) :
  aF af 185 #[Qv g,J V s,J V id] w λe w'=>e=av (aB #[J V ((bk s id).getD 0),ai (bk s id).isSome])/\aC w w':=by
 have h2:=h.below ((ao _ w).alloc (aj _) (.cells #[aq (Z ⟨g,0,I⟩)] 50));have H:=au (Db g m N bk s id _ h2 b hi);have a:=(ao w.heap.size w).alloc (aj _) (.cells #[aq (Z ⟨g,0,I⟩)] 50);clear h h2;go_enter func185,ntmps185;go_wp2_with (refine H.O.mono ?_;rintro e w2 ⟨rfl,b2⟩);refine ax (v:=aB #[J V ((bk s id).getD 0),ai (bk s id).isSome]) (by simp[aV,results185,go_sem]) rfl ⟨rfl,a.trans (b2.mono a.size)⟩
def DO(g m N:Nat)(bk:Bk)(s:Int)(id:Nat)(w:aw)(h:eD w g m bk N)(f:-1000000000000<=s/\s<=1000000000000)(hi:id<=1000000) :
  aF af 126 #[Qv g,J V s,J V id] w λe w'=>e=av (ai (decide (bk s id=Z 0)))/\aC w w':=by
 have h2:=h.below ((ao _ w).alloc (aj _) (.cells #[aq (Z ⟨g,0,I⟩)] 50));have a:=Ec g m N bk s id _ h2 f hi;have b:=(ao w.heap.size w).alloc (aj _) (.cells #[aq (Z ⟨g,0,I⟩)] 50);clear h h2;cases d:bk s id with
 |none =>
  rw[d]at a;have H:=au a;clear a;go_enter func126,ntmps126;go_wp2_with (refine H.O.mono ?_;rintro e w2 ⟨rfl,b2⟩;simp only[gy,fy]);refine ax (v:=ai false) (by simp[aV,results126,go_sem]) rfl ⟨dt,b.trans (b2.mono b.size)⟩
 |some k =>
  rw[d]at a;have H:=au a;clear a;by_cases c:k=0
  ·subst c;go_enter func126,ntmps126;go_wp2_with (refine H.O.mono ?_;rintro e w2 ⟨rfl,b2⟩;simp only[gS,fQ]);refine ax (v:=ai true) (by simp[aV,results126,go_sem]) rfl ⟨dt,b.trans (b2.mono b.size)⟩
  ·have i:(k==0)=false:=by simpa using c
   go_enter func126,ntmps126;go_wp2_with (refine H.O.mono ?_;rintro e w2 ⟨rfl,b2⟩;simp only[gS,fQ]);refine ax (v:=ai false) (by simp[aV,results126,go_sem,c]) rfl ⟨by simp[c],b.trans (b2.mono b.size)⟩
def wS(bk:Bk)(s:Int)(id:Nat)(f:Int):Bk:=if bk s id=Z 0 then M.set bk s (M.set (bk s) id (Z f)) else bk
def FL(g m N:Nat)(bk:Bk)(s:Int)(id:Nat)(f:Int)(w:aw)(h:eD w g m bk N)(l:-1000000000000<=s/\s<=1000000000000)(hi:id<=1000000)(n:1<=f/\f<=8)(o:N<1000000) :
  aF af 114 #[Qv g,J V s,J V id,J V f] w λe w'=>e=av (aB #[])/\eD w' g m (wS bk s id f) N/\cS (One m) w w':=by
 have h2:=h.below ((ao _ w).alloc (aj _) (.cells #[aq (Z ⟨g,0,I⟩)] 50));have b:=DO g m N bk s id _ h2 l hi;have j:=(ao w.heap.size w).alloc (aj _) (.cells #[aq (Z ⟨g,0,I⟩)] 50);have a:bk s id=Z 0->∀W,eD W g m bk N->aF af 167 #[aq (Z ⟨g,0,I⟩),pv (s,(id:Int)),J V f] W λe w'=>e=av (J V 0)/\eD w' g m (M.set bk s (M.set (bk s) id (Z f))) N/\cS (One m) W w':=λq W c=>Ad g m N bk s id f W c l hi q n o;have b4:=aK.new w 50 #[aq (Z ⟨g,0,I⟩)];unfold wS;by_cases d:bk s id=Z 0
 ·have i:decide (bk s id=Z 0)=true:=by simpa using d
  rw[i]at b;rw[if_pos d];have H:=au b;have HS:=au (a d);have k:=au h2;have p:=au b4;clear b a h2 h i b4;go_enter func114,ntmps114;go_wp2_with (first
   |(refine H.O.mono ?_;rintro e w2 ⟨rfl,b2⟩;have c4:=(p.O.kept b2).cell 0;simp at c4;have c:=k.O.below b2)
   |(refine(HS.O w2 c).mono ?_;rintro e w3 ⟨rfl,h3,u3⟩))
  first
   |refine dq (bT results114 _ _ _) rfl ?_
   |refine ax (v:=aB #[]) (by simp[aV,results114,go_sem]) rfl ?_
  exact⟨rfl,h3,(cS.bn (j.trans (b2.mono j.size))).trans u3⟩
 ·have i:decide (bk s id=Z 0)=false:=by simpa using d
  rw[i]at b;rw[if_neg d];obtain⟨H,k⟩:=bu b h2;clear b a h2 h i b4;go_enter func114,ntmps114;go_wp2_with (refine H.O.mono ?_;rintro e w2 ⟨rfl,b2⟩;have c:=k.O.below b2);first
   |refine dq (bT results114 _ _ _) rfl ?_
   |refine ax (v:=aB #[]) (by simp[aV,results114,go_sem]) rfl ?_
  exact⟨rfl,c,.bn (j.trans (b2.mono j.size))⟩
def Hm(B:vi)(aG cX now:Int)(b:M.mf)(h:M.js)(r:List M.js)(w:aw)(d:gC w B aG cX b)(j:Bi now)(hh:b.bD=h::r)(hr:b.ready aG cX now=true) :
  aF af 125 #[aq (Z ⟨B.g,0,I⟩),J V now] w λe w'=>e=av (aB #[J V h.bO,J V h.id,ai true])/\∃B',gC w' B' aG cX b.least/\B'.g=B.g/\cS B.own w w'/\∀i,B'.own i->B.own i:=by
 have h1:=Bd B aG cX now b w d j;rw[hr]at h1;have k:=au d;have H1:=au h1;have l:=au hh;clear d h1 hh hr;go_enter func125,ntmps125;go_wp2_with (first
  |(refine H1.O.mono ?_;rintro e w2 ⟨rfl,b2⟩;have a:=k.O.below b2)
  |(refine(Bn B aG cX b h r _ a l.O).mono ?_;rintro e w3 ⟨B',rfl,c,g3,u3,m⟩;have b8:=aK.new w3 326 #[J V h.bO,J V h.jv,J V h.id];have n:=b8.cell 0;have o:=b8.cell 2;simp at n o))
 have z0:=b8.drew.cell 0;have z2:=b8.drew.cell 2;simp at z0 z2;obtain⟨f,u4⟩:=bu (c.below ((ao _ w3).alloc (aj _) (.cells #[J V h.bO,J V h.jv,J V h.id] 326))) (((cS.bn (F:=B.own) b2).trans u3).alloc (.cells #[J V h.bO,J V h.jv,J V h.id] 326));clear a c;go_quiet (fail);all_goals
  go_wp2_with fail;refine ax (v:=aB #[J V h.bO,J V h.id,ai true]) (by simp[aV,results125,go_sem]) rfl ⟨rfl,B',f.O.dW (F:=cr) ((cS.refl cr _).drewN _) (λ_ _ q=>q),g3,u4.O.drewN _,m⟩
def wE:(af.info? 3).map (λi=>(i.zero,i.size,i.bytes))=Z (Z (J V 0),1,8):=cC
def GF(n s i:Int)(w:aw):(Instr.field 326 (cg #[J V n,J V s,J V i]) 2).run af w=.ok (J V i) w:=cC
def ua(b:M.mf):∀k,k<=b.bD.length->(M.mf.iu k b).bD=b.bD.drop k:=by
 intro k;induction k generalizing b with
 |zero=>intro _;rfl
 |succ k d =>
  intro a;cases hh:b.bD with
  |nil=>rw[hh]at a;simp at a
  |cons h r =>
   have c:b.least.bD=r:=by unfold M.mf.least;rw[hh]
   rw[show M.mf.iu (k+1) b=M.mf.iu k b.least from rfl,d b.least (by rw[c];rw[hh]at a;simpa using a),c];rfl
def CQ(b:M.mf):∀k,M.mf.iu (k+1) b=(M.mf.iu k b).least:=by
 intro k;induction k generalizing b with
 |zero=>rfl
 |succ k a=>rw[show M.mf.iu (k+1+1) b=M.mf.iu (k+1) b.least from rfl,a b.least];rfl
def Da(B:vi)(aG cX:Int)(b:M.mf)(w:aw)(H:gC w B aG cX b) :
  aF af 117 #[aq (Z ⟨B.g,0,I⟩)] w λe w'=>∃v,e=av v/\w'.ownsRow w.heap.size 3 1 v b.bD.length (b.bD.map λh=>J V h.id)/\∃B',gC w' B' aG cX (M.mf.iu b.bD.length b)/\B'.g=B.g/\cS B.own w w'/\∀i,B'.own i->B.own i:=by
 obtain⟨i0,hi,t,u,y⟩:=cY wE;obtain⟨HI,L,N,P⟩:=cA hi t u y;clear hi t u y;have Tf:=H.small;have a:=H.lt;have m:w.ownsRow w.heap.size 3 1 (ae I 0 0) 0 []:=⟨dt,.inl ⟨rfl,rfl⟩⟩;obtain⟨HB,C⟩:=bu H a;clear H a;go_enter func117,ntmps117;go_wp2_with fail;go_loopw [3] (λv wr=>∃(k:Nat) (B':vi),k<=b.bD.length/\wr.ownsRow w.heap.size 3 1 v k ((b.bD.map λh=>J V h.id).take k)/\gC wr B' aG cX (M.mf.iu k b)/\B'.g=B.g/\cS B.own w wr/\∀i,B'.own i->B.own i) (λv _=>b.bD.length-(match v with | ae _ n _=>n | _=>0));case atStart=>exact⟨0,B,z,m,HB.O,rfl,cS.refl _ w,λi q=>q⟩
 case round =>
  clear m;obtain⟨k,B',U,own,s,hg,hu,Q⟩:=hrel;have hlen:(M.mf.iu k b).bD.length=b.bD.length-k:=by rw[ua b k U,List.length_drop]
  obtain⟨A',c',f⟩:=bA s.row;rw[hlen]at f;have c2:=s.cw.cell 2;simp[f,hg]at c2;by_cases a:k<b.bD.length
  ·obtain⟨x,D⟩:∃x,b.bD[k]? = Z x:=⟨_,ay a⟩;have X:(M.mf.iu k b).bD=x::b.bD.drop (k+1):=by
    rw[ua b k U,List.drop_eq_getElem_cons a];rw[ay a]at D;simp only[bf]at D;rw[D]
   have E:(b.bD.map λh=>J V h.id).take (k+1)=(b.bD.map λh=>J V h.id).take k++[J V x.id]:=by rw[List.take_add_one,List.getElem?_map,D];rfl
   have hle:∀W,gC W B' aG cX (M.mf.iu k b)->aF af 168 #[aq (Z ⟨B.g,0,I⟩)] W λe w'=>∃p,e=av (ug x)/\gC w' p aG cX (M.mf.iu (k+1) b)/\p.g=B'.g/\cS B'.own W w'/\∀i,p.own i->B'.own i:=λW hW=>by
    have q:=Bn B' aG cX (M.mf.iu k b) x _ W hW X;rw[hg,<-CQ]at q;rw[hg];exact q
   obtain⟨A,c,rfl⟩:=bA own;have q1:(0:Int)<((b.bD.length-k:Nat):Int):=z;have HT:=au E;have R:=au hle;have K:=au own;have r:=au s;have S:=au hu;have j:=au Q;have sz:=hu.size;have Y:=GF x.bO x.jv x.id;clear E hle own s hu Q X D f hlen;go_wp2_with (first
    |(refine(R.O wr r.O).mono ?_;rintro e w3 ⟨B3,rfl,F,g3,u3,o3⟩;have l:=du K.O u3 (λi hi q=>by have h1:=(K.O.lt i hi).1;have h2:=C.O i (j.O i q);omega))
    |(at_builtin;go_loud (refine dV _ rfl _ _ 36 rfl w.heap.size 3 i0 (J V 0) 1 8 underlying36 HI.O L.O N.O P.O rfl aR _ _ _ rfl (l.alloc _) ⟨w3.heap.size,0,I⟩ 1 1 [J V x.id] rfl rfl (fB w3 3 #[J V x.id]) tk ui z (by have:=u3.size;simp;omega) ?_)))
   intro v5 w5 d g5 _;have u5:=eT g5;have o:∀i,B3.own i->¬(ae A k c).ownBlock=Z i:=λi hi q=>by
    have h1:=((l.alloc (.cells #[J V x.id] 3)).lt i q).1;have h2:=C.O i (j.O i (o3 i hi));omega
   have G:=(F.below ((ao _ w3).alloc (aj _) (.cells #[J V x.id] 3))).dW u5 o;have uu:=((S.O.trans (u3.mono λi _ q=>j.O i q)).alloc (.cells #[J V x.id] 3)).step u5 (λi q=>.inr ((l.alloc (.cells #[J V x.id] 3)).lt i q).1);obtain⟨A5,c5,rfl⟩:=bA d;obtain⟨K1,K2,K3⟩:=bU d G uu;clear d G uu u5 g5 o F u3 l;go_wp2_with fail;go_roundw;case rel=>exact⟨k+1,B3,z,by rw[HT.O];exact K1.O,K2.O,by rw[g3,hg],K3.O,λi hi=>j.O i (o3 i hi)⟩
   case measure=>simp;omega
  ·have T:k=b.bD.length:=z;subst T;rw[List.take_of_length_le dt]at own;obtain⟨A,c,rfl⟩:=bA own;rw[Nat.sub_self]at c2;obtain⟨K,r,S⟩:=bU own s hu;clear own s hu f hlen;go_wp2_with fail;go_ret;exact⟨_,rfl,K.O,B',r.O,hg,S.O,Q⟩
def lK(v:Int×Int->Int)(sub:Int)(done:List (Int×Int)):List Int:=(done.filter λx=>decide (x.1=sub)&&decide (v x=0)).map (·.2)
def DK(v:Int×Int->Int)(sub:Int)(done:List (Int×Int))(x:Int×Int):lK v sub (done++[x])=lK v sub done++if x.1=sub/\v x=0 then[x.2] else[]:=by
 unfold lK;rw[ju,List.map_append];congr 1;by_cases h1:x.1=sub<;>by_cases h2:v x=0<;>simp[h1,h2]
def zu(v:Int×Int->Int)(sub:Int)(done:List (Int×Int)):(lK v sub done).length<=done.length:=by unfold lK;rw[List.length_map];exact eE _ _
def rV(g m N:Nat)(bk:Bk)(sub:Int)(w:aw)(h:eD w g m bk N)(hN:N<=1000000) :
  aF af 102 #[aq (Z ⟨g,0,I⟩),J V sub] w λe w'=>∃(v:Value) (zs:List Int),e=av v/\w'.ownsRow w.heap.size 3 1 v zs.length (zs.map (J V))/\aC w w'/\zs.Pairwise (· < ·)/\∀x:Int,x∈zs↔∃id:Nat,x=id/\bk sub id=Z 0:=by
 obtain⟨ds,v,L,X,hR⟩:=h;obtain⟨i0,hi,M,P,Q⟩:=cY wE;obtain⟨HI,Tf,Tg,Ti⟩:=cA hi M P Q;clear hi M P Q;have c0:=L.cell 0;simp at c0;have mg:=X.ki L;have lm:=X.lt;have lg:=L.lt;have Tj:=hR.small;have t:w.ownsRow w.heap.size 3 1 (ae I 0 0) 0 []:=⟨dt,.inl ⟨rfl,rfl⟩⟩;obtain⟨HM,HG,HR⟩:=bU X L hR;clear X L hR;go_enter func102,ntmps102;go_wp2_with (at_range;go_loud (refine uK _ nV rfl _ rfl m ds _ rfl HM.O ?_));intro w1 r1 u1 s1;have o1:=du t u1 (λi hi=>by cases hi);have G1:=HG.O.dW u1 (λq=>q);have B1:aC w w1:=u1.below (aj _) (λ_ q=>q.elim);obtain⟨r,n⟩:=dH w.heap.size;rw[<-n]at r1 ⊢;have Tk:w.heap.size<=r:=lO n.symm;have rm:r≠m:=z;clear n;obtain⟨Tl,Tm,Tn,Tv⟩:=cA r1 o1 B1 G1;clear t HM HG c0 u1 o1 r1 B1 G1 s1;go_wp2_with fail;go_loopw [5] (λpv wr=>∃done,kY KB wr m r ds (λx=>J V (v x)) done/\wr.ownsRow w.heap.size 3 1 pv (lK v sub done).length ((lK v sub done).map (J V))/\aC w wr/\(∀i,pv.ownBlock=Z i->i≠r)) (λ_ wr=>wr.rangeLeft m r);case atStart=>exact⟨[],Tl.O,by simpa[lK]using Tm.O,Tn.O,λi hi=>by cases hi⟩
 case round =>
  obtain⟨done,hr,own,bl,fr⟩:=hrel;obtain⟨A,c,rfl⟩:=bA own;go_wp2_with (at_next;go_loud (refine vR _ ue rfl _ rfl m r ds _ done rfl hr ?d ?q));case d =>
   intro u;have f:=hr.sub;have hn:(lK v sub done).length<=1000000:=aP (zu v sub done) (aP (dX f.1 f.2) (aP Tj hN));have B:∀x:Int,x∈sorted (lK v sub done)↔∃id:Nat,x=id/\bk sub id=Z 0:=λx=>by
    rw[List.mem_mergeSort];unfold lK;rw[List.mem_map];constructor
    ·rintro⟨⟨a,b⟩,hm,rfl⟩;rw[eL]at hm;simp only[cM,decide_eq_true_eq]at hm;have Y:=f.2 _ hm.1;have C:=HR.O.wb _ Y;refine⟨b.toNat,by simp only at C ⊢;omega,?_⟩;rw[HR.O.at_ sub b.toNat,show((b.toNat:Nat):Int)=b from by simp only at C;omega,<-hm.2.1,if_pos Y,hm.2.2]
    ·rintro⟨id,rfl,R⟩;rw[HR.O.at_ sub id]at R;split at R
     ·rename_i Y;refine⟨(sub,(id:Int)),?_,rfl⟩;rw[eL];simp only[bf]at R;simp[u _ _ Y,R]
     ·cases R
   have S:(sorted (lK v sub done)).Pairwise (· < ·):=by
    have h1:(sorted (lK v sub done)).Pairwise (λa b=>decide (a<=b)=true):=tq (λa b c h1 h2=>by simp at *;omega) (λa b=>dZ) _;have T:(lK v sub done).Nodup:=by
     unfold lK List.Nodup;rw[List.pairwise_map];refine List.Pairwise.imp_of_mem ?_ (List.Pairwise.filter (λx=>decide (x.1=sub)&&decide (v x=0)) f.1);intro x y hx hy To e;have h1:=(eL.1 hx).2;have h2:=(eL.1 hy).2;simp only[cM,decide_eq_true_eq]at h1 h2;exact To (Prod.ext (h1.1.trans h2.1.symm) e)
    have h2:(sorted (lK v sub done)).Nodup:=(List.mergeSort_perm _ _).nodup_iff.2 T;exact(List.pairwise_and_iff.2 ⟨h1,h2⟩).imp (λ{a b} q=>by have:=q.1;have:=q.2;simp at *;omega)
   have hs:=ze wr own hn;obtain⟨HS,Tp,Tq,BL,k,OL⟩:=lH hs B S bl fr own.lt;clear hs B S own bl fr hr u f;go_wp2_with (refine HS.O.mono ?_;rintro e w5 ⟨rfl,o5,g5⟩);go_ret;refine⟨_,sorted (lK v sub done),rfl,by rw[oU];exact o5,?_,Tq.O,Tp.O⟩;exact BL.O.trans ((eT g5).below BL.O.size (λi q=>(OL.O i q).1))
  case q =>
   intro a b w2 Tw T E G u2 Ts D;have Tt:(Instr.entry (aq (Z ⟨r,0,I⟩))).run af w2=.ok (aB #[cg #[J V a,J V b],J V (v (a,b))]) w2:=D;clear D;have H:=DK v sub done (a,b);simp only at H;have o2:=du own u2 (λi hi q=>fr i hi q);have b2:=bl.trans (u2.below bl.size (λi q=>by rw[show i=r from q];exact Tk));have rl:=E.lt;obtain⟨p,l,j,s,k⟩:=gY o2 b2 E H fr;clear o2 b2 E H own bl hr fr Ts;generalize U:v (a,b)=fv at Tt s;have Tx:=au U;clear U;by_cases ha:a=sub
   ·subst ha;by_cases hf:fv=0
    ·subst hf;have K:=p.O.alloc (.cells #[J V a,J V b] 210);have hlen:(lK v a done).length<=1000000:=aP (zu v a done) (by have q:=(j.O).sub;have q2:=dX q.1 q.2;simp at q2;omega);have OW:=au K;clear K;go_wp2_with (at_builtin;go_loud (refine dV _ rfl _ _ 36 rfl w.heap.size 3 i0 (J V 0) 1 8 underlying36 HI.O Tf.O Tg.O Ti.O rfl aR _ _ _ rfl (OW.O.alloc _) ⟨w2.heap.size+1,0,I⟩ 1 1 [J V b] rfl rfl ?c1 ?c2 ?c3 ?c4 ?c5 ?_));all_goals first
      |exact rfl
      |(unfold maxLen;omega)
      |omega
      |(have:=l.O.size;simp;omega)
      |intro v5 w5 o g5 W
     have u5:=eT g5;have hA:∀i,(ae A (lK v a done).length c).ownBlock=Z i->w.heap.size<=i:=λi q=>(p.O.lt i q).1;have R5:=(j.O.dW (F:=cr) (((cS.refl _ _).alloc (.cells #[J V a,J V b] 210)).alloc (.cells #[J V b] 3)) id id);have R6:=R5.dW u5 (λq=>by have:=hA _ q;omega) (λq=>k.O _ q rfl);have uu:=(((cS.bn (F:=λi=>w.heap.size<=i) (l.O)).alloc (.cells #[J V a,J V b] 210)).alloc (.cells #[J V b] 3)).trans (u5.mono λi _ q=>hA i q);have B5:=uu.below (aj _) (λi q=>q);have L5:=R5.kj u5 (λq=>by have:=hA _ q;omega) (λq=>k.O _ q rfl);have L6:=j.O.kj (F:=cr) (((cS.refl _ _).alloc (.cells #[J V a,J V b] 210)).alloc (.cells #[J V b] 3)) id id;have F5:∀i,v5.ownBlock=Z i->i≠r:=λi q=>by
      rcases W i q with q|q
      ·exact k.O i q
      ·have:=j.O.lt;omega
     obtain⟨A5,c5,rfl⟩:=bA o;obtain⟨K1,K2,K3,K4⟩:=cA o R6 B5 F5;have K5:w5.rangeLeft m r<wr.rangeLeft m r:=by rw[L5,L6];exact G
     clear o R6 B5 F5 R5 uu u5 g5 W L5 L6 hA;go_wp2_with fail;go_roundw;case rel =>
      refine⟨done++[(a,b)],K2.O,?_,K3.O,?_⟩
      ·rw[s.O];simpa using K1.O
      ·exact K4.O
     case measure=>exact K5
    ·have Tu:(fv==0)=false:=by simpa using hf
     go_wp2_with fail;go_roundw;case rel =>
      have K:=p.O.alloc (.cells #[J V a,J V b] 210);refine⟨done++[(a,b)],j.O.dW (F:=cr) ((cS.refl _ _).alloc _) id id,by rw[s.O];simpa[hf]using K,l.O.alloc l.O.size _,k.O⟩
     case measure=>rw[j.O.kj (F:=cr) ((cS.refl _ _).alloc _) id id];exact G
   ·have Tu:(a==sub)=false:=by simpa using ha
    go_wp2_with fail;go_roundw;case rel =>
     have K:=p.O.alloc (.cells #[J V a,J V b] 210);refine⟨done++[(a,b)],j.O.dW (F:=cr) ((cS.refl _ _).alloc _) id id,by rw[s.O];simpa[ha]using K,l.O.alloc l.O.size _,k.O⟩
    case measure=>rw[j.O.kj (F:=cr) ((cS.refl _ _).alloc _) id id];exact G
def eD.cw{w:aw}{g m N:Nat}{bk:Bk}(h:eD w g m bk N):aK w g 204 #[.map (Z m)]:=by obtain⟨ds,v,h1,_⟩:=h;exact h1
def eD.congr{w:aw}{g m N:Nat}{bk a:Bk}(h:eD w g m bk N)(e:∀s id,bk s id=a s id):eD w g m a N:=by
 have:bk=a:=by funext s id;exact e s id
 subst this;exact h
def eD.nX{w:aw}{g m N:Nat}{bk:Bk}(h:eD w g m bk N)(n:N<1000000){s:Int}{id:Nat}(c:(bk s id).isSome=true){f:Int}(j:0<=f/\f<=8) :
  ∃a,(eF 202 (.map (Z m)) (cg #[J V s,J V id]) (J V f)).run af w=.ok () a/\eD a g m (M.set bk s (M.set (bk s) id (Z f))) N/\cS (One m) w a:=by
 obtain⟨ds,v,d,e,hR⟩:=h;have hlen:ds.length<1000000:=by have:=hR.small;omega
 have b:=hR.at_ s id;have hy:((s,(id:Int)):Int×Int)∈ds:=by
  by_cases q:((s,(id:Int)):Int×Int)∈ds
  ·exact q
  ·rw[b,if_neg q]at c;cases c
 obtain⟨a,k,l,i⟩:=gE.nX w ue nV m ds _ e ui (s,(id:Int)) (J V f) hy;refine⟨a,k,⟨ds,λx=>if x=(s,(id:Int)) then f else v x,d.dW i (λq=>(e.ki d) q.symm),?_,hR.bC hy j⟩,i⟩;exact l.congr (λx _=>by
  show _=J V (if x=(s,(id:Int)) then f else v x)
  split<;>rfl)
def xn{w:aw}{base n k:Nat}{e:TypeId}{A:Option Addr}{c:Nat}{xs:List Value}{x:Value}(h:w.ownsRow base e 1 (ae A n c) n xs)(a:xs[k]? = Z x):∃r,A=Z ⟨r,0,I⟩/\w.cell? ⟨r,k,I⟩=Z x/\base<=r/\n<=maxLen:=by
 rcases h.2 with⟨h1,h2⟩ | ⟨r,cap,dx,h1,h2,h3,h4,h5,h6,h7⟩
 ·have:=h.1;rw[h2]at this;have:xs=[]:=List.length_eq_zero_iff.1 z;subst this;simp at a
 ·injection h1 with h1 f b
  subst h1;refine⟨r,rfl,?_,h2,z⟩;have d:=h.cells (g:=r) rfl k x a;have i:(⟨r,0,I⟩:Addr).add k=⟨r,k,I⟩:=by unfold Addr.add;split<;>simp_all
  rw[i]at d;exact d
def BN(bk:Bk)(s f:Int):Bk:=M.set bk s λid=>if bk s id=Z 0 then Z f else bk s id
def vO(bk:Bk)(s f:Int)(l:List Int):Bk:=λs' id=>if s'=s/\(id:Int)∈l then Z f else bk s' id
def yx(g m N:Nat)(bk:Bk)(s f:Int)(w:aw)(h:eD w g m bk N)(hf:1<=f/\f<=8)(hN:N<1000000) :
  aF af 93 #[aq (Z ⟨g,0,I⟩),J V s,J V f] w λe w'=>(∃v,e=av v)/\eD w' g m (BN bk s f) N/\cS (One m) w w':=by
 have hp:=rV g m N bk s w h z;have HP:=au hp;have H:=au h;have lm:=h.lt;clear hp h;go_enter func93,ntmps93;go_wp2_with (first
  |(refine(xR f w hf).mono ?_;rintro e w2 ⟨rfl,G⟩;have u:=G.symm;subst u)
  |(refine HP.O.mono ?_;rintro e w2 ⟨v,zs,rfl,own,b2,K,l⟩;obtain⟨A,c,rfl⟩:=bA own;have L:=au own;have HB:=au b2;have E:=au l;have P:=au (H.O.below b2);clear own b2 l))
 have hA:=au (λi (q:(ae A zs.length c).ownBlock=Z i)=>(L.O.lt i q).1);go_loopw [18] (λQ wr=>∃k:Nat,Q=J V k/\k<=zs.length/\wr.ownsRow w.heap.size 3 1 (ae A zs.length c) zs.length (zs.map (J V))/\eD wr g m (vO bk s f (zs.take k)) N/\cS (One m) w wr) (λQ _=>zs.length-(match Q with | J _ n=>n.toNat | _=>0));case atStart=>exact⟨0,rfl,z,L.O,P.O.congr (λs' id=>by simp[vO]),.bn HB.O⟩
 case round =>
  obtain⟨k,rfl,hk,own,a,F⟩:=hrel;by_cases b:k<zs.length
  ·have hx:(zs.map (J V))[k]? = Z (J V zs[k]):=by simp[ay b]
   obtain⟨r,rfl,hc,hr,R⟩:=xn own hx;have S:=R;unfold maxLen at S;obtain⟨id,hid,o⟩:=(E.O zs[k]).1 (List.getElem_mem b);have c0:=a.cw.cell 0;simp at c0;rw[hid]at hc;have x:¬((id:Int)∈zs.take k):=λq=>by
    obtain⟨j,hj,T⟩:=List.getElem_of_mem q;rw[List.length_take]at hj;rw[List.getElem_take,<-hid]at T;have:=List.pairwise_iff_getElem.1 K j k z b z;omega
   have t:((vO bk s f (zs.take k)) s id).isSome=true:=by simp[vO,x,o]
   obtain⟨Tf,hZ,y,U⟩:=a.nX hN t (f:=f) ⟨z,hf.2⟩;have p:eD Tf g m (vO bk s f (zs.take (k+1))) N:=y.congr λs' d=>by
    have ht:zs.take (k+1)=zs.take k++[(id:Int)]:=by rw[List.take_succ_eq_append_getElem b,hid]
    rw[ht];unfold M.set vO;by_cases B:s'=s
    ·subst B;by_cases e2:d=id
     ·subst e2;simp
     ·have e3:¬((d:Int)=(id:Int)):=z;simp[e2,e3]
    ·simp[B]
   have oZ:=du own U (λi q q2=>by
    have:=L.O.lt i q
    have h1:=(hA.O i q)
    rw[show i=m from q2]at h1;omega)
   have C:=F.trans U;obtain⟨K1,W,X⟩:=bU oZ p C;clear oZ p C y U F a own hx t x o;go_wp2_with fail;go_roundw;case rel=>exact⟨k+1,dt,z,K1.O,W.O,X.O⟩
   case measure=>simp;omega
  ·have Y:k=zs.length:=z;subst Y;rw[List.take_length]at a;have D:eD wr g m (BN bk s f) N:=a.congr λs' id=>by
    unfold vO BN M.set;by_cases B:s'=s
    ·subst B;have:=E.O (id:Int);by_cases t:bk s' id=Z 0
     ·have hm:(id:Int)∈zs:=(E.O _).2 ⟨id,rfl,t⟩;simp[t,hm]
     ·have hm:¬(id:Int)∈zs:=λq=>by
       obtain⟨d,h1,h2⟩:=(E.O _).1 q;have:id=d:=z;subst this;exact t h2
      simp[t,hm]
    ·simp[B]
   obtain⟨W,X⟩:=bu D F;clear a D F;go_wp2_with fail;go_ret;exact⟨⟨_,rfl⟩,W.O,X.O⟩
def CA{w:aw}{B b:Nat}{e:TypeId}{size n:Nat}{v:Value}{xs:List Value}(h:w.ownsRow B e size v n xs)(a:b<=B):w.ownsRow b e size v n xs:=by
 refine⟨h.1,?_⟩;rcases h.2 with q | ⟨r,cap,dx,h1,h2,h3⟩
 ·exact .inl q
 ·exact .inr ⟨r,cap,dx,h1,aP a h2,h3⟩
section
structure sL where
 g:Nat
 mo:Nat
 ms:Nat
 mu:Nat
def sL.own(T:sL)(i:Nat):Prop:=i=T.g\/i=T.mo\/i=T.ms\/i=T.mu
abbrev vV(s:M.Sub):Value:=cg #[J ar s.own,ai s.cL,J V s.jo]
structure fA(w:aw)(T:sL)(or:Int->Option M.bN)(so:M.bN->Option Int)(su:Int->Option M.Sub)(N:Nat):Prop where
 cw:aK w T.g 208 #[.map (Z T.mo),.map (Z T.ms),.map (Z T.mu)]
 o:gA KU w T.mo (λx=>(or x).map pv) N
 s:gA KO w T.ms (λx=>(so x).map (J ar)) N
 u:gA KI w T.mu (λx=>(su x).map vV) N
 ne:T.mo≠T.ms/\T.mo≠T.mu/\T.ms≠T.mu
theorem yY:af.underlying 205=Z (.map KU.k 91):=underlying205
theorem BX:af.underlying 82=Z (.map KO.k 41):=underlying82
theorem sU:af.underlying 206=Z (.map KI.k 292):=underlying206
theorem KK(w:aw):(ja 91).run af w=.ok (pv (0,0)) w:=cC
theorem KM(w:aw):(ja 41).run af w=.ok (J ar 0) w:=cC
theorem Ib(w:aw):(ja 292).run af w=.ok (vV ⟨0,false,0⟩) w:=cC
section
variable {w w':aw} {T:sL} {or:Int->Option M.bN} {so:M.bN->Option Int} {su:Int->Option M.Sub} {N:Nat}
theorem fA.lt(h:fA w T or so su N):∀i,T.own i->i<w.heap.size:=by
 rintro i (rfl|rfl|rfl|rfl)
 ·exact h.cw.lt
 ·exact h.o.lt
 ·exact h.s.lt
 ·exact h.u.lt
theorem fA.dW{F:Nat->Prop}(h:fA w T or so su N)(u:cS F w w')(hF:∀i,T.own i->¬F i):fA w' T or so su N:=
 ⟨h.cw.dW u (hF _ (.inl rfl)),h.o.dW u (hF _ (.inr (.inl rfl))),h.s.dW u (hF _ (.inr (.inr (.inl rfl)))),h.u.dW u (hF _ (.inr (.inr (.inr rfl)))),h.ne⟩
theorem fA.below(h:fA w T or so su N)(u:aC w w'):fA w' T or so su N:=h.dW (F:=cr) (.bn u) (λ_ _=>id)
theorem fA.mono{M':Nat}(h:fA w T or so su N)(a:N<=M'):fA w T or so su M':=⟨h.cw,h.o.mono a,h.s.mono a,h.u.mono a,h.ne⟩
end
theorem FB(w:aw):aF af 34 #[] w λe w'=>∃T:sL,e=av (aq (Z ⟨T.g,0,I⟩))/\fA w' T (λ_=>I) (λ_=>I) (λ_=>I) 0/\aC w w'/\∀i,T.own i->w.heap.size<=i:=by
 have m1:=gA.made w KU;have m2:=gA.made (w.alloc (.map #[] 0)) KO;have m3:=gA.made ((w.alloc (.map #[] 0)).alloc (.map #[] 0)) KI;have a:aC w ((((w.alloc (.map #[] 0)).alloc (.map #[] 0)).alloc (.map #[] 0)).alloc (.cells #[.map (Z w.heap.size),.map (Z (w.heap.size+1)),.map (Z (w.heap.size+1+1))] 208)):=((((ao _ w).alloc (aj _) _).alloc dt _).alloc dZ _).alloc dZ _;have b:=aK.newAt (((w.alloc (.map #[] 0)).alloc (.map #[] 0)).alloc (.map #[] 0)) 208 #[.map (Z w.heap.size),.map (Z (w.heap.size+1)),.map (Z (w.heap.size+1+1))] (w.heap.size+1+1+1) dt;have a1:=((m1.below ((ao _ _).alloc (aj _) (.map #[] 0))).below ((ao _ _).alloc (aj _) (.map #[] 0))).below ((ao _ _).alloc (aj _) (.cells #[.map (Z w.heap.size),.map (Z (w.heap.size+1)),.map (Z (w.heap.size+1+1))] 208));have a2:=(m2.below ((ao _ _).alloc (aj _) (.map #[] 0))).below ((ao _ _).alloc (aj _) (.cells #[.map (Z w.heap.size),.map (Z (w.heap.size+1)),.map (Z (w.heap.size+1+1))] 208));have a3:=m3.below ((ao _ _).alloc (aj _) (.cells #[.map (Z w.heap.size),.map (Z (w.heap.size+1)),.map (Z (w.heap.size+1+1))] 208));simp only[World.size_alloc]at a2 a3;obtain⟨H1,c,d,f,h⟩:=gY a1 a2 a3 b a;clear m1 m2 m3 a1 a2 a3 b a;have j:=@run_makeMap af;go_enter func34,ntmps34;go_wp2_with fail;go_ret;refine⟨⟨w.heap.size+1+1+1,w.heap.size,w.heap.size+1,w.heap.size+1+1⟩,rfl,⟨f.O,H1.O,c.O,d.O,by show w.heap.size≠w.heap.size+1;omega,by show w.heap.size≠w.heap.size+1+1;omega,by show w.heap.size+1≠w.heap.size+1+1;omega⟩,h.O,?_⟩;rintro i (rfl|rfl|rfl|rfl)<;>simp<;>omega
theorem zC(p:Int)(w:aw):aF af 144 #[J V p] w λe w'=>e=av (ai (M.mB p))/\w'=w:=by
 unfold M.mB;go_enter func144,ntmps144;by_cases h1:0<=p
 ·by_cases h2:p<3
  ·go_wp2_with fail;go_ret;exact⟨by simp[h1,h2],rfl⟩
  ·go_wp2_with fail;go_ret;exact⟨by simp[h1,h2],rfl⟩
 ·go_wp2_with fail;go_ret;exact⟨by simp[h1];try omega,rfl⟩
theorem tX(p:Int)(w:aw):aF af 147 #[J V p] w λe w'=>e=av (ai (M.fY p))/\w'=w:=by
 unfold M.fY;go_enter func147,ntmps147;by_cases h1:0<=p
 ·by_cases h2:p<6
  ·go_wp2_with fail;go_ret;exact⟨by simp[h1,h2],rfl⟩
  ·go_wp2_with fail;go_ret;exact⟨by simp[h1,h2],rfl⟩
 ·go_wp2_with fail;go_ret;exact⟨by simp[h1];try omega,rfl⟩
section
variable (T:sL) (or:Int->Option M.bN) (so:M.bN->Option Int) (su:Int->Option M.Sub) (N:Nat) (w:aw) (h:fA w T or so su N)
include h
theorem vt(p:Int)(hp:-1000000000000<=p/\p<=1000000000000):aF af 146 #[aq (Z ⟨T.g,0,I⟩),J V p] w λe w'=>e=av (ai (so (p,0)).isSome)/\w'=w:=by
 have a:=h.s.my xM BX (p,0) (ir hp (by constructor<;>simp)) (KM w);have c1:=h.cw.cell 1;simp at c1;cases b:so (p,0) with
 |none =>
  simp only[b,Option.map_none,gy,fy]at a;have a:(cD 82 (.map (Z T.ms)) (cg #[J V p,J V 0]) true).run af w=.ok (aB #[J ar 0,ai false]) w:=a;go_enter func146,ntmps146;go_wp2_with fail;go_ret;exact⟨rfl,rfl⟩
 |some x =>
  simp only[b,Option.map_some,gS,fQ]at a;have a:(cD 82 (.map (Z T.ms)) (cg #[J V p,J V 0]) true).run af w=.ok (aB #[J ar x,ai true]) w:=a;go_enter func146,ntmps146;go_wp2_with fail;go_ret;exact⟨rfl,rfl⟩
theorem MH(x:Int)(f:(Lit.int ar x).wf=true):aF af 123 #[aq (Z ⟨T.g,0,I⟩),J ar x] w λe w'=>e=av (aB #[pv ((or x).getD (0,0)),ai (or x).isSome])/\aC w w':=by
 have h2:=h.below ((ao _ w).alloc (aj _) (.cells #[J V 0,J V 0] 91));have c:=h2.o.my Hz yY x f (KK _);have i:=h2.cw.cell 0;simp at i;have c:(cD 205 (.map (Z T.mo)) (J ar x) true).run af (w.alloc (.cells #[J V 0,J V 0] 91))=.ok (aB #[pv ((or x).getD (0,0)),ai (or x).isSome]) (w.alloc (.cells #[J V 0,J V 0] 91)):=by
  refine c.trans ?_;cases or x<;>rfl
 obtain⟨a,b,d⟩:∃a b,(or x).getD (0,0)=(a,b):=⟨_,_,rfl⟩;rw[d]at c ⊢;generalize (or x).isSome=k at c ⊢;clear h h2 d;go_enter func123,ntmps123;go_wp2_with fail;refine ax (v:=aB #[pv (a,b),ai k]) (by simp[aV,results123,go_sem]) rfl ⟨rfl,?_⟩;exact((ao _ w).alloc (aj _) _).alloc dt _
theorem FJ(o:M.bN)(m:Gi o):aF af 142 #[aq (Z ⟨T.g,0,I⟩),pv o] w λe w'=>e=av (aB #[J ar ((so o).getD 0),ai (so o).isSome])/\aC w w':=by
 obtain⟨b,c⟩:=o;have h2:=h.below ((ao _ w).alloc (aj _) (.cells #[J V b,J V c] 91));have d:∀W,fA W T or so su N->(cD 82 (.map (Z T.ms)) (cg #[J V b,J V c]) true).run af W=.ok (aB #[J ar ((so (b,c)).getD 0),ai (so (b,c)).isSome]) W:=λW n=>by
  refine(n.s.my xM BX (b,c) m (KM _)).trans ?_;cases so (b,c)<;>rfl
 have f:=au d;generalize (so (b,c)).getD 0=a at f ⊢;generalize (so (b,c)).isSome=k at f ⊢;go_enter func142,ntmps142;go_upto_region 1 with fail;obtain⟨p,i⟩:=dH w.heap.size;rw[<-i];refine aW (λW=>aK W p 91 #[J V b,J V c]/\fA W T or so su N/\aC w W) ⟨aK.newAt _ _ _ _ i,h2,(ao _ w).alloc (aj _) _⟩ ?_;rintro W ⟨b3,j,l⟩;clear i h h2 d;have c1:=j.cw.cell 1;have r:=b3.cell 0;have t:=b3.cell 1;simp at c1 r t;have d:=f.O W.drew (j.dW (F:=cr) (cS.refl cr W).drew (λ_ _ q=>q));clear j b3;go_region;all_goals
  go_wp2_with fail;refine ax (v:=aB #[J ar a,ai k]) (by simp[aV,results142,go_sem]) rfl ⟨rfl,?_⟩;first|exact l|exact cd l _
theorem LO(s:Int)(i:(Lit.int V s).wf=true):aF af 91 #[aq (Z ⟨T.g,0,I⟩),J V s] w λe w'=>e=av (aB #[J V ((su s).getD ⟨0,false,0⟩).jo,ai ((su s).getD ⟨0,false,0⟩).cL])/\aC w w':=by
 have c:(cD 206 (.map (Z T.mu)) (J V s) false).run af w=.ok (vV ((su s).getD ⟨0,false,0⟩)) w:=by
  refine(h.u.sW rB sU s i (Ib w)).trans ?_;cases su s<;>rfl
 have c2:=h.cw.cell 2;simp at c2;obtain⟨a,k,p,d⟩:∃a k p,(su s).getD ⟨0,false,0⟩=⟨a,k,p⟩:=⟨_,_,_,rfl⟩;rw[d]at c ⊢;clear h d;go_enter func91,ntmps91;go_upto_region 2 with fail;obtain⟨j,b⟩:=dH w.heap.size;rw[<-b];refine aW (λW=>aK W j 292 #[J ar a,ai k,J V p]/\aC w W) ?_ ?_
 ·exact⟨aK.newAt _ _ _ _ b,(ao _ w).alloc (aj _) _⟩
 rintro W ⟨b3,f⟩;clear b c c2;have l:=b3.cell 1;have m:=b3.cell 2;simp at l m;clear b3;go_region;all_goals
  go_wp2_with fail;refine ax (v:=aB #[J V p,ai k]) (by simp[aV,results91,go_sem]) rfl ⟨rfl,?_⟩;first|exact f|exact cd f _
end
def vv(su:Int->Option M.Sub)(s:Int):Int:=if !M.fY s then 1 else if(su s).isSome then 6 else 0
def Bu(su:Int->Option M.Sub)(s own:Int):Int->Option M.Sub:=if vv su s=0 then M.set su s (Z ⟨own,false,0⟩) else su
def sI(su:Int->Option M.Sub)(s:Int):Int:=if !M.fY s then 1 else if(su s).isNone then 5 else 0
def xr(su:Int->Option M.Sub)(s:Int):Int->Option M.Sub:=if sI su s=0 then M.set su s I else su
theorem vC{s:Int}(h:M.fY s=true):(Lit.int V s).wf=true:=by simp[M.fY]at h;exact Ig z z
section
variable {T:sL} {or:Int->Option M.bN} {so:M.bN->Option Int} {su:Int->Option M.Sub} {N:Nat} {w:aw} (h:fA w T or so su N)
include h
theorem fA.put(c:N<1000000)(s:Int)(d:(Lit.int V s).wf=true)(x:M.Sub) :
  ∃a,(eF 206 (.map (Z T.mu)) (J V s) (vV x)).run af w=.ok () a/\fA a T or so (M.set su s (Z x)) (N+1)/\cS (One T.mu) w a:=by
 obtain⟨a,f,g,b⟩:=h.u.nX rB sU c s (vV x) d;refine⟨a,f,⟨h.cw.dW b (λq=>h.u.ki h.cw q.symm),(h.o.dW b (λq=>h.ne.2.1 q)).mono z,(h.s.dW b (λq=>h.ne.2.2 q)).mono z,g.congr λy=>?_,h.ne⟩,b⟩;unfold M.set;by_cases e:y=s<;>simp[e]
theorem fA.drop(s:Int)(c:(Lit.int V s).wf=true)(ty:TypeId) :
  ∃a,(Builtin.delete_ #[206,3] ty #[.map (Z T.mu),J V s]).run af w=.ok (aB #[]) a/\fA a T or so (M.set su s I) N/\cS (One T.mu) w a:=by
 obtain⟨a,d,f,b⟩:=h.u.Dw rB sU s c ty;refine⟨a,d,⟨h.cw.dW b (λq=>h.u.ki h.cw q.symm),h.o.dW b (λq=>h.ne.2.1 q),h.s.dW b (λq=>h.ne.2.2 q),f.congr λy=>?_,h.ne⟩,b⟩;unfold M.set;by_cases e:y=s<;>simp[e]
theorem fA.look(s:Int)(a:(Lit.int V s).wf=true):(cD 206 (.map (Z T.mu)) (J V s) true).run af w=.ok (aB #[vV ((su s).getD ⟨0,false,0⟩),ai (su s).isSome]) w:=by
 refine(h.u.my rB sU s a (Ib w)).trans ?_;cases su s<;>rfl
end
theorem sL.CI(T:sL):∀i,One T.mu i->T.own i:=λi q=>.inr (.inr (.inr q))
section
variable (T:sL) (or:Int->Option M.bN) (so:M.bN->Option Int) (su:Int->Option M.Sub) (N:Nat) (w:aw) (h:fA w T or so su N)
include h
theorem Mm(s own:Int)(r:N<1000000):aF af 86 #[aq (Z ⟨T.g,0,I⟩),J V s,J ar own] w λe w'=>e=av (J V (vv su s))/\fA w' T or so (Bu su s own) (N+1)/\cS T.own w w':=by
 unfold Bu vv;have j:=au (tX s w);cases hm:M.fY s with
 |false =>
  rw[hm]at j;have t:=au h;clear h;go_enter func86,ntmps86;go_wp2_with (refine j.O.mono ?_;rintro e w2 ⟨rfl,c⟩;have b:=c.symm;subst b);go_ret;exact⟨dt,by simpa using t.O.mono z,cS.refl _ _⟩
 |true =>
  rw[hm]at j;have wf:=vC hm;have d:=h.look s wf;have c2:=h.cw.cell 2;simp at c2;cases m:su s with
  |some x =>
   rw[m]at d;simp only[gS,fQ]at d;obtain⟨a,k,p⟩:=x;have f:aC w (w.alloc (.cells #[J ar a,ai k,J V p] 292)):=(ao _ w).alloc (aj _) _;have u:=au (h.below f);clear h;go_enter func86,ntmps86;go_wp2_with (refine j.O.mono ?_;rintro e w2 ⟨rfl,c⟩;have b:=c.symm;subst b);go_ret;exact⟨dt,by simpa using u.O.mono z,.bn f⟩
  |none =>
   rw[m]at d;simp only[gy,fy]at d;have f:aC w (w.alloc (.cells #[J ar 0,ai false,J V 0] 292)):=(ao _ w).alloc (aj _) _;obtain⟨A,B,n,o⟩:=(h.below f).put r s wf ⟨own,false,0⟩;obtain⟨v,y⟩:=bu n ((cS.bn (F:=T.own) f).trans (o.mono λi _ q=>T.CI i q));have l:=(h.below f).cw.cell 2;simp at l;clear h n o;go_enter func86,ntmps86;go_wp2_with (refine j.O.mono ?_;rintro e w2 ⟨rfl,c⟩;have b:=c.symm;subst b);go_ret;exact⟨dt,by simpa using v.O,y.O⟩
theorem Cc(s:Int):aF af 92 #[aq (Z ⟨T.g,0,I⟩),J V s] w λe w'=>e=av (J V (sI su s))/\fA w' T or so (xr su s) N/\cS T.own w w':=by
 unfold xr sI;have j:=au (tX s w);cases hm:M.fY s with
 |false =>
  rw[hm]at j;have r:=au h;clear h;go_enter func92,ntmps92;go_wp2_with (refine j.O.mono ?_;rintro e w2 ⟨rfl,c⟩;have b:=c.symm;subst b);go_ret;exact⟨dt,by simpa using r.O,cS.refl _ _⟩
 |true =>
  rw[hm]at j;have wf:=vC hm;have d:=h.look s wf;have c2:=h.cw.cell 2;simp at c2;cases m:su s with
  |none =>
   rw[m]at d;simp only[gy,fy]at d;have f:aC w (w.alloc (.cells #[J ar 0,ai false,J V 0] 292)):=(ao _ w).alloc (aj _) _;have t:=au (h.below f);clear h;go_enter func92,ntmps92;go_wp2_with (refine j.O.mono ?_;rintro e w2 ⟨rfl,c⟩;have b:=c.symm;subst b);go_ret;exact⟨dt,by simpa using t.O,.bn f⟩
  |some x =>
   rw[m]at d;simp only[gS,fQ]at d;obtain⟨a,k,p⟩:=x;have f:aC w (w.alloc (.cells #[J ar a,ai k,J V p] 292)):=(ao _ w).alloc (aj _) _;obtain⟨y,A,n,o⟩:=(h.below f).drop s wf 0;obtain⟨u,v⟩:=bu n ((cS.bn (F:=T.own) f).trans (o.mono λi _ q=>T.CI i q));have l:=(h.below f).cw.cell 2;simp at l;clear h n o;go_enter func92,ntmps92;go_wp2_with (refine j.O.mono ?_;rintro e w2 ⟨rfl,c⟩;have b:=c.symm;subst b);go_ret;exact⟨dt,by simpa using u.O,v.O⟩
end
end
section
def xe(so:M.bN->Option Int)(su:Int->Option M.Sub)(s p:Int):Int:=
 if(!M.fY s || !M.mB p)=true then 1 else match su s with
  |none=>5
  |some x=>if(so (p,0)).isSome=false then 5 else if x.cL then 6 else 0
def Dr(so:M.bN->Option Int)(su:Int->Option M.Sub)(s p:Int):Int->Option M.Sub:=
 if xe so su s p=0 then M.set su s (Z ⟨((su s).getD ⟨0,false,0⟩).own,true,p⟩) else su
def BW(su:Int->Option M.Sub)(s:Int):Int:=if !M.fY s then 1 else if((su s).getD ⟨0,false,0⟩).cL then 0 else 5
def BV(su:Int->Option M.Sub)(s:Int):Int->Option M.Sub:=if BW su s=0 then M.set su s (Z ⟨((su s).getD ⟨0,false,0⟩).own,false,0⟩) else su
section
variable (T:sL) (or:Int->Option M.bN) (so:M.bN->Option Int) (su:Int->Option M.Sub) (N:Nat) (w:aw) (h:fA w T or so su N)
include h
theorem yC(s:Int)(y:N<1000000):aF af 115 #[aq (Z ⟨T.g,0,I⟩),J V s] w λe w'=>e=av (J V (BW su s))/\fA w' T or so (BV su s) (N+1)/\cS T.own w w':=by
 unfold BV BW;have j:=au (tX s w);cases hm:M.fY s with
 |false =>
  rw[hm]at j;have A:=au h;clear h;go_enter func115,ntmps115;go_wp2_with (refine j.O.mono ?_;rintro e w2 ⟨rfl,c⟩;have b:=c.symm;subst b);go_ret;exact⟨dt,by simpa using A.O.mono z,cS.refl _ _⟩
 |true =>
  rw[hm]at j;have wf:=vC hm;have d:=h.look s wf;have c2:=h.cw.cell 2;simp at c2;cases o:su s with
  |none =>
   rw[o]at d;simp only[gy,fy]at d;have f:aC w (w.alloc (.cells #[J ar 0,ai false,J V 0] 292)):=(ao _ w).alloc (aj _) _;have l:=au (h.below f);clear h;go_enter func115,ntmps115;go_wp2_with (refine j.O.mono ?_;rintro e w2 ⟨rfl,c⟩;have b:=c.symm;subst b);go_ret;exact⟨dt,by simpa using l.O.mono z,.bn f⟩
  |some x =>
   rw[o]at d;simp only[gS,fQ]at d;obtain⟨a,k,p⟩:=x;have f:aC w (w.alloc (.cells #[J ar a,ai k,J V p] 292)):=(ao _ w).alloc (aj _) _;obtain⟨l,b5⟩:=bu (h.below f) (aK.new w 292 #[J ar a,ai k,J V p]);clear h;cases k with
   |false =>
    go_enter func115,ntmps115;go_wp2_with (refine j.O.mono ?_;rintro e w2 ⟨rfl,c⟩;have b:=c.symm;subst b);go_ret;exact⟨dt,by simpa using l.O.mono z,.bn f⟩
   |true =>
    go_enter func115,ntmps115;go_upto_region 6 with(refine j.O.mono ?_;rintro e w2 ⟨rfl,c⟩;have b:=c.symm;subst b)
    obtain⟨B,m⟩:=dH w.heap.size;rw[<-m]at b5 ⊢;refine aW (λW=>aK W B 292 #[J ar a,ai true,J V p]/\fA W T or so su N/\aC w W) ⟨b5.O,l.O,f⟩ ?_;rintro W ⟨b3,n,bl⟩;clear m b5 l f d c2;have c2:=n.cw.cell 2;have C:=b3.cell 0;simp at c2 C;obtain⟨D,E,r,t⟩:=(n.dW (F:=cr) (cS.refl cr W).drew (λ_ _ q=>q)).put y s wf ⟨a,false,0⟩;obtain⟨u,v⟩:=bu r ((cS.bn (F:=T.own) bl).drew.trans (t.mono λi _ q=>T.CI i q));clear n b3 bl r t;go_region;all_goals
     go_wp2_with fail;go_ret;refine⟨dt,?_,?_⟩
     ·first
       |simpa using u.O
       |simpa using u.O.dW (F:=cr) ((cS.refl cr _).drewN _) (λ_ _ q=>q)
     ·first|exact v.O|exact v.O.drewN _
theorem Ak(s p:Int)(G:N<1000000):aF af 89 #[aq (Z ⟨T.g,0,I⟩),J V s,J V p] w λe w'=>e=av (J V (xe so su s p))/\fA w' T or so (Dr so su s p) (N+1)/\cS T.own w w':=by
 unfold Dr xe;obtain⟨f,l,v⟩:=bU (tX s w) (zC p w) h;cases hm:M.fY s with
 |false =>
  rw[hm]at f;clear h;go_enter func89,ntmps89;go_wp2_with (refine f.O.mono ?_;rintro e w2 ⟨rfl,c⟩;have b:=c.symm;subst b);go_ret;exact⟨dt,by simpa using v.O.mono z,cS.refl _ _⟩
 |true =>
  cases hp:M.mB p with
  |false =>
   rw[hm]at f;rw[hp]at l;clear h;go_enter func89,ntmps89;go_wp2_with (first
    |(refine f.O.mono ?_;rintro e w2 ⟨rfl,c⟩;have b:=c.symm;subst b)
    |(refine l.O.mono ?_;rintro e w2 ⟨rfl,c⟩;have b:=c.symm;subst b))
   go_ret;exact⟨dt,by simpa using v.O.mono z,cS.refl _ _⟩
  |true =>
   rw[hm]at f;rw[hp]at l;have wf:=vC hm;have r:-1000000000000<=p/\p<=1000000000000:=by simp[M.mB]at hp;omega
   have d:=h.look s wf;have c2:=h.cw.cell 2;simp at c2;cases y:su s with
   |none =>
    rw[y]at d;simp only[gy,fy]at d;have j:aC w (w.alloc (.cells #[J ar 0,ai false,J V 0] 292)):=(ao _ w).alloc (aj _) _;have m:=au (h.below j);clear h;go_enter func89,ntmps89;go_wp2_with (first
     |(refine f.O.mono ?_;rintro e w2 ⟨rfl,c⟩;have b:=c.symm;subst b)
     |(refine l.O.mono ?_;rintro e w2 ⟨rfl,c⟩;have b:=c.symm;subst b))
    go_ret;exact⟨dt,by simpa using m.O.mono z,.bn j⟩
   |some x =>
    rw[y]at d;simp only[gS,fQ]at d;obtain⟨a,k,t⟩:=x;have j:aC w (w.alloc (.cells #[J ar a,ai k,J V t] 292)):=(ao _ w).alloc (aj _) _;obtain⟨m,n,b5⟩:=bU (h.below j) (vt T or so su N _ (h.below j) p r) (aK.new w 292 #[J ar a,ai k,J V t]);clear h;cases A:(so (p,0)).isSome with
    |false =>
     rw[A]at n;go_enter func89,ntmps89;go_wp2_with (first
      |(refine f.O.mono ?_;rintro e w2 ⟨rfl,c⟩;have b:=c.symm;subst b)
      |(refine l.O.mono ?_;rintro e w2 ⟨rfl,c⟩;have b:=c.symm;subst b)
      |(refine n.O.mono ?_;rintro e w2 ⟨rfl,c⟩;have b:=c.symm;subst b))
     go_ret;exact⟨dt,by simpa using m.O.mono z,.bn j⟩
    |true =>
     rw[A]at n;cases k with
     |true =>
      have H:=b5.O.cell 1;simp at H;go_enter func89,ntmps89;go_wp2_with (first
       |(refine f.O.mono ?_;rintro e w2 ⟨rfl,c⟩;have b:=c.symm;subst b)
       |(refine l.O.mono ?_;rintro e w2 ⟨rfl,c⟩;have b:=c.symm;subst b)
       |(refine n.O.mono ?_;rintro e w2 ⟨rfl,c⟩;have b:=c.symm;subst b))
      go_ret;exact⟨dt,by simpa using m.O.mono z,.bn j⟩
     |false =>
      go_enter func89,ntmps89;go_wp2_with (first
       |(refine f.O.mono ?_;rintro e w2 ⟨rfl,c⟩;have b:=c.symm;subst b)
       |(refine l.O.mono ?_;rintro e w2 ⟨rfl,c⟩;have b:=c.symm;subst b)
       |(refine n.O.mono ?_;rintro e w2 ⟨rfl,c⟩;have b:=c.symm;subst b))
      obtain⟨K,o⟩:=dH w.heap.size;rw[<-o]at b5 ⊢;refine gN (λW=>aK W K 292 #[J ar a,ai false,J V t]/\fA W T or so su N/\aC w W) ⟨b5.O,m.O,j⟩ ?_;rintro W ⟨b3,u,bl⟩;clear o b5 m j d c2;have c2:=u.cw.cell 2;have L:=b3.cell 0;simp at c2 L;obtain⟨P,Q,B,C⟩:=(u.dW (F:=cr) (cS.refl cr W).drew (λ_ _ q=>q)).put G s wf ⟨a,true,p⟩;obtain⟨D,E⟩:=bu B ((cS.bn (F:=T.own) bl).drew.trans (C.mono λi _ q=>T.CI i q));clear u b3 bl B C;go_region;all_goals
       go_wp2_with fail;go_ret;refine⟨dt,?_,?_⟩
       ·first
         |simpa using D.O
         |simpa using D.O.dW (F:=cr) ((cS.refl cr _).drewN _) (λ_ _ q=>q)
       ·first|exact E.O|exact E.O.drewN _
end
end
def oR(su:Int->Option M.Sub)(q:M.Sub->Bool)(s:Int):Bool:=match su s with | some x=>q x | none=>false
def tJ(su:Int->Option M.Sub)(q:M.Sub->Bool):List Int:=M.gF.filter (oR su q)
def Bb:∀(l m:List Int),l.Pairwise (· < ·)->m.Pairwise (· < ·)->(∀x,x∈l↔x∈m)->l=m
 |[],[],_,_,_=>rfl
 |[],b::m,_,_,h=>by have:=(h b).2 dt;simp at this
 |a::l,[],_,_,h=>by have:=(h a).1 dt;simp at this
 |a::l,b::m,h1,h2,h=>by
  have d:=cv.1 h1;have f:=cv.1 h2;have e:a=b:=by
   rcases fw.1 ((h a).1 dt) with e|e
   ·exact e
   ·rcases fw.1 ((h b).2 dt) with g|g
    ·exact g.symm
    ·have:=d.1 b g;have:=f.1 a e;omega
  subst e;congr 1;refine Bb l m d.2 f.2 λx=>⟨λc=>?_,λc=>?_⟩
  ·rcases fw.1 ((h x).1 (dI _ c)) with e|e
   ·have:=d.1 x c;omega
   ·exact e
  ·rcases fw.1 ((h x).2 (dI _ c)) with e|e
   ·have:=f.1 x c;omega
   ·exact e
def Al{l:List Int}(h:l.Nodup):(sorted l).Pairwise (· < ·):=by
 have h1:(sorted l).Pairwise (λa b=>decide (a<=b)=true):=tq (λa b c h1 h2=>by simp at *;omega) (λa b=>dZ) _;have h2:(sorted l).Nodup:=(List.mergeSort_perm _ _).nodup_iff.2 h;exact(List.pairwise_and_iff.2 ⟨h1,h2⟩).imp (λ{a b} q=>by have:=q.1;have:=q.2;simp at *;omega)
def Io{su:Int->Option M.Sub}{q:M.Sub->Bool}(c:∀s,(su s).isSome=true->M.fY s=true){done:List Int}(d:done.Nodup)(a:∀s,(su s).isSome=true->s∈done):sorted (done.filter (oR su q))=tJ su q:=by
 refine Bb _ _ (Al (d.filter _)) (List.Pairwise.filter _ (by unfold M.gF;decide)) λx=>?_;rw[List.mem_mergeSort,eL];unfold tJ;rw[eL];constructor
 ·rintro⟨h1,h2⟩;refine⟨?_,h2⟩;have:(su x).isSome=true:=by unfold oR at h2;cases b:su x with | none=>simp[b]at h2 | some y=>rfl
  have hm:=c x this;simp only[M.fY,cM,decide_eq_true_eq]at hm;unfold M.gF;have:x=0\/x=1\/x=2\/x=3\/x=4\/x=5:=z;simpa using this
 ·rintro⟨h1,h2⟩;refine⟨a x ?_,h2⟩;unfold oR at h2;cases b:su x with | none=>simp[b]at h2 | some y=>rfl
def I3(r:Nat)(p:Int)(s:M.Sub)(w:aw)(b:aK w r 3 #[J V p]):aF af 207 #[vV s,aq (Z ⟨r,0,I⟩)] w λe w'=>e=av (ai (s.cL&&decide (s.jo=p)))/\aC w w':=by
 have d:=b.cell 0;have lt:=b.lt;simp at d;obtain⟨a,k,c⟩:=s;cases k with
 |false =>
  go_enter func207,ntmps207;go_wp2_with fail;go_ret;exact⟨rfl,(ao _ w).alloc (aj _) _⟩
 |true =>
  by_cases e:c=p
  ·subst e;go_enter func207,ntmps207;go_wp2_with fail;go_ret;exact⟨dt,(ao _ w).alloc (aj _) _⟩
  ·have f:(c==p)=false:=by simpa using e
   go_enter func207,ntmps207;go_wp2_with fail;go_ret;exact⟨by simp[e],(ao _ w).alloc (aj _) _⟩
def DL(r:Nat)(p:Int)(s:M.Sub)(w:aw)(b:aK w r 41 #[J ar p]):aF af 228 #[vV s,aq (Z ⟨r,0,I⟩)] w λe w'=>e=av (ai (decide (s.own=p)))/\aC w w':=by
 have c:=b.cell 0;have lt:=b.lt;simp at c;obtain⟨a,k,d⟩:=s;by_cases e:a=p
 ·subst e;go_enter func228,ntmps228;go_wp2_with fail;go_ret;exact⟨dt,(ao _ w).alloc (aj _) _⟩
 ·have f:(a==p)=false:=by simpa using e
  go_enter func228,ntmps228;go_wp2_with fail;go_ret;exact⟨by simp[e],(ao _ w).alloc (aj _) _⟩
def KZ(a1:Addr)(q:M.Sub->Bool)(Ti:aw->Prop)(hI:∀w w',aC w w'->Ti w->Ti w')
  (hf:∀s W,Ti W->aF af 207 #[vV s,aq (Z a1)] W λe w'=>e=av (ai (q s))/\aC W w')
  (T:sL) (or:Int->Option M.bN) (so:M.bN->Option Int) (su:Int->Option M.Sub) (N:Nat) (w:aw) (h:fA w T or so su N) (hN:N<=1000000) (hk:∀s,(su s).isSome=true->M.fY s=true) (h0:Ti w) :
  aF af 206 #[aq (Z ⟨T.g,0,I⟩),.func (.func 207) #[] #[aq (Z a1)]] w λe w'=>∃v,e=av v/\w'.ownsRow w.heap.size 3 1 v (tJ su q).length ((tJ su q).map (J V))/\aC w w':=by
 obtain⟨ds,f,hM,hF,Tj⟩:=h.u;have hG:=h.cw;obtain⟨i0,hi,K,L,P⟩:=cY wE;obtain⟨HI,Tk,Tl,Tm⟩:=cA hi K L P;clear hi K L P;have c2:=hG.cell 2;simp at c2;have lm:=hM.lt;have t:w.ownsRow w.heap.size 3 1 (ae I 0 0) 0 []:=⟨dt,.inl ⟨rfl,rfl⟩⟩;obtain⟨HM,HF,Tn,H0,To⟩:=gY hM hF hf h0 hI;clear hM hG hF h hf h0 hI;go_enter func206,ntmps206;go_wp2_with (at_range;go_loud (refine uK _ sU rfl _ rfl T.mu ds _ rfl HM.O ?_));intro w1 r1 u1 s1;have o1:=du t u1 (λi hi=>by cases hi);have B1:aC w w1:=u1.below (aj _) (λ_ q=>q.elim);obtain⟨r,k⟩:=dH w.heap.size;rw[<-k]at r1 ⊢;have Tp:w.heap.size<=r:=lO k.symm;have rm:r≠T.mu:=z;clear k;obtain⟨Tq,Ts,Tt⟩:=bU r1 o1 B1;clear t HM c2 u1 o1 r1 B1 s1;go_wp2_with fail;go_loopw [5] (λpv wr=>∃done,kY KI wr T.mu r ds f done/\wr.ownsRow w.heap.size 3 1 pv (done.filter (oR su q)).length ((done.filter (oR su q)).map (J V))/\aC w wr/\(∀i,pv.ownBlock=Z i->i≠r)) (λ_ wr=>wr.rangeLeft T.mu r);case atStart=>exact⟨[],Tq.O,by simpa using Ts.O,Tt.O,λi hi=>by cases hi⟩
 case round =>
  obtain⟨done,hr,own,bl,fr⟩:=hrel;obtain⟨A,c,rfl⟩:=bA own;go_wp2_with (at_next;go_loud (refine vR _ rB rfl _ rfl T.mu r ds _ done rfl hr ?d ?q));case d =>
   intro B;have b:=hr.sub;have hn:(done.filter (oR su q)).length<=1000000:=aP (eE _ _) (aP (dX b.1 b.2) (aP Tj hN));have he:=Io (q:=q) hk b.1 (λs C=>B s (by
    have:=HF.O s
    by_cases hd:s∈ds
    ·exact hd
    ·rw[if_neg hd]at this;cases o:su s with | none=>rw[o]at C;cases C | some y=>rw[o]at this;cases this))
   have C:=ze wr own hn;obtain⟨HS,HE,BL,OL⟩:=cA C he bl own.lt;clear C he own bl fr hr B b;go_wp2_with (refine HS.O.mono ?_;rintro e w5 ⟨rfl,o5,g5⟩);go_ret;refine⟨_,rfl,by rw[<-HE.O,oU];exact o5,?_⟩;exact BL.O.trans ((eT g5).below BL.O.size (λi q=>(OL.O i q).1))
  case q =>
   intro a w2 Tu Tw l Q u2 o D;have j:=HF.O a;rw[if_pos Tu]at j;obtain⟨x,hx,R⟩:∃x,su a=Z x/\f a=vV x:=by
    cases C:su a with
    |none=>rw[C]at j;cases j
    |some x=>rw[C]at j;exact⟨x,rfl,by simpa using j.symm⟩
   have Tx:(Instr.entry (aq (Z ⟨r,0,I⟩))).run af w2=.ok (aB #[J V a,vV x]) w2:=by rw[<-R];exact D
   clear D;have S:(done++[a]).filter (oR su q)=done.filter (oR su q)++if q x then[a] else[]:=by
    rw[ju];congr 1;have:oR su q a=q x:=by unfold oR;rw[hx]
    cases H:q x<;>simp[this,H]
   have o2:=du own u2 (λi hi q=>fr i hi q);have b2:=bl.trans (u2.below bl.size (λi q=>by rw[show i=r from q];exact Tp));have rl:=l.lt;have U:=To.O _ _ (b2.alloc b2.size (.cells #[J ar x.own,ai x.cL,J V x.jo] 292)) H0.O;have HC:=au (Tn.O x _ U);have dn:done.length<=1000000:=by have q:=l.sub;have q2:=dX q.1 q.2;simp at q2;omega
   have Ty:(done.filter (oR su q)).length<=1000000:=aP (eE _ _) dn;obtain⟨E,G,m,X,p,Y⟩:=lH (o2.alloc (.cells #[J ar x.own,ai x.cL,J V x.jo] 292)) (b2.alloc b2.size (.cells #[J ar x.own,ai x.cL,J V x.jo] 292)) (l.dW (F:=cr) ((cS.refl _ _).alloc (.cells #[J ar x.own,ai x.cL,J V x.jo] 292)) id id) S fr (show(w2.alloc (.cells #[J ar x.own,ai x.cL,J V x.jo] 292)).rangeLeft T.mu r<wr.rangeLeft T.mu r by rw[l.kj (F:=cr) ((cS.refl _ _).alloc _) id id];exact Q);have Tz:w2.heap.size<(w2.alloc (.cells #[J ar x.own,ai x.cL,J V x.jo] 292)).heap.size:=dt;have Tv:=au (λi (q:(ae A (done.filter (oR su q)).length c).ownBlock=Z i)=>(E.O.lt i q));clear o2 b2 l S own bl hr fr o U u2 Q dn j R;cases H:q x with
   |false =>
    rw[H]at HC;go_wp2_with (refine HC.O.mono ?_;rintro e w3 ⟨rfl,b3⟩);go_roundw;case rel =>
     refine⟨done++[a],m.O.dW (F:=cr) (.bn b3) id id,?_,sh G.O b3,p.O⟩;rw[X.O];simpa[H]using du E.O (.bn (F:=cr) b3) (λ_ _ q=>q)
    case measure=>rw[m.O.kj (F:=cr) (.bn b3) id id];exact Y.O
   |true =>
    rw[H]at HC;go_wp2_with (first|(refine HC.O.mono ?_;rintro e w3 ⟨rfl,b3⟩;have Tf:=du E.O (.bn (F:=cr) b3) (λ_ _ q=>q);have OW:=au Tf;clear Tf)|(at_builtin;go_loud (refine dV _ rfl _ _ 36 rfl w.heap.size 3 i0 (J V 0) 1 8 underlying36 HI.O Tk.O Tl.O Tm.O rfl aR _ _ _ rfl (OW.O.alloc _) ⟨w3.heap.size,0,I⟩ 1 1 [J V a] rfl rfl (fB w3 3 #[J V a]) tk ?c3 ?c4 ?c5 ?_)));all_goals first
     |exact rfl
     |(unfold maxLen;omega)
     |omega
     |(have:=(sh G.O b3).size;simp;omega)
     |intro v5 w5 n g5 Tg
    have u5:=eT g5;have hA:∀i,(ae A (done.filter (oR su q)).length c).ownBlock=Z i->w.heap.size<=i:=λi q=>(Tv.O i q).1;have uu:=((cS.bn (F:=cr) b3).alloc (.cells #[J V a] 3));have R5:=m.O.dW uu id id;have R6:=R5.dW u5 (λq=>by have:=hA _ q;omega) (λq=>p.O _ q rfl);have U6:=((cS.bn (F:=λi=>w.heap.size<=i) (sh G.O b3)).alloc (.cells #[J V a] 3)).trans (u5.mono λi _ q=>hA i q);have B5:=U6.below (aj _) (λi q=>q);have L5:=R5.kj u5 (λq=>by have:=hA _ q;omega) (λq=>p.O _ q rfl);have L6:=m.O.kj uu id id;have F5:∀i,v5.ownBlock=Z i->i≠r:=λi q=>by
     rcases Tg i q with q|q
     ·exact p.O i q
     ·have:=R5.lt;have:=m.O.lt;have:=b3.size;omega
    obtain⟨A5,c5,rfl⟩:=bA n;obtain⟨K1,K2,K3,K4⟩:=cA n R6 B5 F5;have K5:w5.rangeLeft T.mu r<wr.rangeLeft T.mu r:=by rw[L5,L6];exact Y.O
    clear n R6 B5 F5 R5 uu u5 g5 Tg L5 L6 hA U6;go_wp2_with fail;go_roundw;case rel =>
     refine⟨done++[a],K2.O,?_,K3.O,K4.O⟩;rw[X.O];simpa[H]using K1.O
    case measure=>exact K5
def KY(a1:Addr)(q:M.Sub->Bool)(Ti:aw->Prop)(hI:∀w w',aC w w'->Ti w->Ti w')
  (hf:∀s W,Ti W->aF af 228 #[vV s,aq (Z a1)] W λe w'=>e=av (ai (q s))/\aC W w')
  (T:sL) (or:Int->Option M.bN) (so:M.bN->Option Int) (su:Int->Option M.Sub) (N:Nat) (w:aw) (h:fA w T or so su N) (hN:N<=1000000) (hk:∀s,(su s).isSome=true->M.fY s=true) (h0:Ti w) :
  aF af 206 #[aq (Z ⟨T.g,0,I⟩),.func (.func 228) #[] #[aq (Z a1)]] w λe w'=>∃v,e=av v/\w'.ownsRow w.heap.size 3 1 v (tJ su q).length ((tJ su q).map (J V))/\aC w w':=by
 obtain⟨ds,f,hM,hF,Tj⟩:=h.u;have hG:=h.cw;obtain⟨i0,hi,K,L,P⟩:=cY wE;obtain⟨HI,Tk,Tl,Tm⟩:=cA hi K L P;clear hi K L P;have c2:=hG.cell 2;simp at c2;have lm:=hM.lt;have t:w.ownsRow w.heap.size 3 1 (ae I 0 0) 0 []:=⟨dt,.inl ⟨rfl,rfl⟩⟩;obtain⟨HM,HF,Tn,H0,To⟩:=gY hM hF hf h0 hI;clear hM hG hF h hf h0 hI;go_enter func206,ntmps206;go_wp2_with (at_range;go_loud (refine uK _ sU rfl _ rfl T.mu ds _ rfl HM.O ?_));intro w1 r1 u1 s1;have o1:=du t u1 (λi hi=>by cases hi);have B1:aC w w1:=u1.below (aj _) (λ_ q=>q.elim);obtain⟨r,k⟩:=dH w.heap.size;rw[<-k]at r1 ⊢;have Tp:w.heap.size<=r:=lO k.symm;have rm:r≠T.mu:=z;clear k;obtain⟨Tq,Ts,Tt⟩:=bU r1 o1 B1;clear t HM c2 u1 o1 r1 B1 s1;go_wp2_with fail;go_loopw [5] (λpv wr=>∃done,kY KI wr T.mu r ds f done/\wr.ownsRow w.heap.size 3 1 pv (done.filter (oR su q)).length ((done.filter (oR su q)).map (J V))/\aC w wr/\(∀i,pv.ownBlock=Z i->i≠r)) (λ_ wr=>wr.rangeLeft T.mu r);case atStart=>exact⟨[],Tq.O,by simpa using Ts.O,Tt.O,λi hi=>by cases hi⟩
 case round =>
  obtain⟨done,hr,own,bl,fr⟩:=hrel;obtain⟨A,c,rfl⟩:=bA own;go_wp2_with (at_next;go_loud (refine vR _ rB rfl _ rfl T.mu r ds _ done rfl hr ?d ?q));case d =>
   intro B;have b:=hr.sub;have hn:(done.filter (oR su q)).length<=1000000:=aP (eE _ _) (aP (dX b.1 b.2) (aP Tj hN));have he:=Io (q:=q) hk b.1 (λs C=>B s (by
    have:=HF.O s
    by_cases hd:s∈ds
    ·exact hd
    ·rw[if_neg hd]at this;cases o:su s with | none=>rw[o]at C;cases C | some y=>rw[o]at this;cases this))
   have C:=ze wr own hn;obtain⟨HS,HE,BL,OL⟩:=cA C he bl own.lt;clear C he own bl fr hr B b;go_wp2_with (refine HS.O.mono ?_;rintro e w5 ⟨rfl,o5,g5⟩);go_ret;refine⟨_,rfl,by rw[<-HE.O,oU];exact o5,?_⟩;exact BL.O.trans ((eT g5).below BL.O.size (λi q=>(OL.O i q).1))
  case q =>
   intro a w2 Tu Tw l Q u2 o D;have j:=HF.O a;rw[if_pos Tu]at j;obtain⟨x,hx,R⟩:∃x,su a=Z x/\f a=vV x:=by
    cases C:su a with
    |none=>rw[C]at j;cases j
    |some x=>rw[C]at j;exact⟨x,rfl,by simpa using j.symm⟩
   have Tx:(Instr.entry (aq (Z ⟨r,0,I⟩))).run af w2=.ok (aB #[J V a,vV x]) w2:=by rw[<-R];exact D
   clear D;have S:(done++[a]).filter (oR su q)=done.filter (oR su q)++if q x then[a] else[]:=by
    rw[ju];congr 1;have:oR su q a=q x:=by unfold oR;rw[hx]
    cases H:q x<;>simp[this,H]
   have o2:=du own u2 (λi hi q=>fr i hi q);have b2:=bl.trans (u2.below bl.size (λi q=>by rw[show i=r from q];exact Tp));have rl:=l.lt;have U:=To.O _ _ (b2.alloc b2.size (.cells #[J ar x.own,ai x.cL,J V x.jo] 292)) H0.O;have HC:=au (Tn.O x _ U);have dn:done.length<=1000000:=by have q:=l.sub;have q2:=dX q.1 q.2;simp at q2;omega
   have Ty:(done.filter (oR su q)).length<=1000000:=aP (eE _ _) dn;obtain⟨E,G,m,X,p,Y⟩:=lH (o2.alloc (.cells #[J ar x.own,ai x.cL,J V x.jo] 292)) (b2.alloc b2.size (.cells #[J ar x.own,ai x.cL,J V x.jo] 292)) (l.dW (F:=cr) ((cS.refl _ _).alloc (.cells #[J ar x.own,ai x.cL,J V x.jo] 292)) id id) S fr (show(w2.alloc (.cells #[J ar x.own,ai x.cL,J V x.jo] 292)).rangeLeft T.mu r<wr.rangeLeft T.mu r by rw[l.kj (F:=cr) ((cS.refl _ _).alloc _) id id];exact Q);have Tz:w2.heap.size<(w2.alloc (.cells #[J ar x.own,ai x.cL,J V x.jo] 292)).heap.size:=dt;have Tv:=au (λi (q:(ae A (done.filter (oR su q)).length c).ownBlock=Z i)=>(E.O.lt i q));clear o2 b2 l S own bl hr fr o U u2 Q dn j R;cases H:q x with
   |false =>
    rw[H]at HC;go_wp2_with (refine HC.O.mono ?_;rintro e w3 ⟨rfl,b3⟩);go_roundw;case rel =>
     refine⟨done++[a],m.O.dW (F:=cr) (.bn b3) id id,?_,sh G.O b3,p.O⟩;rw[X.O];simpa[H]using du E.O (.bn (F:=cr) b3) (λ_ _ q=>q)
    case measure=>rw[m.O.kj (F:=cr) (.bn b3) id id];exact Y.O
   |true =>
    rw[H]at HC;go_wp2_with (first|(refine HC.O.mono ?_;rintro e w3 ⟨rfl,b3⟩;have Tf:=du E.O (.bn (F:=cr) b3) (λ_ _ q=>q);have OW:=au Tf;clear Tf)|(at_builtin;go_loud (refine dV _ rfl _ _ 36 rfl w.heap.size 3 i0 (J V 0) 1 8 underlying36 HI.O Tk.O Tl.O Tm.O rfl aR _ _ _ rfl (OW.O.alloc _) ⟨w3.heap.size,0,I⟩ 1 1 [J V a] rfl rfl (fB w3 3 #[J V a]) tk ?c3 ?c4 ?c5 ?_)));all_goals first
     |exact rfl
     |(unfold maxLen;omega)
     |omega
     |(have:=(sh G.O b3).size;simp;omega)
     |intro v5 w5 n g5 Tg
    have u5:=eT g5;have hA:∀i,(ae A (done.filter (oR su q)).length c).ownBlock=Z i->w.heap.size<=i:=λi q=>(Tv.O i q).1;have uu:=((cS.bn (F:=cr) b3).alloc (.cells #[J V a] 3));have R5:=m.O.dW uu id id;have R6:=R5.dW u5 (λq=>by have:=hA _ q;omega) (λq=>p.O _ q rfl);have U6:=((cS.bn (F:=λi=>w.heap.size<=i) (sh G.O b3)).alloc (.cells #[J V a] 3)).trans (u5.mono λi _ q=>hA i q);have B5:=U6.below (aj _) (λi q=>q);have L5:=R5.kj u5 (λq=>by have:=hA _ q;omega) (λq=>p.O _ q rfl);have L6:=m.O.kj uu id id;have F5:∀i,v5.ownBlock=Z i->i≠r:=λi q=>by
     rcases Tg i q with q|q
     ·exact p.O i q
     ·have:=R5.lt;have:=m.O.lt;have:=b3.size;omega
    obtain⟨A5,c5,rfl⟩:=bA n;obtain⟨K1,K2,K3,K4⟩:=cA n R6 B5 F5;have K5:w5.rangeLeft T.mu r<wr.rangeLeft T.mu r:=by rw[L5,L6];exact Y.O
    clear n R6 B5 F5 R5 uu u5 g5 Tg L5 L6 hA U6;go_wp2_with fail;go_roundw;case rel =>
     refine⟨done++[a],K2.O,?_,K3.O,K4.O⟩;rw[X.O];simpa[H]using K1.O
    case measure=>exact K5
def xQ(T:sL)(or:Int->Option M.bN)(so:M.bN->Option Int)(su:Int->Option M.Sub)(N:Nat)(w:aw)(h:fA w T or so su N)(f:N<=1000000)(i:∀s,(su s).isSome=true->M.fY s=true)(p:Int) :
  aF af 141 #[aq (Z ⟨T.g,0,I⟩),J V p] w λe w'=>∃v,e=av v/\w'.ownsRow w.heap.size 3 1 v (tJ su λs=>s.cL&&decide (s.jo=p)).length ((tJ su λs=>s.cL&&decide (s.jo=p)).map (J V))/\aC w w':=by
 have c:=(ao w.heap.size w).alloc (aj _) (.cells #[J V p] 3);have d:=aK.new w 3 #[J V p];have hw:=KZ ⟨w.heap.size,0,I⟩ (λs=>s.cL&&decide (s.jo=p)) (λW=>aK W w.heap.size 3 #[J V p]) (λa b u q=>q.kept u) (λs W j=>I3 w.heap.size p s W j) T or so su N _ (h.below c) f i d;have k:=au hw;clear h d hw;go_enter func141,ntmps141;go_wp2_with (refine k.O.mono ?_;rintro e w2 ⟨v,rfl,own,b2⟩);go_ret;exact⟨_,rfl,CA own dt,c.trans (b2.mono c.size)⟩
def Aj(T:sL)(or:Int->Option M.bN)(so:M.bN->Option Int)(su:Int->Option M.Sub)(N:Nat)(w:aw)(h:fA w T or so su N)(f:N<=1000000)(i:∀s,(su s).isSome=true->M.fY s=true)(p:Int) :
  aF af 180 #[aq (Z ⟨T.g,0,I⟩),J ar p] w λe w'=>∃v,e=av v/\w'.ownsRow w.heap.size 3 1 v (tJ su λs=>decide (s.own=p)).length ((tJ su λs=>decide (s.own=p)).map (J V))/\aC w w':=by
 have c:=(ao w.heap.size w).alloc (aj _) (.cells #[J ar p] 41);have d:=aK.new w 41 #[J ar p];have hw:=KY ⟨w.heap.size,0,I⟩ (λs=>decide (s.own=p)) (λW=>aK W w.heap.size 41 #[J ar p]) (λa b u q=>q.kept u) (λs W j=>DL w.heap.size p s W j) T or so su N _ (h.below c) f i d;have k:=au hw;clear h d hw;go_enter func180,ntmps180;go_wp2_with (refine k.O.mono ?_;rintro e w2 ⟨v,rfl,own,b2⟩);go_ret;exact⟨_,rfl,CA own dt,c.trans (b2.mono c.size)⟩
def wK{k:Nat}:∀{q:List (List Value)},(∀c∈q,c.length=k)->q.flatten.length=q.length*k
 |[],_=>dt
 |c::q,h=>by
  rw[jM,List.length_append,wK (λd a=>h d (by simp[a])),h c dt,List.length_cons,jG];omega
def Ep{k:Nat}:∀{q:List (List Value)},(∀c∈q,c.length=k)->∀(i j:Nat),j<k->q.flatten[i*k+j]? = (q[i]?).bind λc=>c[j]?
 |[],_,i,j,_=>dt
 |c::q,h,i,j,b=>by
  have a:=h c dt;rw[jM];cases i with
  |zero=>rw[List.getElem?_append_left z];simp
  |succ i =>
   rw[List.getElem?_append_right (by rw[a,jG];omega),show(i+1)*k+j-c.length=i*k+j by rw[a,jG];omega,Ep (λd e=>h d (by simp[e])) i j b];simp
def Cz{w:aw}{base:Nat}{e:TypeId}{size n:Nat}{v:Value}{q:List (List Value)}(h:w.ownsRow base e size v n q.flatten)(k:∀c∈q,c.length=size)(h0:0<n) :
  ∃g cap dx,v=ae (Z ⟨g,0,I⟩) n cap/\base<=g/\n<=cap/\cap<=maxLen/\aK w g e dx/\dx.size=cap*size/\∀(i:Nat) (c:List Value),q[i]? = Z c->∀j,j<size->dx[i*size+j]? = c[j]?:=by
 rcases h.2 with⟨_,e⟩ | ⟨g,cap,dx,e,m,o,a,b,d,f⟩
 ·omega
 ·refine⟨g,cap,dx,e,m,a,b,o,d,λi c l j p=>?_⟩;have hg:=Ep k i j p;rw[l]at hg;have r:=wK k;have hi:=(List.getElem?_eq_some_iff.1 l).1;have h1:=h.1;have s:i*size+j<q.flatten.length:=by
   rw[r];have:(i+1)*size<=q.length*size:=Nat.mul_le_mul_right size hi;rw[jG]at this;omega
  have t:q.flatten.length=n*size:=h.1;rw[<-f,List.getElem?_take_of_lt z,Array.getElem?_toList]at hg;exact hg
def jZ{w:aw}{base:Nat}{e:TypeId}{size n:Nat}{v:Value}{q:List (List Value)}(h:w.ownsRow base e size v n q.flatten)(a:∀c∈q,c.length=size)(h0:0<n) :
  ∃g cap,v=ae (Z ⟨g,0,I⟩) n cap/\n<=cap/\∀(i:Nat) (c:List Value),q[i]? = Z c->∀j,j<size->w.cell? ⟨g,i*size+j,I⟩=c[j]?:=by
 obtain⟨g,cap,dx,e,_,h2,_,b,_,h3⟩:=Cz h a h0;exact⟨g,cap,e,h2,λi c d j f=>by rw[b.cell];exact h3 i c d j f⟩
def zP{k:Nat}:∀{q:List (List Value)},(∀c∈q,c.length=k)->∀(i j:Nat) (c:List Value) (u:Value),j<k->q[i]? = Z c->q.flatten.set (i*k+j) u=(q.set i (c.set j u)).flatten
 |[],_,i,j,c,u,_,h=>by simp at h
 |d::q,h,0,j,c,u,f,a=>by
  simp at a;subst a;have b:=h d dt;simp only[Nat.zero_mul,Nat.zero_add,jM,List.set_cons_zero];rw[List.set_append_left _ _ z]
 |d::q,h,i+1,j,c,u,f,a=>by
  have b:=h d dt;have g:=zP (q:=q) (λe he=>h e (dI _ he)) i j c u f (by simpa using a);simp only[jM,List.set_cons_succ];rw[List.set_append_right _ _ (by rw[b,jG];omega),<-g];congr 2;rw[b,jG];omega
def Fit.set{α:Type}{R:α->List Value->Prop}:∀{xs:List α} {cs:List (List Value)} {i:Nat} {x:α} {c:List Value},Fit R xs cs->xs[i]? = Z x->R x c->Fit R xs (cs.set i c)
 |x::xs,d::cs,0,y,c,h,e,hR=>by simp at e;subst e;exact⟨hR,h.2⟩
 |x::xs,d::cs,i+1,y,c,h,e,hR=>⟨h.1,Fit.set h.2 (by simpa using e) hR⟩
 |[],_,_,_,_,_,e,_=>by simp at e
 |_::_,[],_,_,_,h,_,_=>h.elim
def Fit.one{α:Type}{R:α->List Value->Prop}(h1:∀x c,R x c->∀u∈c,u.oneCell'=true){xs:List α}{cs:List (List Value)}(h:Fit R xs cs):∀u∈cs.flatten,u.oneCell'=true:=by
 intro u hu;obtain⟨c,a,hu⟩:=List.mem_flatten.1 hu;obtain⟨x,_,hR⟩:=h.mem c a;exact h1 x c hR u hu
def Fit.len{α:Type}{R:α->List Value->Prop}{k:Nat}(h1:∀x c,R x c->c.length=k){xs:List α}{cs:List (List Value)}(h:Fit R xs cs):∀c∈cs,c.length=k:=by
 intro c a;obtain⟨x,_,hR⟩:=h.mem c a;exact h1 x c hR
def Fit.MD{α:Type}{R:α->List Value->Prop}{xs:List α}{cs:List (List Value)}(h:Fit R xs cs){i:Nat}(hi:i<xs.length):∃x c,xs[i]? = Z x/\cs[i]? = Z c/\R x c:=by
 have e:xs[i]? = Z xs[i]:=ay hi;obtain⟨c,h1,h2⟩:=h.get e;exact⟨_,c,e,h1,h2⟩
def Iu{w:aw}{base:Nat}{e:TypeId}{size n c:Nat}{g:Nat}{xs:List Value}(h:w.ownsRow base e size (ae (Z ⟨g,0,I⟩) n c) n xs):∃dx,aK w g e dx/\base<=g:=by
 rcases h.2 with⟨a,_⟩ | ⟨f,cap,dx,a,b,d,_⟩
 ·simp at a
 ·simp at a;obtain⟨rfl,_⟩:=a;exact⟨dx,d,b⟩
def yV{P:Program}{a:Act}{w:aw}{Q:Exit->Act->aw->Prop}{c rest:Code}(l:Nat)(b:Act->aw->Prop)(d:Act->aw->Nat)(h:findLabel c l=Z (.seq .skip rest))
  (first:(∀a w,b a w->rest.wp P (Exit.jump l b Q) a w)->c.wp P (Exit.jump l b Q) a w)
  (pass:∀a w,b a w->rest.wp P (Exit.jump l (λa' w'=>b a' w'/\d a' w'<d a w) Q) a w):(Code.scope c).wp P Q a w:=by
 refine wp_scope_jumps l b d h (first λa w f=>wp_mono (pass a w f) λe a2 w2 g=>?_) (λa w f=>wp_seq (wp_skip (pass a w f)));cases e with
 |goto l=>exact⟨g.1,g.2.1⟩
 |_=>exact g
def IC:(af.info? 286).map (λi=>(i.zero,i.size,i.bytes))=Z (Z (cg #[J bI 0,J bI 0,ae I 0 0]),3,32):=cC
def lh(W:aw)(x:M.Chunk)(c:List Value):Prop:=∃b:Sl,c=[J bI x.count,J bI x.type,ae b.a b.n b.c]/\b.B W x.body/\b.n<=200/\(0<=x.count/\x.count<=31)/\(0<=x.type/\x.type<=255)
def lh.typed{w w':aw}{x:M.Chunk}{c:List Value}{F:Nat->Prop}{ts:List TypeId}(h:lh w x c)(u:cS F w w')(T:Typed w F ts)(ht:5∉ts):lh w' x c:=by
 obtain⟨b,h1,h2,h3⟩:=h;exact⟨b,h1,h2.typed u T ht,h3⟩
def lh.below{w w':aw}{x:M.Chunk}{c:List Value}(h:lh w x c)(u:aC w w'):lh w' x c:=by
 obtain⟨b,h1,h2,h3⟩:=h;exact⟨b,h1,h2.below u,h3⟩
def EJ(w:aw):∀(x:M.Chunk) c,lh w x c->c.length=3:=by
 rintro x c ⟨b,rfl,_⟩;rfl
def wh(W:aw)(v:Value):Nat:=match v with
 | aq (some p)=>(match W.cell? ⟨p.block,0,I⟩ with | some (.slice _ n _)=>n | _=>0)
 |_=>0
def iG.len{W:aw}{g:Nat}{d:M.Rd}(h:iG W g d):wh W (aq (Z ⟨g,0,I⟩))=d.left.length:=by
 obtain⟨A,n,c,b,e,_⟩:=h;have a:=b.cell 0;simp at a;unfold wh;simp only[a];exact e.len.symm
structure PU(w:aw)(b:M.cQ)(W:aw)(g:Nat)(v:Value)(L:List M.Chunk)(q:List (List Value))(f:Nat)(d:M.Rd):Prop where
 hg:w.heap.size<=g
 rd:iG W g d
 ok:d.Ok
 PA:d.left.length<=200
 lf:d.left.length<=4*f
 f1:1<=f
 len:L.length+f<=60
 eq:M.jN 60 ⟨b,0⟩=(L++(M.jN f d).1,(M.jN f d).2)
 own:W.ownsRow w.heap.size 286 3 v L.length q.flatten
 fit:Fit (lh W) L q
 fN:aC w W
def PV(w:aw)(A:Option Addr)(n c:Nat)(b:M.cQ)(a':Act)(W:aw):Prop:=
 ∃(g:Nat) (v:Value) (L:List M.Chunk) (q:List (List Value)) (f:Nat) (d:M.Rd) (u6 u7 u8 u9 u10 u11 u12 u13 u14 u15 u16 u17 u18 u19:Value),
  a'={ tmps:=#[ae A n c,undef,ae I 0 0,J V 0,aq (Z ⟨g,0,I⟩),v,u6,u7,u8,u9,u10,u11,u12,u13,u14,u15,u16,u17,u18,u19,undef,undef,undef,undef,undef,undef],defers:=[] }/\PU w b W g v L q f d
def xk{W:aw}{g:Nat}{d:M.Rd}(h:iG W g d):(0<=(M.fJ d).1.count/\(M.fJ d).1.count<=31)/\(0<=(M.fJ d).1.type/\(M.fJ d).1.type<=255):=by
 obtain⟨f,i,n,d1,d2,d3,d5,body,j,l,o,p,e⟩:=M.tR d;rw[e];have k:=ev h 1 z;rw[j]at k;simp only at k;refine⟨⟨by show 0<=f % 32;omega,by show f % 32<=31;omega⟩,?_⟩;have b:i=M.bO (d1.take 1).1:=by
  have:i=(d1.num 1).1:=by rw[l]
  rw[this];rfl
 have m:∀y∈(d1.take 1).1,0<=y/\y<=255:=λy hy=>by
  have a:=Dn d1 1 y hy;have c:d1=(d.take 1).2:=by
   have:d1=(d.num 1).2:=by rw[j]
   rw[this];rfl
  rw[c]at a;have:y∈d.left:=by
   unfold M.Rd.take at a;split at a
   ·exact a
   ·split at a
    ·unfold M.Rd.fail at a;split at a
     ·exact a
     ·simp at a
    ·exact List.mem_of_mem_drop a
  exact h.wA y this
 have:=tV _ m;have hlen:(d1.take 1).1.length<=1:=qP d1 1;have h2:(256:Int) ^ (d1.take 1).1.length<=256 ^ 1:=Lq hlen;rw[b];have h3:(256:Int) ^ 1=256:=aR;show 0<=M.bO (d1.take 1).1/\M.bO (d1.take 1).1<=255;omega
def zo(d:M.Rd):(M.fJ d).1.body.length<=d.left.length:=by
 obtain⟨a,j,b,d1,d2,d3,d5,body,c,f,g,h,e⟩:=M.tR d;rw[e];have l1:d1.left.length<=d.left.length:=by have:=M.uR d 1;rw[c]at this;exact this
 have l2:d2.left.length<=d1.left.length:=by have:=M.uR d1 1;rw[f]at this;exact this
 have l3:d3.left.length<=d2.left.length:=by have:=M.uR d2 2;rw[g]at this;exact this
 have l4:(if a<128\/191<a then d3.fail 2 else d3).left.length<=d3.left.length:=by
  split
  ·exact M.se _ _
  ·exact aj _
 have l5:body.length<=(if a<128\/191<a then d3.fail 2 else d3).left.length:=by have:=xc (if a<128\/191<a then d3.fail 2 else d3) (4*b);rw[h]at this;exact this
 show(if a / 32 % 2=1 then(match M.pg body with | some kept=>(kept,if 0<d5.left.length then d5.fail 2 else d5) | none=>([],d5.fail 2)) else(body,d5)).1.length<=_;split
 ·split
  ·rename_i k i;have:=(xO i).2;show k.length<=_;omega
  ·exact Nat.zero_le _
 ·show body.length<=_;omega
def I7(A:Option Addr)(n c:Nat)(b:M.cQ)(w:aw)(h:TB w A n b)(Ti:n<=c)(hz:A=I->c=0)(hn:n<=100000):aF af 225 #[ae A n c] w λe w' =>
  (∃(v:Value) (q:List (List Value)),e=av (aB #[v,J V (M.splitB b).2])/\∀l,(M.splitB b).1=Z l->w'.ownsRow w.heap.size 286 3 v l.length q.flatten/\Fit (lh w') l q/\l.length<=60)/\aC w w':=by
 have B:=h.len;by_cases TG:200<n
 ·have e0:M.splitB b=(I,4):=by unfold M.splitB;rw[if_pos z]
  rw[e0];clear e0 B h hz Ti;go_enter func225,ntmps225;go_wp2_with fail;go_step3;go_wp2_with fail;simp only[Exit.noGoto];refine ax (v:=aB #[ae I 0 0,J V 4]) (by simp[aV,results225,go_sem]) rfl ⟨⟨ae I 0 0,[],rfl,λl B=>by cases B⟩,ao _ _⟩
 ·obtain⟨i0,hi,Tj,Tk,Tl⟩:=cY IC;obtain⟨HI,Tt,Tu,Tv,HN,HL⟩:=lH hi Tj Tk Tl (wz A n c b w h hn hz) B;clear hi Tj Tk Tl h B hz Ti hn;go_enter func225,ntmps225;go_wp2_with fail;refine yV 0 (PV w A n c b) (λa' W=>wh W (a'.tmps.getD 4 undef)) rfl ?_ ?_
  ·intro again;have AG:=au again;clear again;go_wp2_with (go_at_call 47;refine HN.O.mono ?_;rintro e w1 ⟨⟨g,rfl,hg,hR⟩,b1⟩;have HG:=au hg;have HR:=au hR;have HB:=au b1;clear hg hR b1);go_step3;rename_i hK;refine hK _ _ (AG.O _ _ ?_);refine⟨g,ae I 0 0,[],[],60,⟨b,0⟩,_,_,_,_,_,_,_,_,_,_,_,_,_,_,rfl,⟨HG.O,HR.O,.new b,?_,?_,z,dt,dt,⟨rfl,.inl ⟨rfl,rfl⟩⟩,trivial,HB.O⟩⟩
   ·have:=HL.O;show b.length<=200;omega
   ·have:=HL.O;show b.length<=4*60;omega
  ·rintro a' W ⟨g,v,L,q,f,d,u6,u7,u8,u9,u10,u11,u12,u13,u14,u15,u16,u17,u18,u19,rfl,S⟩;obtain⟨A5,c5,hv⟩:=bA S.own;obtain⟨HV,HS⟩:=bu hv S;have hlen:=S.len;subst hv;clear S;go_wp2_with fail;refine(AE g d W HS.O.rd HS.O.PA).mono ?_;rintro e W1 ⟨⟨bs,rfl,C⟩,R1,u1⟩;obtain⟨D,E⟩:=M.Cs HS.O.ok;obtain⟨F,G⟩:=xk HS.O.rd;have H:=zo d;have m:M.jN f d=if 0<(M.fJ d).2.left.length then((M.fJ d).1::(M.jN (f-1) (M.fJ d).2).1,(M.jN (f-1) (M.fJ d).2).2) else([(M.fJ d).1],(M.fJ d).2):=by
    have hf:=HS.O.f1;obtain⟨f',rfl⟩:∃f',f=f'+1:=⟨f-1,z⟩;rw[M.jN];rfl
   obtain⟨⟨s,d'⟩,Tm⟩:∃p,p=M.fJ d:=⟨_,rfl⟩;rw[<-Tm]at C R1 D E F G H m ⊢;simp only at C R1 D E F G H m ⊢;have T1:Typed W (One g) [231]:=HS.O.rd.typed;have rO:=Cy HS.O.own u1 T1 aR;have P:Fit (lh W1) L q:=HS.O.fit.mono λx k Tw=>Tw.typed u1 T1 aR;have Q:aC w W1:=HS.O.fN.trans (u1.below HS.O.fN.size λi hi=>by cases hi;exact HS.O.hg);obtain⟨Tn,Tx,Ty,Tz,TA,TC,R,u,To,T⟩:=PG C R1 D E (And.intro F G) H m rO P Q;clear C R1 D E F G H m rO P Q u1 T1 Tm;go_wp2_with (at_builtin;go_loud (refine wpList_append_own _ rfl _ _ 373 rfl w.heap.size 286 i0 (cg #[J bI 0,J bI 0,ae I 0 0]) 3 32 underlying373 HI.O Tt.O Tu.O Tv.O rfl aR _ _ _ rfl (u.O.alloc _) ⟨W1.heap.size,0,I⟩ 1 1 [J bI s.count,J bI s.type,ae bs.a bs.n bs.c] rfl rfl (fB W1 286 _) tk ?c3 ?c4 ?c5 ?_));case c3=>unfold maxLen;omega
   case c4=>omega
   case c5=>have:=T.O.size;simp;omega
   intro v5 W5 U g5 _;have T5:Typed (W1.alloc (.cells #[J bI s.count,J bI s.type,ae bs.a bs.n bs.c] 286)) (λi=>(ae A5 L.length c5).ownBlock=Z i) [286]:=ib (u.O.alloc _);have U5:=cS.wx g5;have Tp:iG W5 g d':=((Tx.O.below ((ao _ _).alloc (aj _) _)).tc U5 T5 aR aR);have r:=T.O;have X:aC w W5:=(r.alloc r.size _).grown g5 (by have:=r.size;simp;omega) (λj hj=>by have:=(u.O.lt j hj).1;omega);have Y:W5.ownsRow w.heap.size 286 3 v5 (L++[s]).length (q++[[J bI s.count,J bI s.type,ae bs.a bs.n bs.c]]).flatten:=by simpa using U
   have Tf:Fit (lh W5) (L++[s]) (q++[[J bI s.count,J bI s.type,ae bs.a bs.n bs.c]]):=by
    have al:aC W1 (W1.alloc (.cells #[J bI s.count,J bI s.type,ae bs.a bs.n bs.c] 286)):=(ao _ _).alloc (aj _) _;refine Fit.snoc (To.O.mono λx k Tw=>(Tw.below al).typed U5 T5 aR) ⟨bs,rfl,(Tn.O.below al).typed U5 T5 aR,?_,TA.O⟩;have:=Tn.O.tl.len;have:=TC.O;have:=HS.O.PA;omega
   obtain⟨t,Tg,Tq,Ts⟩:=cA Tp X Y Tf;clear Tp X Y Tf T5 U5 g5 U r;go_wp2_with fail;refine(lr g d' _ t.O).mono ?_;rintro e w9 ⟨rfl,e9⟩;subst e9;by_cases K:0<d'.left.length
   ·have TD:=au K;go_wp2_with fail;go_step3;have m:=R.O;rw[if_pos K]at m;have TH:=Tz.O;have TI:=HS.O.lf;have TE:=HS.O.f1;have TJ:=HS.O.PA;have TF:=HS.O.len;refine⟨rfl,⟨g,v5,L++[s],_,f-1,d',_,_,_,_,_,_,_,_,_,_,_,_,_,_,rfl,⟨HS.O.hg,t.O,Ty.O,z,z,z,dZ,?_,Tq.O,Ts.O,Tg.O⟩⟩,?_⟩
    ·rw[HS.O.eq,m];simp
    ·have e1:wh w9 (aq (Z ⟨g,0,I⟩))=d'.left.length:=t.O.len;have e2:wh W (aq (Z ⟨g,0,I⟩))=d.left.length:=HS.O.rd.len;show wh w9 (aq (Z ⟨g,0,I⟩))<wh W (aq (Z ⟨g,0,I⟩));rw[e1,e2];omega
   ·have TD:=au K;have m:=R.O;rw[if_neg K]at m;have heq:=HS.O.eq;rw[m]at heq;have o:M.splitB b=if d'.end_≠0 then(I,d'.end_) else(Z (L++[s]),0):=by
     unfold M.splitB;rw[if_neg (lE HL.O),heq]
    have N:=au o;have TF:=HS.O.len;have TE:=HS.O.f1;clear m heq o;go_wp2_with fail;refine(qy g d' _ t.O).mono ?_;rintro e w8 ⟨rfl,e8⟩;subst e8;by_cases he:d'.end_=0
    ·have o:=N.O;rw[if_neg (by simpa using he)]at o;have y:=au o;rw[he];clear he o N;go_wp2_with fail;simp only[Exit.jump];refine ax (v:=aB #[v5,J V 0]) (by simp[aV,results225,go_sem]) rfl ?_;rw[y.O];exact⟨⟨v5,_,rfl,λl B=>by simp only[bf]at B;subst B;exact⟨Tq.O,Ts.O,dZ⟩⟩,Tg.O⟩
    ·have o:=N.O;rw[if_pos he]at o;have y:=au o;have TM:(d'.end_ !=0)=true:=by simpa using he
     clear he o N;go_wp2_with fail;simp only[Exit.jump];refine ax (v:=aB #[ae I 0 0,J V d'.end_]) (by simp[aV,results225,go_sem]) rfl ?_;rw[y.O];exact⟨⟨ae I 0 0,[],rfl,λl B=>by cases B⟩,Tg.O⟩
end Go.Proofs.YtkfblammcilfhaaGreatDoor
