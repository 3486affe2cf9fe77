import Derived.Test.YtkfblammcilfhaaGreatDoorP3
set_option linter.all false
set_option maxRecDepth 100000
set_option maxHeartbeats 100000000
open Go.ChangeShapes Go.WideShapes Go.ChangeAt Go.RowKit Go.Proofs.Tryz
open Go renaming World->aw,Calls->aF,bodyPost_ret->ax,results->aV,info_parts->cY,Oper->mJ
open Option.some renaming injEq->bf
open Go.RowKit renaming Below->iQ,wrap64->dB
open Go.Proofs.Tryz renaming prog->af
open Go.Value renaming cells->gW,int->J,slice->ae,bool->ai,pointer->aq,tuple->aB,agg->cg
open List renaming length_cons->ft,getElem?_eq_getElem->ay,mem_append->bt,flatten_cons->jM
open Nat renaming add_zero->iw,mod_eq_of_lt->fZ,mod_lt->kp,zero_add->cO,le_refl->aj,add_mul->jG
open Go.IntKind renaming i64->V,u32->ar,u16->aN,u8->bI
open Go.IntWalk renaming i64_in->cz
open Go.RowKit.Below renaming refl->ao
open Array renaming getElem?_eq_getElem->aE,getElem?_eq_some_iff->jm
open Go.Ending renaming returned->av
open Or renaming inl->aJ,inr->aZ
open Option renaming none->I,some->Z
namespace Go.Proofs.YtkfblammcilfhaaGreatDoor
section
def Rows(w w':aw):Prop:=∀i t cs,t=5\/t=41->aK w i t cs->aK w' i t cs
def Rows.refl(w:aw):Rows w w:=λ_ _ _ _ h=>h
def Rows.trans{a b c:aw}(h:Rows a b)(k:Rows b c):Rows a c:=λi t cs ht d=>k i t cs ht (h i t cs ht d)
def Rows.bn{a b:aw}(h:aC a b):Rows a b:=λi t cs ht c=>c.kept h
def Rows.drewN{a b:aw}(h:Rows a b)(n:Nat):Rows a (b.drewN n):=λi t cs ht c=>h i t cs ht c
def Rows.drew{a b:aw}(h:Rows a b):Rows a b.drew:=λi t cs ht c=>h i t cs ht c
def Rows.alloc{a b:aw}(h:Rows a b)(o:Obj):Rows a (b.alloc o):=λi t cs ht c=>(h i t cs ht c).alloc o
def Rows.setCell{a b:aw}(h:Rows a b){g:Nat}{t:TypeId}{cs:Array Value}(k:aK b g t cs)(h5:t≠5)(d:t≠41)(i:Nat)(v:Value):Rows a (b.setCell ⟨g,i,I⟩ v):=λj e c ht f =>
 (h j e c ht f).dS (p:=⟨g,i,I⟩) (aK.jf (h j e c ht f) k (by rcases ht with rfl|rfl;exact Ne.symm h5;exact Ne.symm d)) v
def PY(w:aw)(i:Nat):Prop:=(∃es k,w.heap[i]? = Z (.map es k))\/∃t cs,aK w i t cs/\t≠5/\t≠41
def PY.cw{w:aw}{i:Nat}{t:TypeId}{cs:Array Value}(h:aK w i t cs)(h5:t≠5)(a:t≠41):PY w i:=aZ ⟨t,cs,h,h5,a⟩
def PY.ne{w:aw}{i g:Nat}{t:TypeId}{cs:Array Value}(h:PY w i)(a:aK w g t cs)(ht:t=5\/t=41):i≠g:=by
 rintro rfl;rcases h with⟨es,k,h⟩ | ⟨d,c,h,h5,b⟩
 ·unfold aK at a;rw[a]at h;cases h
 ·unfold aK at a h;rw[a]at h;simp only[bf,Obj.cells.injEq]at h;obtain⟨_,rfl,_⟩:=h;rcases ht with rfl|rfl
  ·exact h5 rfl
  ·exact b rfl
def vP(w:aw)(F:Nat->Prop):Prop:=∀i,F i->PY w i
def vP.none(w:aw):vP w cr:=λi a=>a.elim
def Typed.ni{w:aw}{F:Nat->Prop}{ts:List TypeId}(T:Typed w F ts)(h5:5∉ts)(a:41∉ts):vP w F:=λi b=>by
 obtain⟨t,cs,ht,c⟩:=T i b;exact .cw c (λe=>h5 (e ▸ ht)) (λe=>a (e ▸ ht))
def Rows.jT{w w':aw}{F:Nat->Prop}(u:cS F w w')(T:vP w F):Rows w w':=λi t cs ht a=>a.dW u λq=>(T i q).ne a ht rfl
structure Fr(F:Nat->Prop)(w w':aw):Prop where
 u:cS F w w'
 r:Rows w w'
section
variable {F G:Nat->Prop} {a b c:aw}
def Fr.refl(F:Nat->Prop)(w:aw):Fr F w w:=⟨cS.refl _ _,Rows.refl _⟩
def Fr.trans(h:Fr F a b)(k:Fr F b c):Fr F a c:=⟨h.u.trans k.u,h.r.trans k.r⟩
def Fr.mono(h:Fr F a b)(c:∀i,i<a.heap.size->F i->G i):Fr G a b:=⟨h.u.mono c,h.r⟩
def Fr.step(h:Fr F a b)(k:Fr G b c)(d:∀i,G i->F i\/a.heap.size<=i):Fr F a c:=⟨h.u.step k.u d,h.r.trans k.r⟩
def Fr.bn(h:aC a b):Fr F a b:=⟨.bn h,.bn h⟩
def Fr.then(h:Fr F a b)(k:aC b c):Fr F a c:=h.trans (.bn k)
def Fr.jT(u:cS F a b)(T:vP a F):Fr F a b:=⟨u,.jT u T⟩
def Fr.nY{ts:List TypeId}(u:cS F a b)(T:Typed a F ts)(h5:5∉ts)(c:41∉ts):Fr F a b:=.jT u (T.ni h5 c)
def Fr.drew(h:Fr F a b):Fr F a b.drew:=⟨h.u.drew,h.r.drew⟩
def Fr.drewN(h:Fr F a b)(n:Nat):Fr F a (b.drewN n):=⟨h.u.drewN n,h.r.drewN n⟩
def Fr.alloc(h:Fr F a b)(o:Obj):Fr F a (b.alloc o):=⟨h.u.alloc o,h.r.alloc o⟩
def Fr.setCell(h:Fr F a b){g:Nat}{t:TypeId}{cs:Array Value}(d:aK b g t cs)(hg:F g\/a.heap.size<=g)(h5:t≠5)(c:t≠41)(i:Nat)(v:Value):Fr F a (b.setCell ⟨g,i,I⟩ v):=
 ⟨h.u.setCell (p:=⟨g,i,I⟩) hg v,h.r.setCell d h5 c i v⟩
def Fr.size(h:Fr F a b):a.heap.size<=b.heap.size:=h.u.size
def Fr.below{B:Nat}(h:Fr F a b)(c:B<=a.heap.size)(hF:∀i,F i->B<=i):iQ B a b:=h.u.below c hF
def Fr.nothing(h:Fr cr a b):aC a b:=h.u.nothing
end
section
variable {t:TypeId} {k:IntKind} {w w':aw} {A:Option Addr} {n:Nat} {xs:List Int}
def TL.rows(h:TL t k w A n xs)(ht:t=5\/t=41)(r:Rows w w'):TL t k w' A n xs:=h.map λb cs a=>r b t cs ht a
def Sl.At.rows{s:Sl}(h:s.At t k w xs)(ht:t=5\/t=41)(r:Rows w w'):s.At t k w' xs:=h.map λq=>q.rows ht r
def iT.rows{p:M.cR}{s e y:Sl}(h:iT w p s e y)(r:Rows w w'):iT w' p s e y:=h.map (·.rows (aZ rfl) r) (·.rows (aJ rfl) r)
end
def im:aw->Nat->Nat->List Value->aw
 |w,_,_,[]=>w
 |w,g,i,v::vs=>im (w.setCell ⟨g,i,I⟩ v) g (i+1) vs
def aK.im{g:Nat}{t:TypeId}:∀(vs:List Value) (i:Nat) {w:aw} {cs:Array Value},aK w g t cs->aK (im w g i vs) g t (ph cs i vs)
 |[],_,_,_,h=>h
 |v::vs,i,_,_,h=>aK.im vs (i+1) (h.bC i v)
def Fr.im{g:Nat}{t:TypeId}(h5:t≠5)(b:t≠41):∀(vs:List Value) (i:Nat) {a w:aw} {cs:Array Value} {F:Nat->Prop},aK w g t cs->(F g\/a.heap.size<=g)->Fr F a w->Fr F a (im w g i vs)
 |[],_,_,_,_,_,_,_,f=>f
 |v::vs,i,_,_,_,_,h,hg,f=>Fr.im h5 b vs (i+1) (h.bC i v) hg (f.setCell h hg h5 b i v)
def Fit{α:Type}(R:α->List Value->Prop):List α->List (List Value)->Prop
 |[],[]=>True
 |x::xs,c::cs=>R x c/\Fit R xs cs
 |_,_=>False
section
variable {α:Type} {R S:α->List Value->Prop}
def Fit.mono(a:∀x c,R x c->S x c):∀{xs:List α} {cs:List (List Value)},Fit R xs cs->Fit S xs cs
 |[],[],_=>trivial
 |x::xs,c::cs,h=>⟨a x c h.1,Fit.mono a h.2⟩
 |[],_::_,h=>h.elim
 |_::_,[],h=>h.elim
def Fit.length:∀{xs:List α} {cs:List (List Value)},Fit R xs cs->cs.length=xs.length
 |[],[],_=>rfl
 |x::xs,c::cs,h=>by simp[Fit.length h.2]
 |[],_::_,h=>h.elim
 |_::_,[],h=>h.elim
def Fit.snoc:∀{xs:List α} {cs:List (List Value)} {x:α} {c:List Value},Fit R xs cs->R x c->Fit R (xs++[x]) (cs++[c])
 |[],[],_,_,_,h=>⟨h,trivial⟩
 |x::xs,c::cs,_,_,h,k=>⟨h.1,Fit.snoc h.2 k⟩
 |[],_::_,_,_,h,_=>h.elim
 |_::_,[],_,_,h,_=>h.elim
def Fit.cons_inv{x:α}{xs:List α}{cs:List (List Value)}(h:Fit R (x::xs) cs):∃c a,cs=c::a/\R x c/\Fit R xs a:=by
 cases cs with
 |nil=>exact h.elim
 |cons c cs=>exact⟨c,cs,rfl,h⟩
def Fit.mem:∀{xs:List α} {cs:List (List Value)},Fit R xs cs->∀c∈cs,∃x∈xs,R x c
 |[],[],_=>λc b=>by simp at b
 |x::xs,c::cs,h=>λd a=>by
  rcases List.mem_cons.1 a with rfl|a
  ·exact⟨x,dt,h.1⟩
  ·obtain⟨y,hy,hR⟩:=Fit.mem h.2 d a;exact⟨y,by simp[hy],hR⟩
 |[],_::_,h=>h.elim
 |_::_,[],h=>h.elim
def Fit.get:∀{xs:List α} {cs:List (List Value)} {i:Nat} {x:α},Fit R xs cs->xs[i]? = Z x->∃c,cs[i]? = Z c/\R x c
 |x::xs,c::cs,0,_,h,e=>by simp at e;subst e;exact⟨c,rfl,h.1⟩
 |x::xs,c::cs,i+1,_,h,e=>by simpa using Fit.get h.2 (by simpa using e)
 |[],_,_,_,_,e=>by simp at e
 |_::_,[],_,_,h,_=>h.elim
end
end
abbrev rZ:Value:=(cg #[J V 0,J V 0,ai false,ai false,J bI 0,J aN 0,J ar 0,J ar 0,ae I 0 0,ai false,J aN 0,ae I 0 0,ae I 0 0]:Value)
def JQ(w:aw):(zeroValue 227).run af w=.ok rZ w:=cC
abbrev km:=RingM 309 227 13
def Mp:∀v∈rZ.cells.toList,v.oneCell'=true:=by
 intro u hu;simp[gW]at hu;repeat (first|(subst hu;rfl)|(rcases hu with rfl|hu;rfl))
def pG:(af.info? 227).map (·.size)=Z 13:=cC
def JR:rZ.cells.size=13:=rfl
def Eh(g pl cap:Nat)(q:List (List Value))(w:aw)(h:km w g pl cap q):aF af 94 #[aq (Z ⟨g,0,I⟩)] w λe w'=>e=av (J V q.length)/\w'=w:=by
 obtain⟨first,jt,n4,n5,n6,n7,b,a,c,d,hR⟩:=h.ex;have c2:=a.cell 2;simp at c2;clear hR h;go_enter func94,ntmps94;go_wp2_with fail;go_ret;exact⟨rfl,rfl⟩
def Bw(g pl cap:Nat)(q:List (List Value))(w:aw)(h:km w g pl cap q):aF af 238 #[aq (Z ⟨g,0,I⟩)] w λe w'=>e=av (ai (decide (q.length=cap)))/\w'=w.drew:=by
 obtain⟨first,jt,n4,n5,n6,n7,j,c,k,l,hR⟩:=h.ex;have c2:=c.cell 2;have f:=c.cell 0;simp at c2 f;clear hR h;by_cases d:q.length=cap
 ·have a:decide (q.length=cap)=true:=by simp[d]
  have b:=au a;clear a;have i:((q.length:Int)==(cap:Int))=true:=dZ;go_enter func238,ntmps238;go_wp2_with fail;go_region;go_wp2_with fail;go_ret;exact⟨by rw[b.O];try rfl,rfl⟩
 ·have a:decide (q.length=cap)=false:=by simp[d]
  have b:=au a;clear a;have i:((q.length:Int)==(cap:Int))=false:=dZ;go_enter func238,ntmps238;go_wp2_with fail;go_region;go_wp2_with fail;go_ret;exact⟨by rw[b.O];try rfl,rfl⟩
def xv(g pl cap:Nat)(a0:Int)(a1:Int)(b2:Bool)(b3:Bool)(a4:Int)(a5:Int)(G:Int)(H:Int)(K:Option Addr)(s t:Nat)(L:Bool)(u:Int)(y:Option Addr)(f l:Nat)(A:Option Addr)(m n:Nat)(q:List (List Value))(w:aw)(h:km w g pl cap ([J V a0,J V a1,ai b2,ai b3,J bI a4,J aN a5,J ar G,J ar H,ae K s t,ai L,J aN u,ae y f l,ae A m n]::q)) :
  aF af 223 #[aq (Z ⟨g,0,I⟩)] w λe w'=>e=av (cg #[J V a0,J V a1,ai b2,ai b3,J bI a4,J aN a5,J ar G,J ar H,ae K s t,ai L,J aN u,ae y f l,ae A m n])/\km w' g pl cap q/\cS (jK g pl) w w':=by
 obtain⟨first,jt,n4,n5,n6,n7,hf,F,B,hs,hR⟩:=h.ex;have le:=h.le;have one:=h.one;have aT:=h.aT;have Tj:=au h.wf;simp only[ft]at le;have d:=hR 0 [J V a0,J V a1,ai b2,ai b3,J bI a4,J aN a5,J ar G,J ar H,ae K s t,ai L,J aN u,ae y f l,ae A m n] rfl;rw[iw,fZ hf]at d;have p0:w.cell? ⟨pl,first*13,I⟩=Z (J V a0):=by have:=(B.cell (first*13+0)).trans (d 0 z);simpa using this
 have p1:w.cell? ⟨pl,first*13+1,I⟩=Z (J V a1):=by have:=(B.cell (first*13+1)).trans (d 1 z);simpa using this
 have p2:w.cell? ⟨pl,first*13+2,I⟩=Z (ai b2):=by have:=(B.cell (first*13+2)).trans (d 2 z);simpa using this
 have p3:w.cell? ⟨pl,first*13+3,I⟩=Z (ai b3):=by have:=(B.cell (first*13+3)).trans (d 3 z);simpa using this
 have p4:w.cell? ⟨pl,first*13+4,I⟩=Z (J bI a4):=by have:=(B.cell (first*13+4)).trans (d 4 z);simpa using this
 have p5:w.cell? ⟨pl,first*13+5,I⟩=Z (J aN a5):=by have:=(B.cell (first*13+5)).trans (d 5 z);simpa using this
 have p6:w.cell? ⟨pl,first*13+6,I⟩=Z (J ar G):=by have:=(B.cell (first*13+6)).trans (d 6 z);simpa using this
 have p7:w.cell? ⟨pl,first*13+7,I⟩=Z (J ar H):=by have:=(B.cell (first*13+7)).trans (d 7 z);simpa using this
 have p8:w.cell? ⟨pl,first*13+8,I⟩=Z (ae K s t):=by have:=(B.cell (first*13+8)).trans (d 8 z);simpa using this
 have p9:w.cell? ⟨pl,first*13+9,I⟩=Z (ai L):=by have:=(B.cell (first*13+9)).trans (d 9 z);simpa using this
 have M:w.cell? ⟨pl,first*13+10,I⟩=Z (J aN u):=by have:=(B.cell (first*13+10)).trans (d 10 z);simpa using this
 have N:w.cell? ⟨pl,first*13+11,I⟩=Z (ae y f l):=by have:=(B.cell (first*13+11)).trans (d 11 z);simpa using this
 have P:w.cell? ⟨pl,first*13+12,I⟩=Z (ae A m n):=by have:=(B.cell (first*13+12)).trans (d 12 z);simpa using this
 have U:=F.cell 0;have c1:=F.cell 1;have f0:=F.frozen 0;have f1:=F.frozen 1;simp at U c1;have D:=F.drew;have c:=B.drew;have w1:V.wrap ((first:Int)+1)=(first:Int)+1:=cz _ ⟨z,z⟩;have q1:(first:Int)+1<=cap:=z;have q2:0<=(first:Int)+1:=z;have q3:¬cap=first:=z
 have Tk:=ll (k:=13) hf;have SJ:first*13+rZ.cells.size<=jt.size:=by rw[JR];omega
 have gX:=hR.take hf z hs (zs:=rZ.cells.toList) rfl;have SK:(de jt (first*13) rZ.cells.toList).size=cap*13:=by rw[gU (by simpa using SJ),hs]
 obtain⟨b,Q⟩:=dH ((first+1) % cap);have To:((first:Int)+1) % (cap:Int)=(b:Int):=by rw[Q];simp
 have SL:b<cap:=by rw[Q];exact kp _ z
 rw[<-Q]at gX;obtain⟨HR,HS,Tp,r⟩:=cA gX SK h d;clear hR gX hs SK Q h d Tk;clear U c1 f0 f1 p0 p1 p2 p3 p4 p5 p6 p7 p8 p9 M N P D c;go_enter func223,ntmps223;go_wp2_with fail;obtain⟨Y,R⟩:=dH w.heap.size;refine aW (λW=>aK W Y 227 #[J V 0,J V 0,ai false,ai false,J bI 0,J aN 0,J ar 0,J ar 0,ae I 0 0,ai false,J aN 0,ae I 0 0,ae I 0 0]/\aK W g 309 _/\aK W pl 227 jt/\cS cr w W) ⟨by rw[R];exact aK.new w 227 #[J V 0,J V 0,ai false,ai false,J bI 0,J aN 0,J ar 0,J ar 0,ae I 0 0,ai false,J aN 0,ae I 0 0,ae I 0 0],F.alloc _,B.alloc _,(cS.refl _ w).alloc _⟩ ?_;rintro W ⟨mK,E,a,u1⟩;rw[<-R];have d0:Y≠pl:=by rw[R];exact(Nat.ne_of_lt B.lt).symm
 have b0:w.heap.size<=Y:=z;have Tq:=a.lt;have Tl:=au b0;clear R b0;have U:=E.cell 0;have c1:=E.cell 1;have SM:=(E.alloc (.cells #[J V 0,J V 0,ai false,ai false,J bI 0,J aN 0,J ar 0,J ar 0,ae I 0 0,ai false,J aN 0,ae I 0 0,ae I 0 0] 227)).cell 0;have SN:=(E.alloc (.cells #[J V 0,J V 0,ai false,ai false,J bI 0,J aN 0,J ar 0,J ar 0,ae I 0 0,ai false,J aN 0,ae I 0 0,ae I 0 0] 227)).cell 1;simp at U c1 SM SN;have p0:=(a.cell (first*13+0)).trans (r.O 0 z);have SO:=((a.alloc (.cells #[J V 0,J V 0,ai false,ai false,J bI 0,J aN 0,J ar 0,J ar 0,ae I 0 0,ai false,J aN 0,ae I 0 0,ae I 0 0] 227)).cell (first*13+0)).trans (r.O 0 z);have p1:=(a.cell (first*13+1)).trans (r.O 1 z);have SP:=((a.alloc (.cells #[J V 0,J V 0,ai false,ai false,J bI 0,J aN 0,J ar 0,J ar 0,ae I 0 0,ai false,J aN 0,ae I 0 0,ae I 0 0] 227)).cell (first*13+1)).trans (r.O 1 z);have p2:=(a.cell (first*13+2)).trans (r.O 2 z);have SQ:=((a.alloc (.cells #[J V 0,J V 0,ai false,ai false,J bI 0,J aN 0,J ar 0,J ar 0,ae I 0 0,ai false,J aN 0,ae I 0 0,ae I 0 0] 227)).cell (first*13+2)).trans (r.O 2 z);have p3:=(a.cell (first*13+3)).trans (r.O 3 z);have SU:=((a.alloc (.cells #[J V 0,J V 0,ai false,ai false,J bI 0,J aN 0,J ar 0,J ar 0,ae I 0 0,ai false,J aN 0,ae I 0 0,ae I 0 0] 227)).cell (first*13+3)).trans (r.O 3 z);have p4:=(a.cell (first*13+4)).trans (r.O 4 z);have SV:=((a.alloc (.cells #[J V 0,J V 0,ai false,ai false,J bI 0,J aN 0,J ar 0,J ar 0,ae I 0 0,ai false,J aN 0,ae I 0 0,ae I 0 0] 227)).cell (first*13+4)).trans (r.O 4 z);have p5:=(a.cell (first*13+5)).trans (r.O 5 z);have SW:=((a.alloc (.cells #[J V 0,J V 0,ai false,ai false,J bI 0,J aN 0,J ar 0,J ar 0,ae I 0 0,ai false,J aN 0,ae I 0 0,ae I 0 0] 227)).cell (first*13+5)).trans (r.O 5 z);have p6:=(a.cell (first*13+6)).trans (r.O 6 z);have SX:=((a.alloc (.cells #[J V 0,J V 0,ai false,ai false,J bI 0,J aN 0,J ar 0,J ar 0,ae I 0 0,ai false,J aN 0,ae I 0 0,ae I 0 0] 227)).cell (first*13+6)).trans (r.O 6 z);have p7:=(a.cell (first*13+7)).trans (r.O 7 z);have SY:=((a.alloc (.cells #[J V 0,J V 0,ai false,ai false,J bI 0,J aN 0,J ar 0,J ar 0,ae I 0 0,ai false,J aN 0,ae I 0 0,ae I 0 0] 227)).cell (first*13+7)).trans (r.O 7 z);have p8:=(a.cell (first*13+8)).trans (r.O 8 z);have SZ:=((a.alloc (.cells #[J V 0,J V 0,ai false,ai false,J bI 0,J aN 0,J ar 0,J ar 0,ae I 0 0,ai false,J aN 0,ae I 0 0,ae I 0 0] 227)).cell (first*13+8)).trans (r.O 8 z);have p9:=(a.cell (first*13+9)).trans (r.O 9 z);have Ta:=((a.alloc (.cells #[J V 0,J V 0,ai false,ai false,J bI 0,J aN 0,J ar 0,J ar 0,ae I 0 0,ai false,J aN 0,ae I 0 0,ae I 0 0] 227)).cell (first*13+9)).trans (r.O 9 z);have M:=(a.cell (first*13+10)).trans (r.O 10 z);have aI:=((a.alloc (.cells #[J V 0,J V 0,ai false,ai false,J bI 0,J aN 0,J ar 0,J ar 0,ae I 0 0,ai false,J aN 0,ae I 0 0,ae I 0 0] 227)).cell (first*13+10)).trans (r.O 10 z);have N:=(a.cell (first*13+11)).trans (r.O 11 z);have df:=((a.alloc (.cells #[J V 0,J V 0,ai false,ai false,J bI 0,J aN 0,J ar 0,J ar 0,ae I 0 0,ai false,J aN 0,ae I 0 0,ae I 0 0] 227)).cell (first*13+11)).trans (r.O 11 z);have P:=(a.cell (first*13+12)).trans (r.O 12 z);have eI:=((a.alloc (.cells #[J V 0,J V 0,ai false,ai false,J bI 0,J aN 0,J ar 0,J ar 0,ae I 0 0,ai false,J aN 0,ae I 0 0,ae I 0 0] 227)).cell (first*13+12)).trans (r.O 12 z);simp at p0 SO p1 SP p2 SQ p3 SU p4 SV p5 SW p6 SX p7 SY p8 SZ p9 Ta M aI N df P eI;go_region;obtain⟨r1,SG⟩:=dH W.heap.size;rw[<-SG];refine gN (λX=>aK X Y 227 #[J V 0,J V 0,ai false,ai false,J bI 0,J aN 0,J ar 0,J ar 0,ae I 0 0,ai false,J aN 0,ae I 0 0,ae I 0 0]/\aK X r1 227 #[J V a0,J V a1,ai b2,ai b3,J bI a4,J aN a5,J ar G,J ar H,ae K s t,ai L,J aN u,ae y f l,ae A m n]/\aK X g 309 _/\aK X pl 227 jt/\cS cr w X) ⟨(mK.alloc _).drew,by rw[SG];exact(aK.new W 227 _).drew,(E.alloc _).drew,(a.alloc _).drew,(u1.alloc _).drew⟩ ?_;rintro X ⟨S,T,D,c,u2⟩;have n1:=mK.lt;have d1:r1≠pl:=z;clear SG;clear mK E a u1 p0 SO p1 SP p2 SQ p3 SU p4 SV p5 SW p6 SX p7 SY p8 SZ p9 Ta M aI N df P eI U c1 SM SN;have U:=D.cell 0;have c1:=D.cell 1;simp at U c1;go_wp2_with fail;have Tn:∀ty,(Builtin.clear_ #[307] ty #[ae (Z ⟨pl,(first*13),I⟩) 1 (cap-first)]).run af X.drew=.ok (aB #[]) (X.drew.setRow pl (de jt (first*13) rZ.cells.toList)):=λty=>nf _ 307 227 ty rZ underlying307 JQ pl (first*13) (cap-first) 227 jt (by first|exact c.drew|exact c) SJ Mp;go_region;refine gN (λw2=>aK w2 pl 227 (de jt (first*13) rZ.cells.toList)/\aK w2 g 309 _/\aK w2 Y 227 _/\aK w2 r1 227 _/\cS (jK g pl) w w2) ⟨by first|exact gm c.drew|exact gm c|exact(gm c).drew,by first|exact eB D.drew c.drew (aK.jf F B aR)|exact eB D c (aK.jf F B aR)|exact(eB D c (aK.jf F B aR)).drew,by first|exact eB S.drew c.drew d0|exact eB S c d0|exact(eB S c d0).drew,by first|exact eB T.drew c.drew d1|exact eB T c d1|exact(eB T c d1).drew,by first|exact((u2.mono λi _ q=>q.elim).drew).step (fW _ _ _) (λi hi=>aJ (aZ hi))|exact((u2.mono λi _ q=>q.elim)).step (fW _ _ _) (λi hi=>aJ (aZ hi))|exact(((u2.mono λi _ q=>q.elim)).step (fW _ _ _) (λi hi=>aJ (aZ hi))).drew⟩ ?_;rintro w2 ⟨Tb,C,SH,SI,u3⟩;have e0:=C.cell 0;have e1:=C.cell 1;have e2:=C.cell 2;have f0:=C.frozen 0;have f1:=C.frozen 1;have f2:=C.frozen 2;simp at e0 e1 e2;all_goals
  have ng:Y≠g:=aK.jf SH C aR;have nq:r1≠g:=aK.jf SI C aR;have h5:km ((w2.setCell ⟨g,1,I⟩ (J V b)).setCell ⟨g,2,I⟩ (J V q.length)) g pl cap q:=by
   refine⟨⟨b,_,n4,n5,n6,n7,SL,?_,(Tb.dS (p:=⟨g,1,I⟩) (λe=>aK.jf F B aR e.symm) _).dS (p:=⟨g,2,I⟩) (λe=>aK.jf F B aR e.symm) _,HS.O,HR.O⟩,z,one,aT,λx hx=>Tj.O x (by simp[hx])⟩;have B5:=(C.bC 1 (J V b)).bC 2 (J V q.length);simpa using B5
  have u5:=(u3.setCell (p:=⟨g,1,I⟩) (aJ (aJ rfl)) (J V b)).setCell (p:=⟨g,2,I⟩) (aJ (aJ rfl)) (J V q.length);have Tc:=(SH.dS (p:=⟨g,1,I⟩) ng (J V b)).dS (p:=⟨g,2,I⟩) ng (J V q.length);have Td:=(SI.dS (p:=⟨g,1,I⟩) nq (J V b)).dS (p:=⟨g,2,I⟩) nq (J V q.length);have HY:=au h5;have HU:=au u5;have Te:=au Tc;have Tf:=au Td;clear S T D c u2 U c1 SH SI u3 Tb C h5 u5 Tc Td;go_wp2_with fail;go_region;go_wp2_with (first
   |(refine lI _ rfl (.tmp 3) 227 rfl r1 0 227 _ rfl #[J V a0,J V a1,ai b2,ai b3,J bI a4,J aN a5,J ar G,J ar H,ae K s t,ai L,J aN u,ae y f l,ae A m n] _ underlying227 pG (by first|exact Tf.O.drew|exact Tf.O) (λj _=>by rw[cO]) ?_)
   |(refine jb _ rfl (.tmp 2) (.tmp 49) 227 rfl Y 0 227 _ rfl #[J V a0,J V a1,ai b2,ai b3,J bI a4,J aN a5,J ar G,J ar H,ae K s t,ai L,J aN u,ae y f l,ae A m n] rfl pG (by first|exact Te.O.drew|exact Te.O) (aj _) tk ?_;intro w6 o v6))
  have Tm:de #[J V 0,J V 0,ai false,ai false,J bI 0,J aN 0,J ar 0,J ar 0,ae I 0 0,ai false,J aN 0,ae I 0 0,ae I 0 0] 0 (#[J V a0,J V a1,ai b2,ai b3,J bI a4,J aN a5,J ar G,J ar H,ae K s t,ai L,J aN u,ae y f l,ae A m n]:Array Value).toList=#[J V a0,J V a1,ai b2,ai b3,J bI a4,J aN a5,J ar G,J ar H,ae K s t,ai L,J aN u,ae y f l,ae A m n]:=rfl;rw[Tm]at o;have x0:=o.cell 0;have x1:=o.cell 1;have x2:=o.cell 2;have x3:=o.cell 3;have x4:=o.cell 4;have x5:=o.cell 5;have x6:=o.cell 6;have x7:=o.cell 7;have x8:=o.cell 8;have x9:=o.cell 9;have Tg:=o.cell 10;have Th:=o.cell 11;have Ti:=o.cell 12;simp at x0 x1 x2 x3 x4 x5 x6 x7 x8 x9 Tg Th Ti;have h6:km w6 g pl cap q:=(by first|exact HY.O.drew|exact HY.O:km _ g pl cap q).dW v6 (λe=>ng e.symm) (λe=>d0 e.symm);have u6:cS (jK g pl) w w6:=(by first|exact HU.O.drew|exact HU.O:cS (jK g pl) w _).step v6 (λi hi=>aZ (by rw[show i=Y from hi];exact Tl.O));refine ax (v:=(cg #[J V a0,J V a1,ai b2,ai b3,J bI a4,J aN a5,J ar G,J ar H,ae K s t,ai L,J aN u,ae y f l,ae A m n])) (by simp[aV,results223,go_sem,x0,x1,x2,x3,x4,x5,x6,x7,x8,x9,Tg,Th,Ti]) rfl ⟨rfl,h6,u6⟩
def Bv:(af.info? 227).map (λi=>(i.zero,i.size,i.bytes))=Z (Z rZ,13,120):=cC
def Mq(cap:Nat)(w:aw)(h1:1<=cap)(h8:cap<=8):aF af 148 #[J V cap] w λe w'=>∃g pl,e=av (aB #[aq (Z ⟨g,0,I⟩),J V 0])/\km w' g pl cap []/\cS cr w w'/\w.heap.size<=g/\w.heap.size<=pl:=by
 obtain⟨i0,q,b,c,d⟩:=cY Bv;obtain⟨s,h,k,l⟩:=cA q b c d;clear q b c d;have C:¬(cap:Int)<1:=z;have D:¬(8:Int)<cap:=z;go_enter func148,ntmps148;go_wp2_with (at_make;go_loud (refine wpList_make_full _ rfl _ _ 307 rfl w.heap.size 227 i0 rZ 13 underlying307 s.O h.O k.O _ _ _ _ cap rfl rfl rfl rfl ?b2 ?b3 ?b4 ?_));case b2=>rw[l.O];omega
 case b3=>unfold maxLen;omega
 intro w1 rO g1;have t:∃cs,aK w1 w.heap.size 227 cs/\cs.size=cap*13:=by
  rcases rO.2 with⟨e,_⟩ | ⟨g,E,dx,e,_,hh,_,_,u,_⟩
  ·cases e
  ·simp only[Value.slice.injEq,bf,Addr.mk.injEq]at e;obtain⟨⟨rfl,_⟩,_,rfl⟩:=e;exact⟨dx,hh,z⟩
 have m:aC w w1:=(ao _ w).grown g1 (aj _) (λj y=>by cases y);clear rO g1;obtain⟨n,a,f⟩:=t;have r:=m.size;have lt:=a.lt;obtain⟨F,HS,A,B,o⟩:=gY lt f a m r;clear lt f a m r;go_wp2_with fail;refine ax (v:=aB #[aq (Z ⟨w1.heap.size,0,I⟩),J V 0]) (by simp[aV,results148,go_sem]) rfl ?_;refine⟨_,w.heap.size,rfl,⟨⟨0,n,0,0,0,0,z,aK.new w1 309 _,A.O.alloc _,HS.O,λi x p=>by simp at p⟩,dt,h1,h8,λx p=>by simp at p⟩,(cS.bn B.O).alloc _,o.O,aj _⟩
def JS{w:aw}{g pl cap:Nat}{q:List (List Value)}(h:km w g pl cap q):∃n5:Int,w.cell? ⟨g,5,I⟩=Z (J V n5)/\∀v,km (w.setCell ⟨g,5,I⟩ (J V v)) g pl cap q:=by
 obtain⟨first,jt,n4,n5,n6,n7,c,a,b,d,hR⟩:=h.ex;refine⟨n5,by rw[a.cell];rfl,λv=>⟨⟨first,jt,n4,v,n6,n7,c,?_,b.dS (p:=⟨g,5,I⟩) (λe=>aK.jf a b aR e.symm) _,d,hR⟩,h.le,h.one,h.aT,h.wf⟩⟩;have B:=a.bC 5 (J V v);simpa using B
def Mo(g pl cap:Nat)(o:Int)(r:Int)(s:Bool)(t:Bool)(u:Int)(x:Int)(y:Int)(A:Int)(B:Option Addr)(j k:Nat)(C:Bool)(l:Int)(m:Option Addr)(a b:Nat)(n:Option Addr)(c d:Nat)(q:List (List Value))(w:aw)(h:km w g pl cap ([J V o,J V r,ai s,ai t,J bI u,J aN x,J ar y,J ar A,ae B j k,ai C,J aN l,ae m a b,ae n c d]::q)) :
  aF af 188 #[aq (Z ⟨g,0,I⟩)] w λe w'=>e=av (aB #[(cg #[J V o,J V r,ai s,ai t,J bI u,J aN x,J ar y,J ar A,ae B j k,ai C,J aN l,ae m a b,ae n c d]),ai true])/\km w' g pl cap q/\cS (jK g pl) w w':=by
 obtain⟨first,jt,m4,m5,m6,m7,hf,M,S,hs,hR⟩:=h.ex;have lB:=M.lt;have lP:=S.lt;clear hf hs hR;go_enter func188,ntmps188;go_upto_region 1 with fail;obtain⟨r2,D⟩:=dH w.heap.size;rw[<-D];refine aW (λW=>aK W r2 227 #[J V 0,J V 0,ai false,ai false,J bI 0,J aN 0,J ar 0,J ar 0,ae I 0 0,ai false,J aN 0,ae I 0 0,ae I 0 0]/\km W g pl cap ([J V o,J V r,ai s,ai t,J bI u,J aN x,J ar y,J ar A,ae B j k,ai C,J aN l,ae m a b,ae n c d]::q)/\aK W g 309 _/\cS cr w W) ⟨aK.newAt _ _ _ _ D,h.alloc _,M.alloc _,(cS.refl _ w).alloc _⟩ ?_;rintro W ⟨b2,T,E,u1⟩;have d2:r2≠g:=z;have d3:r2≠pl:=z;have d4:w.heap.size<=r2:=z;clear D lB lP h M S;have c2:=E.cell 2;have f5:=E.frozen 5;simp at c2;have e0:((q.length:Int)+1==0)=false:=dZ;have e1:¬((q.length:Int)+1=0):=z;obtain⟨n5,c5,up⟩:=JS T;have U:=up (dB (n5+1));have F:=b2.dS (p:=⟨g,5,I⟩) d2 (J V (dB (n5+1)));have u2:=(u1.mono (G:=jK g pl) λi _ q=>q.elim).setCell (p:=⟨g,5,I⟩) (aJ (aJ rfl)) (J V (dB (n5+1)));have N:=au F;have P:=au u2;have Q:=au U;clear up F u2 U T b2 u1 E;go_wp2_with (first
  |(refine(xv g pl cap o r s t u x y A B j k C l m a b n c d q _ Q.O).mono ?_;rintro e w3 ⟨rfl,R3,u3⟩;have b3:=N.O.dW u3 (λq=>by rcases q with q|q;exact d2 q;exact d3 q))
  |(refine jb _ rfl (.tmp 2) (.tmp 21) 227 rfl r2 0 227 #[J V 0,J V 0,ai false,ai false,J bI 0,J aN 0,J ar 0,J ar 0,ae I 0 0,ai false,J aN 0,ae I 0 0,ae I 0 0] rfl #[J V o,J V r,ai s,ai t,J bI u,J aN x,J ar y,J ar A,ae B j k,ai C,J aN l,ae m a b,ae n c d] rfl pG b3 (aj _) tk ?_;intro w6 f v6))
 have R:de #[J V 0,J V 0,ai false,ai false,J bI 0,J aN 0,J ar 0,J ar 0,ae I 0 0,ai false,J aN 0,ae I 0 0,ae I 0 0] 0 (#[J V o,J V r,ai s,ai t,J bI u,J aN x,J ar y,J ar A,ae B j k,ai C,J aN l,ae m a b,ae n c d]:Array Value).toList=#[J V o,J V r,ai s,ai t,J bI u,J aN x,J ar y,J ar A,ae B j k,ai C,J aN l,ae m a b,ae n c d]:=rfl;rw[R]at f;have X:=f.cell 0;have Y:=f.cell 1;have x2:=f.cell 2;have x3:=f.cell 3;have x4:=f.cell 4;have x5:=f.cell 5;have x6:=f.cell 6;have x7:=f.cell 7;have x8:=f.cell 8;have x9:=f.cell 9;have H:=f.cell 10;have K:=f.cell 11;have L:=f.cell 12;simp at X Y x2 x3 x4 x5 x6 x7 x8 x9 H K L;have h6:=R3.dW v6 (λe=>d2 e.symm) (λe=>d3 e.symm);have u6:=(P.O.trans u3).step v6 (λi hi=>aZ (by rw[show i=r2 from hi];exact d4));refine ax (v:=aB #[(cg #[J V o,J V r,ai s,ai t,J bI u,J aN x,J ar y,J ar A,ae B j k,ai C,J aN l,ae m a b,ae n c d]),ai true]) (by simp[aV,results188,go_sem,X,Y,x2,x3,x4,x5,x6,x7,x8,x9,H,K,L]) rfl ⟨rfl,h6,u6⟩
def Bx(x:List Value):Prop:=∃  (j:Int) (k:Int) (l:Bool) (m:Bool) (n:Int) (o:Int) (p:Int) (q:Int) (r:Option Addr) (e f:Nat) (s:Bool) (g:Int) (h:Option Addr) (a b:Nat) (i:Option Addr) (c d:Nat),x=[J V j,J V k,ai l,ai m,J bI n,J aN o,J ar p,J ar q,ae r e f,ai s,J aN g,ae h a b,ae i c d]
def Gy(g pl cap:Nat)(q:List (List Value))(w:aw)(h:km w g pl cap q)(T:∀x∈q,Bx x) :
  aF af 170 #[aq (Z ⟨g,0,I⟩)] w λe w'=>∃v,e=av v/\w'.ownsRow w.heap.size 227 13 v q.length q.flatten/\km w' g pl cap []/\cS (jK g pl) w w':=by
 obtain⟨i0,Q,U,W,X⟩:=cY Bv;obtain⟨HI,aI,df,eI⟩:=cA Q U W X;clear Q U W X;obtain⟨first,jt,m4,m5,m6,m7,hf,L,S,hs,hR⟩:=h.ex;have lB:=L.lt;have lP:=S.lt;have le:=h.le;have aT:=h.aT;have c2:=L.cell 2;simp at c2;obtain⟨gX,HQ⟩:=bu T h;clear hf hs hR L S T h;have u0:=cS.refl (jK g pl) w;have M:w.ownsRow w.heap.size 227 13 (ae I 0 0) 0 []:=⟨dt,aJ ⟨rfl,rfl⟩⟩;go_enter func170,ntmps170;go_wp2_with fail;clear c2;go_loopw [3,8] (λv i wr=>∃j:Nat,i=J V j/\j<=q.length/\wr.ownsRow w.heap.size 227 13 v j (q.take j).flatten/\km wr g pl cap (q.drop j)/\cS (jK g pl) w wr) (λv i _=>q.length-(intOf i).toNat);case atStart=>exact⟨0,rfl,z,M,HQ.O,u0⟩
 case round =>
  clear M u0;obtain⟨j,rfl,hj,own,R,u⟩:=hrel;have su:=u.size;by_cases P:j<q.length
  ·obtain⟨x,K⟩:∃x,q[j]? = Z x:=⟨_,ay P⟩;have hd:q.drop j=x::q.drop (j+1):=by
    rw[List.drop_eq_getElem_cons P];rw[ay P]at K;simp only[bf]at K;rw[K]
   have ht:(q.take (j+1)).flatten=(q.take j).flatten++x:=by rw[List.take_add_one,K];simp
   obtain⟨r,s,t,y,B,C,D,E,G,k,l,H,m,n,a,b,o,d,f,rfl⟩:=gX.O x (List.mem_of_getElem? K);rw[hd]at R;obtain⟨A,c,rfl⟩:=bA own;have HT:=au ht;have Y:=au own;have HU:=au u;have HR:=au R;clear ht hd K own u R;have SJ:((j:Int)<(q.length:Int)):=z;go_wp2_with (first
    |(refine(xv g pl cap r s t y B C D E G k l H m n a b o d f (q.drop (j+1)) wr HR.O).mono ?_;rintro e w3 ⟨rfl,R3,u3⟩;have o3:=du Y.O u3 (λi Q q=>by have:=(Y.O.lt i Q).1;rcases q with q|q<;>omega))
    |(at_builtin;go_loud (refine wpList_append_own _ rfl _ _ 307 rfl w.heap.size 227 i0 rZ 13 120 underlying307 HI.O aI.O df.O eI.O rfl aR _ _ _ rfl (o3.alloc _) ⟨w3.heap.size,0,I⟩ 1 1 [J V r,J V s,ai t,ai y,J bI B,J aN C,J ar D,J ar E,ae G k l,ai H,J aN m,ae n a b,ae o d f] rfl rfl ?c1 ?c2 ?c3 ?c4 ?c5 ?_)))
   case c1=>exact fB w3 227 #[J V r,J V s,ai t,ai y,J bI B,J aN C,J ar D,J ar E,ae G k l,ai H,J aN m,ae n a b,ae o d f]
   case c2=>exact by intro u hu;simp at hu;repeat (first|(subst hu;rfl)|(rcases hu with rfl|hu;rfl))
   case c3=>unfold maxLen;omega
   case c4=>omega
   case c5=>have:=u3.size;simp;omega
   intro v5 w5 N g5 _;have u5:=eT g5;have R5:=(R3.alloc (.cells #[J V r,J V s,ai t,ai y,J bI B,J aN C,J ar D,J ar E,ae G k l,ai H,J aN m,ae n a b,ae o d f] 227)).dW u5 (λq=>by have:=((o3.alloc (.cells #[J V r,J V s,ai t,ai y,J bI B,J aN C,J ar D,J ar E,ae G k l,ai H,J aN m,ae n a b,ae o d f] 227)).lt g q).1;omega) (λq=>by have:=((o3.alloc (.cells #[J V r,J V s,ai t,ai y,J bI B,J aN C,J ar D,J ar E,ae G k l,ai H,J aN m,ae n a b,ae o d f] 227)).lt pl q).1;omega);have uu:=((HU.O.trans u3).alloc (.cells #[J V r,J V s,ai t,ai y,J bI B,J aN C,J ar D,J ar E,ae G k l,ai H,J aN m,ae n a b,ae o d f] 227)).step u5 (λi q=>aZ ((o3.alloc (.cells #[J V r,J V s,ai t,ai y,J bI B,J aN C,J ar D,J ar E,ae G k l,ai H,J aN m,ae n a b,ae o d f] 227)).lt i q).1);obtain⟨mK,SG,SH⟩:=bU R5 uu N;clear R5 uu N g5 u5 R3 u3 o3;go_wp2_with fail;go_roundw;case rel=>exact⟨j+1,by go_num,z,by rw[HT.O];exact SH.O,mK.O,SG.O⟩
   case measure=>simp[intOf];omega
  ·have SI:j=q.length:=z;subst SI;rw[List.drop_length]at R;rw[List.take_length]at own;obtain⟨A,c,rfl⟩:=bA own;obtain⟨first,jt,n4,n5,n6,n7,hf,L,S,hs,hR⟩:=R.ex;have d2:g≠pl:=aK.jf L S aR;have c7:=L.cell 7;have f7:=L.frozen 7;simp at c7;obtain⟨Y,HU,HB,HP,HS⟩:=gY own u L S hs;clear own u L S hs hR R;go_wp2_with fail;go_ret;have BB:=HB.O.bC 7 (J V (dB (n7+q.length)));refine⟨_,rfl,du Y.O (cS.setCell (F:=One g) (p:=⟨g,7,I⟩) (cS.refl _ _) (aJ rfl) _) (λi Q e=>by have:=(Y.O.lt i Q).1;rw[show i=g from e]at this;omega),⟨⟨first,jt,n4,n5,n6,dB (n7+q.length),hf,by simpa using BB,HP.O.dS (p:=⟨g,7,I⟩) (λe=>d2 e.symm) _,HS.O,λi x K=>by simp at K⟩,dt,HQ.O.one,aT,λx K=>by simp at K⟩,HU.O.setCell (p:=⟨g,7,I⟩) (aJ (aJ rfl)) _⟩
abbrev mn:Value:=(cg #[J V 0,J V 0,ai false,ai false,J bI 0,J aN 0,J ar 0,J ar 0,ae I 0 0,ai false,J aN 0,ae I 0 0,ae I 0 0,ai false]:Value)
def EL(w:aw):(zeroValue 229).run af w=.ok mn w:=cC
abbrev iA:=RingM 312 229 14
def GX:∀v∈mn.cells.toList,v.oneCell'=true:=by
 intro u hu;simp[gW]at hu;repeat (first|(subst hu;rfl)|(rcases hu with rfl|hu;rfl))
def tj:(af.info? 229).map (·.size)=Z 14:=cC
def EM:mn.cells.size=14:=rfl
def zV(g pl cap:Nat)(q:List (List Value))(w:aw)(h:iA w g pl cap q):aF af 95 #[aq (Z ⟨g,0,I⟩)] w λe w'=>e=av (J V q.length)/\w'=w:=by
 obtain⟨first,jt,n4,n5,n6,n7,b,a,c,d,hR⟩:=h.ex;have c2:=a.cell 2;simp at c2;clear hR h;go_enter func95,ntmps95;go_wp2_with fail;go_ret;exact⟨rfl,rfl⟩
def yu(g pl cap:Nat)(q:List (List Value))(w:aw)(h:iA w g pl cap q):aF af 163 #[aq (Z ⟨g,0,I⟩)] w λe w'=>e=av (ai (decide (q.length=cap)))/\w'=w.drew:=by
 obtain⟨first,jt,n4,n5,n6,n7,j,c,k,l,hR⟩:=h.ex;have c2:=c.cell 2;have f:=c.cell 0;simp at c2 f;clear hR h;by_cases d:q.length=cap
 ·have a:decide (q.length=cap)=true:=by simp[d]
  have b:=au a;clear a;have i:((q.length:Int)==(cap:Int))=true:=dZ;go_enter func163,ntmps163;go_wp2_with fail;go_region;go_wp2_with fail;go_ret;exact⟨by rw[b.O];try rfl,rfl⟩
 ·have a:decide (q.length=cap)=false:=by simp[d]
  have b:=au a;clear a;have i:((q.length:Int)==(cap:Int))=false:=dZ;go_enter func163,ntmps163;go_wp2_with fail;go_region;go_wp2_with fail;go_ret;exact⟨by rw[b.O];try rfl,rfl⟩
def yr(g pl cap:Nat)(a0:Int)(a1:Int)(b2:Bool)(b3:Bool)(a4:Int)(a5:Int)(H:Int)(K:Int)(L:Option Addr)(t u:Nat)(M:Bool)(y:Int)(A:Option Addr)(f l:Nat)(B:Option Addr)(m n:Nat)(C:Bool)(q:List (List Value))(w:aw)(h:iA w g pl cap ([J V a0,J V a1,ai b2,ai b3,J bI a4,J aN a5,J ar H,J ar K,ae L t u,ai M,J aN y,ae A f l,ae B m n,ai C]::q)) :
  aF af 224 #[aq (Z ⟨g,0,I⟩)] w λe w'=>e=av (cg #[J V a0,J V a1,ai b2,ai b3,J bI a4,J aN a5,J ar H,J ar K,ae L t u,ai M,J aN y,ae A f l,ae B m n,ai C])/\iA w' g pl cap q/\cS (jK g pl) w w':=by
 obtain⟨first,jt,n4,n5,n6,n7,hf,G,s,hs,hR⟩:=h.ex;have le:=h.le;have one:=h.one;have aT:=h.aT;have Tl:=au h.wf;simp only[ft]at le;have c:=hR 0 [J V a0,J V a1,ai b2,ai b3,J bI a4,J aN a5,J ar H,J ar K,ae L t u,ai M,J aN y,ae A f l,ae B m n,ai C] rfl;rw[iw,fZ hf]at c;have p0:w.cell? ⟨pl,first*14,I⟩=Z (J V a0):=by have:=(s.cell (first*14+0)).trans (c 0 z);simpa using this
 have p1:w.cell? ⟨pl,first*14+1,I⟩=Z (J V a1):=by have:=(s.cell (first*14+1)).trans (c 1 z);simpa using this
 have p2:w.cell? ⟨pl,first*14+2,I⟩=Z (ai b2):=by have:=(s.cell (first*14+2)).trans (c 2 z);simpa using this
 have p3:w.cell? ⟨pl,first*14+3,I⟩=Z (ai b3):=by have:=(s.cell (first*14+3)).trans (c 3 z);simpa using this
 have p4:w.cell? ⟨pl,first*14+4,I⟩=Z (J bI a4):=by have:=(s.cell (first*14+4)).trans (c 4 z);simpa using this
 have p5:w.cell? ⟨pl,first*14+5,I⟩=Z (J aN a5):=by have:=(s.cell (first*14+5)).trans (c 5 z);simpa using this
 have p6:w.cell? ⟨pl,first*14+6,I⟩=Z (J ar H):=by have:=(s.cell (first*14+6)).trans (c 6 z);simpa using this
 have p7:w.cell? ⟨pl,first*14+7,I⟩=Z (J ar K):=by have:=(s.cell (first*14+7)).trans (c 7 z);simpa using this
 have p8:w.cell? ⟨pl,first*14+8,I⟩=Z (ae L t u):=by have:=(s.cell (first*14+8)).trans (c 8 z);simpa using this
 have p9:w.cell? ⟨pl,first*14+9,I⟩=Z (ai M):=by have:=(s.cell (first*14+9)).trans (c 9 z);simpa using this
 have N:w.cell? ⟨pl,first*14+10,I⟩=Z (J aN y):=by have:=(s.cell (first*14+10)).trans (c 10 z);simpa using this
 have P:w.cell? ⟨pl,first*14+11,I⟩=Z (ae A f l):=by have:=(s.cell (first*14+11)).trans (c 11 z);simpa using this
 have Q:w.cell? ⟨pl,first*14+12,I⟩=Z (ae B m n):=by have:=(s.cell (first*14+12)).trans (c 12 z);simpa using this
 have R:w.cell? ⟨pl,first*14+13,I⟩=Z (ai C):=by have:=(s.cell (first*14+13)).trans (c 13 z);simpa using this
 have c0:=G.cell 0;have c1:=G.cell 1;have f0:=G.frozen 0;have f1:=G.frozen 1;simp at c0 c1;have E:=G.drew;have d:=s.drew;have w1:V.wrap ((first:Int)+1)=(first:Int)+1:=cz _ ⟨z,z⟩;have q1:(first:Int)+1<=cap:=z;have q2:0<=(first:Int)+1:=z;have q3:¬cap=first:=z
 have Tm:=ll (k:=14) hf;have SK:first*14+mn.cells.size<=jt.size:=by rw[EM];omega
 have mK:=hR.take hf z hs (zs:=mn.cells.toList) rfl;have SL:(de jt (first*14) mn.cells.toList).size=cap*14:=by rw[gU (by simpa using SK),hs]
 obtain⟨b,S⟩:=dH ((first+1) % cap);have Tq:((first:Int)+1) % (cap:Int)=(b:Int):=by rw[S];simp
 have SM:b<cap:=by rw[S];exact kp _ z
 rw[<-S]at mK;obtain⟨HR,HS,Tr,r⟩:=cA mK SL h c;clear hR mK hs SL S h c Tm;clear c0 c1 f0 f1 p0 p1 p2 p3 p4 p5 p6 p7 p8 p9 N P Q R E d;go_enter func224,ntmps224;go_wp2_with fail;obtain⟨r0,T⟩:=dH w.heap.size;refine aW (λW=>aK W r0 229 #[J V 0,J V 0,ai false,ai false,J bI 0,J aN 0,J ar 0,J ar 0,ae I 0 0,ai false,J aN 0,ae I 0 0,ae I 0 0,ai false]/\aK W g 312 _/\aK W pl 229 jt/\cS cr w W) ⟨by rw[T];exact aK.new w 229 #[J V 0,J V 0,ai false,ai false,J bI 0,J aN 0,J ar 0,J ar 0,ae I 0 0,ai false,J aN 0,ae I 0 0,ae I 0 0,ai false],G.alloc _,s.alloc _,(cS.refl _ w).alloc _⟩ ?_;rintro W ⟨SG,F,a,u1⟩;rw[<-T];have d0:r0≠pl:=by rw[T];exact(Nat.ne_of_lt s.lt).symm
 have b0:w.heap.size<=r0:=z;have Ts:=a.lt;have Tn:=au b0;clear T b0;have c0:=F.cell 0;have c1:=F.cell 1;have SN:=(F.alloc (.cells #[J V 0,J V 0,ai false,ai false,J bI 0,J aN 0,J ar 0,J ar 0,ae I 0 0,ai false,J aN 0,ae I 0 0,ae I 0 0,ai false] 229)).cell 0;have SO:=(F.alloc (.cells #[J V 0,J V 0,ai false,ai false,J bI 0,J aN 0,J ar 0,J ar 0,ae I 0 0,ai false,J aN 0,ae I 0 0,ae I 0 0,ai false] 229)).cell 1;simp at c0 c1 SN SO;have p0:=(a.cell (first*14+0)).trans (r.O 0 z);have SP:=((a.alloc (.cells #[J V 0,J V 0,ai false,ai false,J bI 0,J aN 0,J ar 0,J ar 0,ae I 0 0,ai false,J aN 0,ae I 0 0,ae I 0 0,ai false] 229)).cell (first*14+0)).trans (r.O 0 z);have p1:=(a.cell (first*14+1)).trans (r.O 1 z);have SQ:=((a.alloc (.cells #[J V 0,J V 0,ai false,ai false,J bI 0,J aN 0,J ar 0,J ar 0,ae I 0 0,ai false,J aN 0,ae I 0 0,ae I 0 0,ai false] 229)).cell (first*14+1)).trans (r.O 1 z);have p2:=(a.cell (first*14+2)).trans (r.O 2 z);have SU:=((a.alloc (.cells #[J V 0,J V 0,ai false,ai false,J bI 0,J aN 0,J ar 0,J ar 0,ae I 0 0,ai false,J aN 0,ae I 0 0,ae I 0 0,ai false] 229)).cell (first*14+2)).trans (r.O 2 z);have p3:=(a.cell (first*14+3)).trans (r.O 3 z);have SV:=((a.alloc (.cells #[J V 0,J V 0,ai false,ai false,J bI 0,J aN 0,J ar 0,J ar 0,ae I 0 0,ai false,J aN 0,ae I 0 0,ae I 0 0,ai false] 229)).cell (first*14+3)).trans (r.O 3 z);have p4:=(a.cell (first*14+4)).trans (r.O 4 z);have SW:=((a.alloc (.cells #[J V 0,J V 0,ai false,ai false,J bI 0,J aN 0,J ar 0,J ar 0,ae I 0 0,ai false,J aN 0,ae I 0 0,ae I 0 0,ai false] 229)).cell (first*14+4)).trans (r.O 4 z);have p5:=(a.cell (first*14+5)).trans (r.O 5 z);have SX:=((a.alloc (.cells #[J V 0,J V 0,ai false,ai false,J bI 0,J aN 0,J ar 0,J ar 0,ae I 0 0,ai false,J aN 0,ae I 0 0,ae I 0 0,ai false] 229)).cell (first*14+5)).trans (r.O 5 z);have p6:=(a.cell (first*14+6)).trans (r.O 6 z);have SY:=((a.alloc (.cells #[J V 0,J V 0,ai false,ai false,J bI 0,J aN 0,J ar 0,J ar 0,ae I 0 0,ai false,J aN 0,ae I 0 0,ae I 0 0,ai false] 229)).cell (first*14+6)).trans (r.O 6 z);have p7:=(a.cell (first*14+7)).trans (r.O 7 z);have SZ:=((a.alloc (.cells #[J V 0,J V 0,ai false,ai false,J bI 0,J aN 0,J ar 0,J ar 0,ae I 0 0,ai false,J aN 0,ae I 0 0,ae I 0 0,ai false] 229)).cell (first*14+7)).trans (r.O 7 z);have p8:=(a.cell (first*14+8)).trans (r.O 8 z);have Ta:=((a.alloc (.cells #[J V 0,J V 0,ai false,ai false,J bI 0,J aN 0,J ar 0,J ar 0,ae I 0 0,ai false,J aN 0,ae I 0 0,ae I 0 0,ai false] 229)).cell (first*14+8)).trans (r.O 8 z);have p9:=(a.cell (first*14+9)).trans (r.O 9 z);have Tb:=((a.alloc (.cells #[J V 0,J V 0,ai false,ai false,J bI 0,J aN 0,J ar 0,J ar 0,ae I 0 0,ai false,J aN 0,ae I 0 0,ae I 0 0,ai false] 229)).cell (first*14+9)).trans (r.O 9 z);have N:=(a.cell (first*14+10)).trans (r.O 10 z);have aI:=((a.alloc (.cells #[J V 0,J V 0,ai false,ai false,J bI 0,J aN 0,J ar 0,J ar 0,ae I 0 0,ai false,J aN 0,ae I 0 0,ae I 0 0,ai false] 229)).cell (first*14+10)).trans (r.O 10 z);have P:=(a.cell (first*14+11)).trans (r.O 11 z);have df:=((a.alloc (.cells #[J V 0,J V 0,ai false,ai false,J bI 0,J aN 0,J ar 0,J ar 0,ae I 0 0,ai false,J aN 0,ae I 0 0,ae I 0 0,ai false] 229)).cell (first*14+11)).trans (r.O 11 z);have Q:=(a.cell (first*14+12)).trans (r.O 12 z);have eI:=((a.alloc (.cells #[J V 0,J V 0,ai false,ai false,J bI 0,J aN 0,J ar 0,J ar 0,ae I 0 0,ai false,J aN 0,ae I 0 0,ae I 0 0,ai false] 229)).cell (first*14+12)).trans (r.O 12 z);have R:=(a.cell (first*14+13)).trans (r.O 13 z);have gX:=((a.alloc (.cells #[J V 0,J V 0,ai false,ai false,J bI 0,J aN 0,J ar 0,J ar 0,ae I 0 0,ai false,J aN 0,ae I 0 0,ae I 0 0,ai false] 229)).cell (first*14+13)).trans (r.O 13 z);simp at p0 SP p1 SQ p2 SU p3 SV p4 SW p5 SX p6 SY p7 SZ p8 Ta p9 Tb N aI P df Q eI R gX;go_region;obtain⟨r1,SH⟩:=dH W.heap.size;rw[<-SH];refine gN (λX=>aK X r0 229 #[J V 0,J V 0,ai false,ai false,J bI 0,J aN 0,J ar 0,J ar 0,ae I 0 0,ai false,J aN 0,ae I 0 0,ae I 0 0,ai false]/\aK X r1 229 #[J V a0,J V a1,ai b2,ai b3,J bI a4,J aN a5,J ar H,J ar K,ae L t u,ai M,J aN y,ae A f l,ae B m n,ai C]/\aK X g 312 _/\aK X pl 229 jt/\cS cr w X) ⟨(SG.alloc _).drew,by rw[SH];exact(aK.new W 229 _).drew,(F.alloc _).drew,(a.alloc _).drew,(u1.alloc _).drew⟩ ?_;rintro X ⟨U,Y,E,d,u2⟩;have n1:=SG.lt;have d1:r1≠pl:=z;clear SH;clear SG F a u1 p0 SP p1 SQ p2 SU p3 SV p4 SW p5 SX p6 SY p7 SZ p8 Ta p9 Tb N aI P df Q eI R gX c0 c1 SN SO;have c0:=E.cell 0;have c1:=E.cell 1;simp at c0 c1;go_wp2_with fail;have Tp:∀ty,(Builtin.clear_ #[310] ty #[ae (Z ⟨pl,(first*14),I⟩) 1 (cap-first)]).run af X.drew=.ok (aB #[]) (X.drew.setRow pl (de jt (first*14) mn.cells.toList)):=λty=>nf _ 310 229 ty mn underlying310 EL pl (first*14) (cap-first) 229 jt (by first|exact d.drew|exact d) SK GX;go_region;refine gN (λw2=>aK w2 pl 229 (de jt (first*14) mn.cells.toList)/\aK w2 g 312 _/\aK w2 r0 229 _/\aK w2 r1 229 _/\cS (jK g pl) w w2) ⟨by first|exact gm d.drew|exact gm d|exact(gm d).drew,by first|exact eB E.drew d.drew (aK.jf G s aR)|exact eB E d (aK.jf G s aR)|exact(eB E d (aK.jf G s aR)).drew,by first|exact eB U.drew d.drew d0|exact eB U d d0|exact(eB U d d0).drew,by first|exact eB Y.drew d.drew d1|exact eB Y d d1|exact(eB Y d d1).drew,by first|exact((u2.mono λi _ q=>q.elim).drew).step (fW _ _ _) (λi hi=>aJ (aZ hi))|exact((u2.mono λi _ q=>q.elim)).step (fW _ _ _) (λi hi=>aJ (aZ hi))|exact(((u2.mono λi _ q=>q.elim)).step (fW _ _ _) (λi hi=>aJ (aZ hi))).drew⟩ ?_;rintro w2 ⟨Tc,D,SI,SJ,u3⟩;have e0:=D.cell 0;have e1:=D.cell 1;have e2:=D.cell 2;have f0:=D.frozen 0;have f1:=D.frozen 1;have f2:=D.frozen 2;simp at e0 e1 e2;all_goals
  have ng:r0≠g:=aK.jf SI D aR;have nq:r1≠g:=aK.jf SJ D aR;have h5:iA ((w2.setCell ⟨g,1,I⟩ (J V b)).setCell ⟨g,2,I⟩ (J V q.length)) g pl cap q:=by
   refine⟨⟨b,_,n4,n5,n6,n7,SM,?_,(Tc.dS (p:=⟨g,1,I⟩) (λe=>aK.jf G s aR e.symm) _).dS (p:=⟨g,2,I⟩) (λe=>aK.jf G s aR e.symm) _,HS.O,HR.O⟩,z,one,aT,λx hx=>Tl.O x (by simp[hx])⟩;have B5:=(D.bC 1 (J V b)).bC 2 (J V q.length);simpa using B5
  have u5:=(u3.setCell (p:=⟨g,1,I⟩) (aJ (aJ rfl)) (J V b)).setCell (p:=⟨g,2,I⟩) (aJ (aJ rfl)) (J V q.length);have Td:=(SI.dS (p:=⟨g,1,I⟩) ng (J V b)).dS (p:=⟨g,2,I⟩) ng (J V q.length);have Te:=(SJ.dS (p:=⟨g,1,I⟩) nq (J V b)).dS (p:=⟨g,2,I⟩) nq (J V q.length);have HY:=au h5;have HU:=au u5;have Tf:=au Td;have Tg:=au Te;clear U Y E d u2 c0 c1 SI SJ u3 Tc D h5 u5 Td Te;go_wp2_with fail;go_region;go_wp2_with (first
   |(refine lI _ rfl (.tmp 3) 229 rfl r1 0 229 _ rfl #[J V a0,J V a1,ai b2,ai b3,J bI a4,J aN a5,J ar H,J ar K,ae L t u,ai M,J aN y,ae A f l,ae B m n,ai C] _ underlying229 tj (by first|exact Tg.O.drew|exact Tg.O) (λj _=>by rw[cO]) ?_)
   |(refine jb _ rfl (.tmp 2) (.tmp 49) 229 rfl r0 0 229 _ rfl #[J V a0,J V a1,ai b2,ai b3,J bI a4,J aN a5,J ar H,J ar K,ae L t u,ai M,J aN y,ae A f l,ae B m n,ai C] rfl tj (by first|exact Tf.O.drew|exact Tf.O) (aj _) tk ?_;intro w6 o v6))
  have To:de #[J V 0,J V 0,ai false,ai false,J bI 0,J aN 0,J ar 0,J ar 0,ae I 0 0,ai false,J aN 0,ae I 0 0,ae I 0 0,ai false] 0 (#[J V a0,J V a1,ai b2,ai b3,J bI a4,J aN a5,J ar H,J ar K,ae L t u,ai M,J aN y,ae A f l,ae B m n,ai C]:Array Value).toList=#[J V a0,J V a1,ai b2,ai b3,J bI a4,J aN a5,J ar H,J ar K,ae L t u,ai M,J aN y,ae A f l,ae B m n,ai C]:=rfl;rw[To]at o;have x0:=o.cell 0;have x1:=o.cell 1;have x2:=o.cell 2;have x3:=o.cell 3;have x4:=o.cell 4;have x5:=o.cell 5;have x6:=o.cell 6;have x7:=o.cell 7;have x8:=o.cell 8;have x9:=o.cell 9;have Th:=o.cell 10;have Ti:=o.cell 11;have Tj:=o.cell 12;have Tk:=o.cell 13;simp at x0 x1 x2 x3 x4 x5 x6 x7 x8 x9 Th Ti Tj Tk;have h6:iA w6 g pl cap q:=(by first|exact HY.O.drew|exact HY.O:iA _ g pl cap q).dW v6 (λe=>ng e.symm) (λe=>d0 e.symm);have u6:cS (jK g pl) w w6:=(by first|exact HU.O.drew|exact HU.O:cS (jK g pl) w _).step v6 (λi hi=>aZ (by rw[show i=r0 from hi];exact Tn.O));refine ax (v:=(cg #[J V a0,J V a1,ai b2,ai b3,J bI a4,J aN a5,J ar H,J ar K,ae L t u,ai M,J aN y,ae A f l,ae B m n,ai C])) (by simp[aV,results224,go_sem,x0,x1,x2,x3,x4,x5,x6,x7,x8,x9,Th,Ti,Tj,Tk]) rfl ⟨rfl,h6,u6⟩
def zJ(g pl cap:Nat)(a0:Int)(a1:Int)(b2:Bool)(b3:Bool)(a4:Int)(a5:Int)(F:Int)(G:Int)(H:Option Addr)(o r:Nat)(K:Bool)(s:Int)(t:Option Addr)(f l:Nat)(y:Option Addr)(m n:Nat)(q:List (List Value))(w:aw)(h:km w g pl cap q)(hq:q.length<cap) :
  aF af 187 #[aq (Z ⟨g,0,I⟩),(cg #[J V a0,J V a1,ai b2,ai b3,J bI a4,J aN a5,J ar F,J ar G,ae H o r,ai K,J aN s,ae t f l,ae y m n])] w λe w'=>e=av (aB #[rZ,ai false,J V 0])/\km w' g pl cap (q++[[J V a0,J V a1,ai b2,ai b3,J bI a4,J aN a5,J ar F,J ar G,ae H o r,ai K,J aN s,ae t f l,ae y m n]])/\cS (jK g pl) w w':=by
 obtain⟨first,jt,n4,n5,n6,n7,hf,hB,hP,hs,hR⟩:=h.ex;have le:=h.le;have one:=h.one;have aT:=h.aT;have S:=h.wf;have E:decide (q.length=cap)=false:=dZ;have T:=au E;clear E;have w1:V.wrap ((first:Int)+(q.length:Int))=(first:Int)+(q.length:Int):=cz _ ⟨z,z⟩;have w2:V.wrap ((q.length:Int)+1)=(q.length:Int)+1:=cz _ ⟨z,z⟩;obtain⟨p,hp⟩:=dH ((first+q.length) % cap);have SO:((first:Int)+(q.length:Int)) % (cap:Int)=(p:Int):=by rw[hp];simp
 have SJ:p<cap:=by rw[hp];exact kp _ z
 have SN:(p:Int)<(cap:Int):=z;have SK:=ll (k:=13) SJ;have L:=hR.push (x:=[J V a0,J V a1,ai b2,ai b3,J bI a4,J aN a5,J ar F,J ar G,ae H o r,ai K,J aN s,ae t f l,ae y m n]) hf hq hs rfl;rw[<-hp]at L;have U:∀x∈q++[([J V a0,J V a1,ai b2,ai b3,J bI a4,J aN a5,J ar F,J ar G,ae H o r,ai K,J aN s,ae t f l,ae y m n]:List Value)],x.length=13/\∀u∈x,u.oneCell'=true:=by
  intro x R;rcases bt.1 R with R|R
  ·exact S x R
  ·simp at R;subst R;exact⟨rfl,by intro u hu;simp at hu;repeat (first|(subst hu;rfl)|(rcases hu with rfl|hu;rfl))⟩
 have aI:p*13+13<=jt.size:=z;obtain⟨SL,HS,HR,c⟩:=cA U hs L aI;clear U hs hR L hp SK aI S;have FF:∀i,cr i->jK g pl i:=λi q=>q.elim;go_enter func187,ntmps187;go_upto_region 2 with fail;obtain⟨r3,M⟩:=dH w.heap.size;obtain⟨r4,N⟩:=dH (w.heap.size+1);obtain⟨r7,P⟩:=dH (w.heap.size+1+1);rw[<-P,<-N,<-M];refine aW (λW=>aK W r3 227 #[J V a0,J V a1,ai b2,ai b3,J bI a4,J aN a5,J ar F,J ar G,ae H o r,ai K,J aN s,ae t f l,ae y m n]/\aK W r4 227 #[J V 0,J V 0,ai false,ai false,J bI 0,J aN 0,J ar 0,J ar 0,ae I 0 0,ai false,J aN 0,ae I 0 0,ae I 0 0]/\aK W r7 227 #[J V 0,J V 0,ai false,ai false,J bI 0,J aN 0,J ar 0,J ar 0,ae I 0 0,ai false,J aN 0,ae I 0 0,ae I 0 0]/\km W g pl cap q/\aK W g 309 _/\aK W pl 227 jt/\cS cr w W)
  ⟨((aK.newAt _ _ _ _ M).alloc _).alloc _,(aK.newAt _ _ _ _ (by rw[N];simp)).alloc _,aK.newAt _ _ _ _ (by rw[P];simp),((h.alloc _).alloc _).alloc _,((hB.alloc _).alloc _).alloc _,((hP.alloc _).alloc _).alloc _,(((cS.refl _ w).alloc _).alloc _).alloc _⟩ ?_
 rintro W ⟨b3,b4,b7,R1,Q,df,u1⟩;have lB:=hB.lt;have lP:=hP.lt;have d1:r3≠pl/\r4≠pl/\r7≠pl/\r3≠g/\r4≠g/\r7≠g/\w.heap.size<=r4:=z;have d2:g≠pl:=aK.jf hB hP aR;have HD:=au d1;clear M N P d1 lB lP h hB hP;have c3:=Q.cell 3;simp at c3;go_upto_region 8 with(refine(Bw g pl cap q W R1).mono ?_;rintro e w2 ⟨rfl,hv⟩;rw[T.O];subst hv)
 obtain⟨C,a,A,H4,H7,HU⟩:=lH Q.drew df.drew b3.drew b4.drew b7.drew u1.drew;clear R1 Q df b3 b4 b7 u1 c3;generalize W.drew=X at C a A H4 H7 HU ⊢;have c0:=C.O.cell 0;have c1:=C.O.cell 1;have c2:=C.O.cell 2;have f0:=a.O.frozen (p*13);have f1:=a.O.frozen (p*13+1);have f2:=a.O.frozen (p*13+2);have f3:=a.O.frozen (p*13+3);have f4:=a.O.frozen (p*13+4);have f5:=a.O.frozen (p*13+5);have f6:=a.O.frozen (p*13+6);have f7:=a.O.frozen (p*13+7);have f8:=a.O.frozen (p*13+8);have f9:=a.O.frozen (p*13+9);have f10:=a.O.frozen (p*13+10);have f11:=a.O.frozen (p*13+11);have f12:=a.O.frozen (p*13+12);obtain⟨v0,v1,v2,v3,v4,v5,v6,v7,v8,v9,v10,v11,v12,e0,e1,e2,e3,e4,e5,e6,e7,e8,e9,SP,SQ,SU⟩:∃v0 v1 v2 v3 v4 v5 v6 v7 v8 v9 v10 v11 v12,X.cell? ⟨pl,p*13,I⟩=Z v0/\X.cell? ⟨pl,p*13+1,I⟩=Z v1/\X.cell? ⟨pl,p*13+2,I⟩=Z v2/\X.cell? ⟨pl,p*13+3,I⟩=Z v3/\X.cell? ⟨pl,p*13+4,I⟩=Z v4/\X.cell? ⟨pl,p*13+5,I⟩=Z v5/\X.cell? ⟨pl,p*13+6,I⟩=Z v6/\X.cell? ⟨pl,p*13+7,I⟩=Z v7/\X.cell? ⟨pl,p*13+8,I⟩=Z v8/\X.cell? ⟨pl,p*13+9,I⟩=Z v9/\X.cell? ⟨pl,p*13+10,I⟩=Z v10/\X.cell? ⟨pl,p*13+11,I⟩=Z v11/\X.cell? ⟨pl,p*13+12,I⟩=Z v12:=⟨_,_,_,_,_,_,_,_,_,_,_,_,_,(a.O.cell _).trans (aE (lE c.O)),(a.O.cell _).trans (aE (lE c.O)),(a.O.cell _).trans (aE (lE c.O)),(a.O.cell _).trans (aE (lE c.O)),(a.O.cell _).trans (aE (lE c.O)),(a.O.cell _).trans (aE (lE c.O)),(a.O.cell _).trans (aE (lE c.O)),(a.O.cell _).trans (aE (lE c.O)),(a.O.cell _).trans (aE (lE c.O)),(a.O.cell _).trans (aE (lE c.O)),(a.O.cell _).trans (aE (lE c.O)),(a.O.cell _).trans (aE (lE c.O)),(a.O.cell _).trans (aE (lE c.O))⟩;have t0:=A.O.cell 0;have t1:=A.O.cell 1;have t2:=A.O.cell 2;have t3:=A.O.cell 3;have t4:=A.O.cell 4;have t5:=A.O.cell 5;have t6:=A.O.cell 6;have t7:=A.O.cell 7;have t8:=A.O.cell 8;have t9:=A.O.cell 9;have t10:=A.O.cell 10;have t11:=A.O.cell 11;have t12:=A.O.cell 12;simp at c0 c1 c2 t0 t1 t2 t3 t4 t5 t6 t7 t8 t9 t10 t11 t12;go_region;have b:=HD.O;refine gN (λY=>aK Y g 309 _/\aK Y pl 227 (de jt (p*13) [J V a0,J V a1,ai b2,ai b3,J bI a4,J aN a5,J ar F,J ar G,ae H o r,ai K,J aN s,ae t f l,ae y m n])/\aK Y r4 227 _/\aK Y r7 227 _/\cS (jK g pl) w Y)
  ⟨(((((((((((((C.O.dS d2 _).dS d2 _).dS d2 _).dS d2 _).dS d2 _).dS d2 _).dS d2 _).dS d2 _).dS d2 _).dS d2 _).dS d2 _).dS d2 _).dS d2 _).drew,by rw[<-mx c.O];exact(((((((((((((a.O.bC _ _).bC _ _).bC _ _).bC _ _).bC _ _).bC _ _).bC _ _).bC _ _).bC _ _).bC _ _).bC _ _).bC _ _).bC _ _).drew,(((((((((((((H4.O.dS b.2.1 _).dS b.2.1 _).dS b.2.1 _).dS b.2.1 _).dS b.2.1 _).dS b.2.1 _).dS b.2.1 _).dS b.2.1 _).dS b.2.1 _).dS b.2.1 _).dS b.2.1 _).dS b.2.1 _).dS b.2.1 _).drew,(((((((((((((H7.O.dS b.2.2.1 _).dS b.2.2.1 _).dS b.2.2.1 _).dS b.2.2.1 _).dS b.2.2.1 _).dS b.2.2.1 _).dS b.2.2.1 _).dS b.2.2.1 _).dS b.2.2.1 _).dS b.2.2.1 _).dS b.2.2.1 _).dS b.2.2.1 _).dS b.2.2.1 _).drew,((((((((((((((HU.O.mono λi _ q=>(FF i q)).setCell (aJ (aZ rfl)) _).setCell (aJ (aZ rfl)) _).setCell (aJ (aZ rfl)) _).setCell (aJ (aZ rfl)) _).setCell (aJ (aZ rfl)) _).setCell (aJ (aZ rfl)) _).setCell (aJ (aZ rfl)) _).setCell (aJ (aZ rfl)) _).setCell (aJ (aZ rfl)) _).setCell (aJ (aZ rfl)) _).setCell (aJ (aZ rfl)) _).setCell (aJ (aZ rfl)) _).setCell (aJ (aZ rfl)) _).drew⟩ ?_
 rintro Y ⟨D,eI,gX,mK,uY⟩;have c2:=D.cell 2;have c4:=D.cell 4;have f2:=D.frozen 2;have f4:=D.frozen 4;simp at c2 c4;have hY:km ((Y.setCell ⟨g,2,I⟩ (J V ((q.length:Int)+1))).setCell ⟨g,4,I⟩ (J V (dB (n4+1)))) g pl cap (q++[[J V a0,J V a1,ai b2,ai b3,J bI a4,J aN a5,J ar F,J ar G,ae H o r,ai K,J aN s,ae t f l,ae y m n]]):=by
  refine⟨⟨first,_,dB (n4+1),n5,n6,n7,hf,?_,(eI.dS (p:=⟨g,2,I⟩) (λe=>d2 e.symm) _).dS (p:=⟨g,4,I⟩) (λe=>d2 e.symm) _,by rw[gU (by simpa using c.O)];exact HS.O,HR.O⟩,dZ,one,aT,SL.O⟩;have B:=(D.bC 2 (J V ((q.length:Int)+1))).bC 4 (J V (dB (n4+1)));simpa using B
 have uZ:=(uY.setCell (p:=⟨g,2,I⟩) (aJ (aJ rfl)) (J V ((q.length:Int)+1))).setCell (p:=⟨g,4,I⟩) (aJ (aJ rfl)) (J V (dB (n4+1)));have z4:=(gX.dS (p:=⟨g,2,I⟩) b.2.2.2.2.1 (J V ((q.length:Int)+1))).dS (p:=⟨g,4,I⟩) b.2.2.2.2.1 (J V (dB (n4+1)));have z7:=(mK.dS (p:=⟨g,2,I⟩) b.2.2.2.2.2.1 (J V ((q.length:Int)+1))).dS (p:=⟨g,4,I⟩) b.2.2.2.2.2.1 (J V (dB (n4+1)));have HY:=au hY;have HZ:=au uZ;have H4:=au z4;have H7:=au z7;clear hY uZ z4 z7 D eI gX mK uY b C a HU;go_wp2_with (first
  |(refine lI _ rfl (.tmp 7) 227 rfl r7 0 227 _ rfl #[J V 0,J V 0,ai false,ai false,J bI 0,J aN 0,J ar 0,J ar 0,ae none 0 0,ai false,J aN 0,ae none 0 0,ae none 0 0] _ underlying227 pG H7.O (λj _=>by rw[cO]) ?_)
  |(refine jb _ rfl (.tmp 4) (.tmp 65) 227 rfl r4 0 227 _ rfl #[J V 0,J V 0,ai false,ai false,J bI 0,J aN 0,J ar 0,J ar 0,ae I 0 0,ai false,J aN 0,ae I 0 0,ae I 0 0] rfl pG H4.O (aj _) tk ?_;intro w6 d v6))
 have b:=HD.O;have SM:de #[J V 0,J V 0,ai false,ai false,J bI 0,J aN 0,J ar 0,J ar 0,ae I 0 0,ai false,J aN 0,ae I 0 0,ae I 0 0] 0 (#[J V 0,J V 0,ai false,ai false,J bI 0,J aN 0,J ar 0,J ar 0,ae I 0 0,ai false,J aN 0,ae I 0 0,ae I 0 0]:Array Value).toList=#[J V 0,J V 0,ai false,ai false,J bI 0,J aN 0,J ar 0,J ar 0,ae I 0 0,ai false,J aN 0,ae I 0 0,ae I 0 0]:=rfl;rw[SM]at d;have x0:=d.cell 0;have x1:=d.cell 1;have x2:=d.cell 2;have x3:=d.cell 3;have x4:=d.cell 4;have x5:=d.cell 5;have x6:=d.cell 6;have x7:=d.cell 7;have x8:=d.cell 8;have x9:=d.cell 9;have SG:=d.cell 10;have SH:=d.cell 11;have SI:=d.cell 12;simp at x0 x1 x2 x3 x4 x5 x6 x7 x8 x9 SG SH SI;have h6:=HY.O.dW v6 (λe=>b.2.2.2.2.1 e.symm) (λe=>b.2.1 e.symm);have u6:=HZ.O.step v6 (λi hi=>aZ (by rw[show i=r4 from hi];exact b.2.2.2.2.2.2));refine ax (v:=aB #[rZ,ai false,J V 0]) (by simp[aV,results187,go_sem,x0,x1,x2,x3,x4,x5,x6,x7,x8,x9,SG,SH,SI]) rfl ⟨rfl,h6,u6⟩
def zK(g pl cap:Nat)(a0:Int)(a1:Int)(b2:Bool)(b3:Bool)(a4:Int)(a5:Int)(a6:Int)(a7:Int)(A8:Option Addr)(T U:Nat)(b9:Bool)(aI:Int)(df:Option Addr)(P Q:Nat)(eI:Option Addr)(R S:Nat)(A:Int)(C:Int)(D:Bool)(E:Bool)(F:Int)(H:Int)(K:Int)(L:Int)(M:Option Addr)(m n:Nat)(N:Bool)(o:Int)(r:Option Addr)(b c:Nat)(s:Option Addr)(d f:Nat)(q:List (List Value))(w:aw)(h:km w g pl cap ([J V A,J V C,ai D,ai E,J bI F,J aN H,J ar K,J ar L,ae M m n,ai N,J aN o,ae r b c,ae s d f]::q))(hl:q.length+1=cap) :
  aF af 187 #[aq (Z ⟨g,0,I⟩),(cg #[J V a0,J V a1,ai b2,ai b3,J bI a4,J aN a5,J ar a6,J ar a7,ae A8 T U,ai b9,J aN aI,ae df P Q,ae eI R S])] w λe w'=>e=av (aB #[(cg #[J V A,J V C,ai D,ai E,J bI F,J aN H,J ar K,J ar L,ae M m n,ai N,J aN o,ae r b c,ae s d f]),ai true,J V 0])/\km w' g pl cap (q++[[J V a0,J V a1,ai b2,ai b3,J bI a4,J aN a5,J ar a6,J ar a7,ae A8 T U,ai b9,J aN aI,ae df P Q,ae eI R S]])/\cS (jK g pl) w w':=by
 obtain⟨Td,Tl,m4,m5,m6,m7,Te,SG,SI,Tf,Tg⟩:=h.ex;have SH:decide ((([J V A,J V C,ai D,ai E,J bI F,J aN H,J ar K,J ar L,ae M m n,ai N,J aN o,ae r b c,ae s d f]:List Value)::q).length=cap)=true:=dZ;have SO:=au SH;clear SH Tf Tg Te;go_enter func187,ntmps187;go_upto_region 2 with fail;obtain⟨r3,SJ⟩:=dH w.heap.size;obtain⟨r4,SK⟩:=dH (w.heap.size+1);obtain⟨r7,SL⟩:=dH (w.heap.size+1+1);rw[<-SL,<-SK,<-SJ];refine aW (λW=>aK W r3 227 #[J V a0,J V a1,ai b2,ai b3,J bI a4,J aN a5,J ar a6,J ar a7,ae A8 T U,ai b9,J aN aI,ae df P Q,ae eI R S]/\aK W r4 227 #[J V 0,J V 0,ai false,ai false,J bI 0,J aN 0,J ar 0,J ar 0,ae I 0 0,ai false,J aN 0,ae I 0 0,ae I 0 0]/\aK W r7 227 #[J V 0,J V 0,ai false,ai false,J bI 0,J aN 0,J ar 0,J ar 0,ae I 0 0,ai false,J aN 0,ae I 0 0,ae I 0 0]/\km W g pl cap ([J V A,J V C,ai D,ai E,J bI F,J aN H,J ar K,J ar L,ae M m n,ai N,J aN o,ae r b c,ae s d f]::q)/\aK W g 309 _/\cS cr w W)
  ⟨((aK.newAt _ _ _ _ SJ).alloc _).alloc _,(aK.newAt _ _ _ _ (by rw[SK];simp)).alloc _,aK.newAt _ _ _ _ (by rw[SL];simp),((h.alloc _).alloc _).alloc _,((SG.alloc _).alloc _).alloc _,(((cS.refl _ w).alloc _).alloc _).alloc _⟩ ?_
 rintro W ⟨b3,b4,b7,R1,SP,u1⟩;have lB:=SG.lt;have lP:=SI.lt;have d1:r3≠pl/\r4≠pl/\r7≠pl/\r3≠g/\r4≠g/\r7≠g/\w.heap.size<=r4:=z;have d3:r3≠r7/\r4≠r7/\w.heap.size<=r7:=z;have d2:g≠pl:=aK.jf SG SI aR;have HD:=au d1;have SM:=au d3;clear SJ SK SL d1 d3 lB lP h SG SI;have c3:=SP.cell 3;simp at c3;go_wp2_with (first
  |(refine(Bw g pl cap _ W R1).mono ?_;rintro e w2 ⟨rfl,hv⟩;rw[SO.O];subst hv)
  |(refine(xv g pl cap A C D E F H K L M m n N o r b c s d f q W.drew R1.drew).mono ?_;rintro e w3 ⟨rfl,R3,u3⟩;have SQ:=b7.drew.dW u3 (λq=>by rcases q with q|q;exact HD.O.2.2.2.2.2.1 q;exact HD.O.2.2.1 q))
  |(refine jb _ rfl (.tmp 7) (.tmp 18) 227 rfl r7 0 227 #[J V 0,J V 0,ai false,ai false,J bI 0,J aN 0,J ar 0,J ar 0,ae none 0 0,ai false,J aN 0,ae none 0 0,ae none 0 0] rfl #[J V A,J V C,ai D,ai E,J bI F,J aN H,J ar K,J ar L,ae M m n,ai N,J aN o,ae r b c,ae s d f] rfl pG SQ (aj _) tk ?_;intro w4 b8 v4;have R4:=R3.dW v4 (λe=>HD.O.2.2.2.2.2.1 e.symm) (λe=>HD.O.2.2.1 e.symm);obtain⟨first,jt,n4,n5,n6,n7,hf,hB,hP,hs,hR⟩:=R4.ex;have c6:=hB.cell 6;have f6:=hB.frozen 6;simp at c6))
 have k3:=(b3.drew.dW u3 (λq=>by rcases q with q|q;exact HD.O.2.2.2.1 q;exact HD.O.1 q)).dW v4 SM.O.1;have k4:=(b4.drew.dW u3 (λq=>by rcases q with q|q;exact HD.O.2.2.2.2.1 q;exact HD.O.2.1 q)).dW v4 SM.O.2.1;have k7:aK w4 r7 227 #[J V A,J V C,ai D,ai E,J bI F,J aN H,J ar K,J ar L,ae M m n,ai N,J aN o,ae r b c,ae s d f]:=b8;have uu:=((u1.drew.mono (G:=jK g pl) λi _ q=>q.elim).trans u3).step v4 (λi hi=>aZ (by rw[show i=r7 from hi];exact SM.O.2.2));clear b8 SQ b3 b4 b7 u1 R1 R3 u3 v4 SP c3;have le:=R4.le;have one:=R4.one;have aT:=R4.aT;have SU:=R4.wf;have hq:q.length<cap:=z;have w1:V.wrap ((first:Int)+(q.length:Int))=(first:Int)+(q.length:Int):=cz _ ⟨z,z⟩;have w2:V.wrap ((q.length:Int)+1)=(q.length:Int)+1:=cz _ ⟨z,z⟩;obtain⟨p,hp⟩:=dH ((first+q.length) % cap);have Tn:((first:Int)+(q.length:Int)) % (cap:Int)=(p:Int):=by rw[hp];simp
 have Th:p<cap:=by rw[hp];exact kp _ z
 have Tm:(p:Int)<(cap:Int):=z;have Ti:=ll (k:=13) Th;have SN:=hR.push (x:=[J V a0,J V a1,ai b2,ai b3,J bI a4,J aN a5,J ar a6,J ar a7,ae A8 T U,ai b9,J aN aI,ae df P Q,ae eI R S]) hf hq hs rfl;rw[<-hp]at SN;have SV:∀x∈q++[([J V a0,J V a1,ai b2,ai b3,J bI a4,J aN a5,J ar a6,J ar a7,ae A8 T U,ai b9,J aN aI,ae df P Q,ae eI R S]:List Value)],x.length=13/\∀u∈x,u.oneCell'=true:=by
  intro x hx;rcases bt.1 hx with hx|hx
  ·exact SU x hx
  ·simp at hx;subst hx;exact⟨rfl,by intro u hu;simp at hu;repeat (first|(subst hu;rfl)|(rcases hu with rfl|hu;rfl))⟩
 have SW:p*13+13<=jt.size:=z;obtain⟨Tj,HS,HR,t⟩:=cA SV hs SN SW;clear SV hs hR SN hp Ti SW SU;have FF:∀i,jK g pl i->jK g pl i:=λi q=>q;have l:=HD.O;obtain⟨gX,a,H3,H4,H7,HU⟩:=lH (show aK (w4.setCell ⟨g,6,I⟩ (J V (dB (n6+1)))) g 309 #[ae (Z ⟨pl,0,I⟩) cap cap,J V first,J V q.length,ai false,J V n4,J V n5,J V (dB (n6+1)),J V n7] from by have B:=hB.bC 6 (J V (dB (n6+1)));simpa using B) (hP.dS (p:=⟨g,6,I⟩) (λe=>d2 e.symm) (J V (dB (n6+1)))) (k3.dS (p:=⟨g,6,I⟩) l.2.2.2.1 (J V (dB (n6+1)))) (k4.dS (p:=⟨g,6,I⟩) l.2.2.2.2.1 (J V (dB (n6+1)))) (k7.dS (p:=⟨g,6,I⟩) l.2.2.2.2.2.1 (J V (dB (n6+1)))) (uu.setCell (p:=⟨g,6,I⟩) (aJ (aJ rfl)) (J V (dB (n6+1))));clear hB hP k3 k4 k7 uu R4 l c6 f6;generalize w4.setCell ⟨g,6,I⟩ (J V (dB (n6+1)))=X at gX a H3 H4 H7 HU ⊢;have c0:=gX.O.cell 0;have c1:=gX.O.cell 1;have c2:=gX.O.cell 2;have f0:=a.O.frozen (p*13);have f1:=a.O.frozen (p*13+1);have f2:=a.O.frozen (p*13+2);have f3:=a.O.frozen (p*13+3);have f4:=a.O.frozen (p*13+4);have f5:=a.O.frozen (p*13+5);have f6:=a.O.frozen (p*13+6);have f7:=a.O.frozen (p*13+7);have f8:=a.O.frozen (p*13+8);have f9:=a.O.frozen (p*13+9);have f10:=a.O.frozen (p*13+10);have f11:=a.O.frozen (p*13+11);have f12:=a.O.frozen (p*13+12);obtain⟨v0,v1,v2,v3,v4,v5,v6,v7,v8,v9,v10,v11,v12,e0,e1,e2,e3,e4,e5,e6,e7,e8,e9,To,Tp,Tq⟩:∃v0 v1 v2 v3 v4 v5 v6 v7 v8 v9 v10 v11 v12,X.cell? ⟨pl,p*13,I⟩=Z v0/\X.cell? ⟨pl,p*13+1,I⟩=Z v1/\X.cell? ⟨pl,p*13+2,I⟩=Z v2/\X.cell? ⟨pl,p*13+3,I⟩=Z v3/\X.cell? ⟨pl,p*13+4,I⟩=Z v4/\X.cell? ⟨pl,p*13+5,I⟩=Z v5/\X.cell? ⟨pl,p*13+6,I⟩=Z v6/\X.cell? ⟨pl,p*13+7,I⟩=Z v7/\X.cell? ⟨pl,p*13+8,I⟩=Z v8/\X.cell? ⟨pl,p*13+9,I⟩=Z v9/\X.cell? ⟨pl,p*13+10,I⟩=Z v10/\X.cell? ⟨pl,p*13+11,I⟩=Z v11/\X.cell? ⟨pl,p*13+12,I⟩=Z v12:=⟨_,_,_,_,_,_,_,_,_,_,_,_,_,(a.O.cell _).trans (aE (lE t.O)),(a.O.cell _).trans (aE (lE t.O)),(a.O.cell _).trans (aE (lE t.O)),(a.O.cell _).trans (aE (lE t.O)),(a.O.cell _).trans (aE (lE t.O)),(a.O.cell _).trans (aE (lE t.O)),(a.O.cell _).trans (aE (lE t.O)),(a.O.cell _).trans (aE (lE t.O)),(a.O.cell _).trans (aE (lE t.O)),(a.O.cell _).trans (aE (lE t.O)),(a.O.cell _).trans (aE (lE t.O)),(a.O.cell _).trans (aE (lE t.O)),(a.O.cell _).trans (aE (lE t.O))⟩;have t0:=H3.O.cell 0;have t1:=H3.O.cell 1;have t2:=H3.O.cell 2;have t3:=H3.O.cell 3;have t4:=H3.O.cell 4;have t5:=H3.O.cell 5;have t6:=H3.O.cell 6;have t7:=H3.O.cell 7;have t8:=H3.O.cell 8;have t9:=H3.O.cell 9;have t10:=H3.O.cell 10;have t11:=H3.O.cell 11;have t12:=H3.O.cell 12;simp at c0 c1 c2 t0 t1 t2 t3 t4 t5 t6 t7 t8 t9 t10 t11 t12;go_region;have l:=HD.O;refine gN (λY=>aK Y g 309 _/\aK Y pl 227 (de jt (p*13) [J V a0,J V a1,ai b2,ai b3,J bI a4,J aN a5,J ar a6,J ar a7,ae A8 T U,ai b9,J aN aI,ae df P Q,ae eI R S])/\aK Y r4 227 _/\aK Y r7 227 _/\cS (jK g pl) w Y)
  ⟨(((((((((((((gX.O.dS d2 _).dS d2 _).dS d2 _).dS d2 _).dS d2 _).dS d2 _).dS d2 _).dS d2 _).dS d2 _).dS d2 _).dS d2 _).dS d2 _).dS d2 _).drew,by rw[<-mx t.O];exact(((((((((((((a.O.bC _ _).bC _ _).bC _ _).bC _ _).bC _ _).bC _ _).bC _ _).bC _ _).bC _ _).bC _ _).bC _ _).bC _ _).bC _ _).drew,(((((((((((((H4.O.dS l.2.1 _).dS l.2.1 _).dS l.2.1 _).dS l.2.1 _).dS l.2.1 _).dS l.2.1 _).dS l.2.1 _).dS l.2.1 _).dS l.2.1 _).dS l.2.1 _).dS l.2.1 _).dS l.2.1 _).dS l.2.1 _).drew,(((((((((((((H7.O.dS l.2.2.1 _).dS l.2.2.1 _).dS l.2.2.1 _).dS l.2.2.1 _).dS l.2.2.1 _).dS l.2.2.1 _).dS l.2.2.1 _).dS l.2.2.1 _).dS l.2.2.1 _).dS l.2.2.1 _).dS l.2.2.1 _).dS l.2.2.1 _).dS l.2.2.1 _).drew,((((((((((((((HU.O.mono λi _ q=>(FF i q)).setCell (aJ (aZ rfl)) _).setCell (aJ (aZ rfl)) _).setCell (aJ (aZ rfl)) _).setCell (aJ (aZ rfl)) _).setCell (aJ (aZ rfl)) _).setCell (aJ (aZ rfl)) _).setCell (aJ (aZ rfl)) _).setCell (aJ (aZ rfl)) _).setCell (aJ (aZ rfl)) _).setCell (aJ (aZ rfl)) _).setCell (aJ (aZ rfl)) _).setCell (aJ (aZ rfl)) _).setCell (aJ (aZ rfl)) _).drew⟩ ?_
 rintro Y ⟨mK,SX,SY,SZ,uY⟩;have c2:=mK.cell 2;have c4:=mK.cell 4;have f2:=mK.frozen 2;have f4:=mK.frozen 4;simp at c2 c4;have hY:km ((Y.setCell ⟨g,2,I⟩ (J V ((q.length:Int)+1))).setCell ⟨g,4,I⟩ (J V (dB (n4+1)))) g pl cap (q++[[J V a0,J V a1,ai b2,ai b3,J bI a4,J aN a5,J ar a6,J ar a7,ae A8 T U,ai b9,J aN aI,ae df P Q,ae eI R S]]):=by
  refine⟨⟨first,_,dB (n4+1),n5,(dB (n6+1)),n7,hf,?_,(SX.dS (p:=⟨g,2,I⟩) (λe=>d2 e.symm) _).dS (p:=⟨g,4,I⟩) (λe=>d2 e.symm) _,by rw[gU (by simpa using t.O)];exact HS.O,HR.O⟩,dZ,one,aT,Tj.O⟩;have B:=(mK.bC 2 (J V ((q.length:Int)+1))).bC 4 (J V (dB (n4+1)));simpa using B
 have uZ:=(uY.setCell (p:=⟨g,2,I⟩) (aJ (aJ rfl)) (J V ((q.length:Int)+1))).setCell (p:=⟨g,4,I⟩) (aJ (aJ rfl)) (J V (dB (n4+1)));have z4:=(SY.dS (p:=⟨g,2,I⟩) l.2.2.2.2.1 (J V ((q.length:Int)+1))).dS (p:=⟨g,4,I⟩) l.2.2.2.2.1 (J V (dB (n4+1)));have z7:=(SZ.dS (p:=⟨g,2,I⟩) l.2.2.2.2.2.1 (J V ((q.length:Int)+1))).dS (p:=⟨g,4,I⟩) l.2.2.2.2.2.1 (J V (dB (n4+1)));have HY:=au hY;have HZ:=au uZ;have H4:=au z4;have H7:=au z7;clear hY uZ z4 z7 mK SX SY SZ uY l gX a HU;go_wp2_with (first
  |(refine lI _ rfl (.tmp 7) 227 rfl r7 0 227 _ rfl #[J V A,J V C,ai D,ai E,J bI F,J aN H,J ar K,J ar L,ae M m n,ai N,J aN o,ae r b c,ae s d f] _ underlying227 pG H7.O (λj _=>by rw[cO]) ?_)
  |(refine jb _ rfl (.tmp 4) (.tmp 65) 227 rfl r4 0 227 _ rfl #[J V A,J V C,ai D,ai E,J bI F,J aN H,J ar K,J ar L,ae M m n,ai N,J aN o,ae r b c,ae s d f] rfl pG H4.O (aj _) tk ?_;intro w6 y v6))
 have l:=HD.O;have Tk:de #[J V 0,J V 0,ai false,ai false,J bI 0,J aN 0,J ar 0,J ar 0,ae I 0 0,ai false,J aN 0,ae I 0 0,ae I 0 0] 0 (#[J V A,J V C,ai D,ai E,J bI F,J aN H,J ar K,J ar L,ae M m n,ai N,J aN o,ae r b c,ae s d f]:Array Value).toList=#[J V A,J V C,ai D,ai E,J bI F,J aN H,J ar K,J ar L,ae M m n,ai N,J aN o,ae r b c,ae s d f]:=rfl;rw[Tk]at y;have x0:=y.cell 0;have x1:=y.cell 1;have x2:=y.cell 2;have x3:=y.cell 3;have x4:=y.cell 4;have x5:=y.cell 5;have x6:=y.cell 6;have x7:=y.cell 7;have x8:=y.cell 8;have x9:=y.cell 9;have Ta:=y.cell 10;have Tb:=y.cell 11;have Tc:=y.cell 12;simp at x0 x1 x2 x3 x4 x5 x6 x7 x8 x9 Ta Tb Tc;have h6:=HY.O.dW v6 (λe=>l.2.2.2.2.1 e.symm) (λe=>l.2.1 e.symm);have u6:=HZ.O.step v6 (λi hi=>aZ (by rw[show i=r4 from hi];exact l.2.2.2.2.2.2));refine ax (v:=aB #[(cg #[J V A,J V C,ai D,ai E,J bI F,J aN H,J ar K,J ar L,ae M m n,ai N,J aN o,ae r b c,ae s d f]),ai true,J V 0]) (by simp[aV,results187,go_sem,x0,x1,x2,x3,x4,x5,x6,x7,x8,x9,Ta,Tb,Tc]) rfl ⟨rfl,h6,u6⟩
section
section
variable {X w:aw} {o:Obj} {F:Nat->Prop} {cs:Array Value} {t:TypeId}
def eW(b:iQ X.drew.heap.size X.drew w):aC X w:=(cd (ao _ X) 1).trans b
def ML(b:iQ (X.alloc o).drew.heap.size (X.alloc o).drew w):aC X w:=(cd ((ao _ X).alloc (aj _) o) 1).trans (b.mono (by show X.heap.size<=(X.alloc o).heap.size;simp))
def RU(b:iQ (X.drew.alloc o).heap.size (X.drew.alloc o) w):aC X w:=((cd (ao _ X) 1).alloc (aj _) o).trans (b.mono ((Fr.refl cr X).drew.alloc o).size)
def Eu(f:Fr F X.drew w):Fr F X w:=((Fr.refl F X).drew).trans f
def ON(f:Fr F (X.alloc o).drew w):Fr F X w:=(((Fr.refl F X).alloc o).drew).trans f
def MK(b:iQ (X.alloc (.cells cs t)).drew.heap.size (X.alloc (.cells cs t)).drew w):aK w X.heap.size t cs:=(aK.new X t cs).drew.kept b
def OO(b:iQ (X.drew.alloc (.cells cs t)).heap.size (X.drew.alloc (.cells cs t)) w):aK w X.heap.size t cs:=(aK.new X.drew t cs).kept b
def OM(f:Fr F (X.alloc (.cells cs t)).drew w)(h:¬F X.heap.size):aK w X.heap.size t cs:=(aK.new X t cs).drew.dW f.u h
def cE{w:aw}{p:Addr}{v:Value}(h:w.cell? p=Z v):w.drew.cell? p=Z v:=h
def ea{w:aw}{b i:Nat}{v:Value}{o:Obj}(h:w.cell? ⟨b,i,I⟩=Z v):(w.alloc o).cell? ⟨b,i,I⟩=Z v:=(World.cell?_alloc_lt _ _ _ (uc h)).trans h
def sf{w:aw}{g j b i:Nat}{v u:Value}(n:g≠b)(h:w.cell? ⟨b,i,I⟩=Z v):(w.setCell ⟨g,j,I⟩ u).cell? ⟨b,i,I⟩=Z v:=(World.cell?_setCell_far w ⟨g,j,I⟩ ⟨b,i,I⟩ u n).trans h
def dD{F:Nat->Prop}{w w':aw}{b i:Nat}{v:Value}(f:Fr F w w')(hF:¬F b)(h:w.cell? ⟨b,i,I⟩=Z v):w'.cell? ⟨b,i,I⟩=Z v:=by
 have e:=f.u.block b (uc h) hF;exact(World.cell?_of_block (w:=w) (w':=w') (a:=⟨b,i,I⟩) e).trans h
inductive Kz(X:aw)(o:Obj):aw->Prop
 |here:Kz X o X
 |drew:Kz X o X.drew
 |both:Kz X o (X.alloc o).drew
 |back:Kz X o (X.drew.alloc o)
def Kz.below{W:aw}(h:Kz X o W):aC X W:=by
 cases h
 ·exact ao _ _
 ·exact cd (ao _ X) 1
 ·exact cd ((ao _ X).alloc (aj _) o) 1
 ·exact(cd (ao _ X) 1).alloc (aj _) o
end
end
def wK{k:Nat}:∀{q:List (List Value)},(∀c∈q,c.length=k)->q.flatten.length=q.length*k
 |[],_=>dt
 |c::q,h=>by
  rw[jM,List.length_append,wK (λd a=>h d (by simp[a])),h c dt,ft,jG];omega
def Ep{k:Nat}:∀{q:List (List Value)},(∀c∈q,c.length=k)->∀(i j:Nat),j<k->q.flatten[i*k+j]? = (q[i]?).bind λc=>c[j]?
 |[],_,i,j,_=>dt
 |c::q,h,i,j,b=>by
  have a:=h c dt;rw[jM];cases i with
  |zero=>rw[List.getElem?_append_left z];simp
  |succ i =>
   rw[List.getElem?_append_right (by rw[a,jG];omega),show(i+1)*k+j-c.length=i*k+j by rw[a,jG];omega,Ep (λd e=>h d (by simp[e])) i j b];simp
def Cz{w:aw}{base:Nat}{e:TypeId}{size n:Nat}{v:Value}{q:List (List Value)}(h:w.ownsRow base e size v n q.flatten)(k:∀c∈q,c.length=size)(h0:0<n) :
  ∃g cap dx,v=ae (Z ⟨g,0,I⟩) n cap/\base<=g/\n<=cap/\cap<=maxLen/\aK w g e dx/\dx.size=cap*size/\∀(i:Nat) (c:List Value),q[i]? = Z c->∀j,j<size->dx[i*size+j]? = c[j]?:=by
 rcases h.2 with⟨_,e⟩ | ⟨g,cap,dx,e,m,o,a,b,d,f⟩
 ·omega
 ·refine⟨g,cap,dx,e,m,a,b,o,d,λi c l j p=>?_⟩;have hg:=Ep k i j p;rw[l]at hg;have r:=wK k;have s:=(List.getElem?_eq_some_iff.1 l).1;have h1:=h.1;have t:i*size+j<q.flatten.length:=by
   rw[r];have:(i+1)*size<=q.length*size:=Nat.mul_le_mul_right size s;rw[jG]at this;omega
  have u:q.flatten.length=n*size:=h.1;rw[<-f,List.getElem?_take_of_lt z,Array.getElem?_toList]at hg;exact hg
def jZ{w:aw}{base:Nat}{e:TypeId}{size n:Nat}{v:Value}{q:List (List Value)}(h:w.ownsRow base e size v n q.flatten)(a:∀c∈q,c.length=size)(h0:0<n) :
  ∃g cap,v=ae (Z ⟨g,0,I⟩) n cap/\n<=cap/\∀(i:Nat) (c:List Value),q[i]? = Z c->∀j,j<size->w.cell? ⟨g,i*size+j,I⟩=c[j]?:=by
 obtain⟨g,cap,dx,e,_,h2,_,b,_,h3⟩:=Cz h a h0;exact⟨g,cap,e,h2,λi c d j f=>by rw[b.cell];exact h3 i c d j f⟩
def zP{k:Nat}:∀{q:List (List Value)},(∀c∈q,c.length=k)->∀(i j:Nat) (c:List Value) (u:Value),j<k->q[i]? = Z c->q.flatten.set (i*k+j) u=(q.set i (c.set j u)).flatten
 |[],_,i,j,c,u,_,h=>by simp at h
 |d::q,h,0,j,c,u,f,a=>by
  simp at a;subst a;have b:=h d dt;simp only[Nat.zero_mul,cO,jM,List.set_cons_zero];rw[List.set_append_left _ _ z]
 |d::q,h,i+1,j,c,u,f,a=>by
  have b:=h d dt;have g:=zP (q:=q) (λe he=>h e (List.mem_cons_of_mem _ he)) i j c u f (by simpa using a);simp only[jM,List.set_cons_succ];rw[List.set_append_right _ _ (by rw[b,jG];omega),<-g];congr 2;rw[b,jG];omega
def Fit.set{α:Type}{R:α->List Value->Prop}:∀{xs:List α} {cs:List (List Value)} {i:Nat} {x:α} {c:List Value},Fit R xs cs->xs[i]? = Z x->R x c->Fit R xs (cs.set i c)
 |x::xs,d::cs,0,y,c,h,e,hR=>by simp at e;subst e;exact⟨hR,h.2⟩
 |x::xs,d::cs,i+1,y,c,h,e,hR=>⟨h.1,Fit.set h.2 (by simpa using e) hR⟩
 |[],_,_,_,_,_,e,_=>by simp at e
 |_::_,[],_,_,_,h,_,_=>h.elim
def Fit.one{α:Type}{R:α->List Value->Prop}(h1:∀x c,R x c->∀u∈c,u.oneCell'=true){xs:List α}{cs:List (List Value)}(h:Fit R xs cs):∀u∈cs.flatten,u.oneCell'=true:=by
 intro u hu;obtain⟨c,a,hu⟩:=List.mem_flatten.1 hu;obtain⟨x,_,hR⟩:=h.mem c a;exact h1 x c hR u hu
def Fit.len{α:Type}{R:α->List Value->Prop}{k:Nat}(h1:∀x c,R x c->c.length=k){xs:List α}{cs:List (List Value)}(h:Fit R xs cs):∀c∈cs,c.length=k:=by
 intro c a;obtain⟨x,_,hR⟩:=h.mem c a;exact h1 x c hR
def Fit.MD{α:Type}{R:α->List Value->Prop}{xs:List α}{cs:List (List Value)}(h:Fit R xs cs){i:Nat}(a:i<xs.length):∃x c,xs[i]? = Z x/\cs[i]? = Z c/\R x c:=by
 have e:xs[i]? = Z xs[i]:=ay a;obtain⟨c,h1,h2⟩:=h.get e;exact⟨_,c,e,h1,h2⟩
def Iu{w:aw}{base:Nat}{e:TypeId}{size n c:Nat}{g:Nat}{xs:List Value}(h:w.ownsRow base e size (ae (Z ⟨g,0,I⟩) n c) n xs):∃dx,aK w g e dx/\base<=g:=by
 rcases h.2 with⟨a,_⟩ | ⟨f,cap,dx,a,b,d,_⟩
 ·simp at a
 ·simp at a;obtain⟨rfl,_⟩:=a;exact⟨dx,d,b⟩
section
section
variable {P:Program} {md:Region.Mode} {ops:Array mJ} {Q:Exit->Act->aw->Prop}
def QI(ops:Array mJ):Bool:=(List.range ops.size).all λj=>match ops[j]? with | some o=>o.after.all λe=>decide (e.on<j) | none=>true
def Hp(h:QI ops=true):∀(j:Nat) (o:mJ),ops[j]? = Z o->∀e∈o.after,e.on<j:=by
 intro j o b e he;have a:=(jm.1 b).1;have:=List.all_eq_true.1 h j (List.mem_range.2 a);rw[b]at this;simpa using Array.all_eq_true_iff_forall_mem.1 this e he
def Be{listed:Array Bool}(b:∀(j:Nat) (o:mJ),ops[j]? = Z o->∀e∈o.after,e.on<j)(c:listed.size=ops.size)(hr:Region.ready md ops listed=[]):∀j,j<ops.size->listed.getD j false=true:=by
 intro j;induction j using Nat.strongRecOn with
 |_ j d =>
  intro a;by_cases h:listed.getD j false=true
  ·exact h
  ·exfalso;have hm:j∈Region.ready md ops listed:=mem_ready.2 ⟨by
    have e:listed.getD j true=listed.getD j false:=by simp[Array.getD,c,a]
    rw[e];simpa using h,ops[j],aE a,λe he _=>d e.on (b j _ (aE a) e he) (Nat.lt_trans (b j _ (aE a) e he) a)⟩
   rw[hr]at hm;cases hm
def AR(g:Array Bool->Act->aw->Prop)(c:∀listed a w,g listed a w->listed.size=ops.size)(m:∀(j:Nat) (o:mJ),ops[j]? = Z o->∀e∈o.after,e.on<j)
  (q:∀listed a w i o,g listed a w->ops[i]? = Z o->(∀e∈o.after,Region.binds md e=true->listed.getD e.on false=true)->wpOp P ops Q i (λa' w'=>g (listed.setIfInBounds i true) a' w') a w)
  (n:∀listed a w,g listed a w->(∀j,j<ops.size->listed.getD j false=true)->Q .normal a w) :
  ∀(fuel:Nat) (listed:Array Bool) (a:Act) (w:aw),listed.toList.countP (λb=>!b)<=fuel->g listed a w->wpAny P md ops Q fuel listed a w
 |0,listed,a,w,r,d=>by
  have hr:Region.ready md ops listed=[]:=by
   rw[List.eq_nil_iff_forall_not_mem];intro j s;obtain⟨h1,o,l,_⟩:=mem_ready.1 s;have f:=(jm.1 l).1;have p:=c listed a w d;have h0:listed.toList.countP (λb=>!b)=0:=z;rw[List.countP_eq_zero]at h0;have hm:listed[j]'(z)∈listed.toList:=dt;have:=h0 _ hm;simp[Array.getD,p,f]at h1;simp[h1]at this
  exact⟨hr,n listed a w d (Be m (c listed a w d) hr)⟩
 |fuel+1,listed,a,w,r,d=>by
  refine⟨λhr=>n listed a w d (Be m (c listed a w d) hr),λi t=>?_⟩;obtain⟨h1,o,l,h⟩:=mem_ready.1 t;have f:=(jm.1 l).1;have p:=c listed a w d;refine wpOp_mono (λa' w' u=>AR g c m q n fuel _ a' w' ?_ u) (q listed a w i o d l h);have h2:listed[i]'(z)=false:=by simpa[Array.getD,p,f]using h1
  have k:i<listed.toList.length:=dZ;rw[Array.toList_setIfInBounds,List.countP_set k];have h3:listed.toList[i]=false:=by simpa using h2
  have h4:0<listed.toList.countP (λb=>!b):=List.countP_pos_iff.2 ⟨false,by rw[<-h3];exact List.getElem_mem k,rfl⟩;rw[if_pos (by rw[h3];rfl),if_neg dt];omega
end
end
end Go.Proofs.YtkfblammcilfhaaGreatDoor
