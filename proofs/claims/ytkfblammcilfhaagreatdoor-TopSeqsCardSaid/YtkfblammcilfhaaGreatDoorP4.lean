import Derived.Maps.RangeWalk
import Derived.DeepKeys4
import Derived.Maps.Range
import Derived.Deep.Cut
import Derived.Laws.AppendOwn
import Derived.Lib.Overlaps
import Derived.Lib.AppendZerosOnto
import Derived.Lib.SlKeysI
import Derived.Test.YtkfblammcilfhaaGreatDoorP1
import Derived.Test.YtkfblammcilfhaaGreatDoorP2
set_option linter.all false
set_option maxRecDepth 100000
set_option maxHeartbeats 100000000
open Go.ChangeShapes Go.WideShapes Go.ChangeAt Go.RowKit Go.Proofs.Tryz
open Go renaming World->aw,Oper->mJ,Operand->oN,wpList->oD,wpList_plain->oB,deep_law_laid->Bj,Program->jB,zeroValue->ja,run_storeCells_at->oF,run_underlying->oE,setRow_heap->kQ,TypeInfo->pO,growslice_fits->rG,yielded->sC,Calls->aF,info_parts->cY,bodyPost_ret->ax,results->aV
open Go.Proofs.Tryz renaming prog->af
open Go.Maps renaming has->tF,has_put_other->nJ
open List renaming nodup_append->jj,mem_append->bt,map_cons->eV,map_nil->jk,getElem?_eq_some_iff->aS,getElem?_append_left->dk,getElem?_append_right->dG,getElem?_eq_none->fx,getElem?_take_of_lt->dp,length_eq_zero_iff->cU,ext_getElem?->sB,toList_toArray->qk,length_drop->lz,getElem?_drop->kt,mem_of_mem_drop->ga,length_take->ix,append_assoc->dL,size_toArray->sv,getElem?_eq_getElem->ay,mem_of_getElem?->fb,mem_singleton->kr
open List.Nodup renaming mem_erase_iff->iH
open Go.RowKit.Below renaming refl->ao
open Nat renaming le_refl->aj,mod_eq_of_lt->fZ,add_zero->iw,sub_self->qB,lt_or_ge->iL,mod_eq_sub_mod->rD,mul_le_mul_right->kN,add_mul->jG,zero_add->cO,zero_le->gG,zero_mul->qA
open Go.Lit renaming int->dU
open Go.Value renaming cells->gW,int->J,ownBlock->eR,slice->ae,bool->ai,pointer->aq,tuple->aB,agg->cg
open Go.IntKind renaming min->jI,max->jJ,signed->fR,bits->gM,i64->V,u64->nS,u32->ar
open Go.Builtin renaming clear_->lD,zeroCells->fM,append_->qe,copy_->mj
open Array renaming size_setIfInBounds->dh,getElem?_toList->gj,getElem?_append_left->mN
open Go.Region renaming wanted->ig
open Go.Act renaming eval->tG,put->aA
open Go.IntWalk renaming i64_in->cz
open Go.Instr renaming lookup->cD,mapUpdate->eF
open Go.Ending renaming returned->av
open Option renaming none->I,some->Z
namespace Go.Proofs.YtkfblammcilfhaaGreatDoor
section
open Go.Maps (Keyed)
theorem eT{w w':aw}{row:Option Nat}(g:w.grownBy w' row):cS (λi=>row=Z i) w w':=
 ⟨g.os,g.tape,g.output,g.size,λi hi hF=>g.block i hi (λe=>hF e.symm)⟩
theorem tH{w w':aw}{b:Nat}(g:w.grownBy w' (Z b)):cS (One b) w w':=(eT g).mono λi _ h=>by cases h;rfl
structure Keys(κ:Type) where
 k:TypeId
 K:Keyed af k
 enc:κ->Value
 kl:κ->Lit
 ok:κ->Prop
 key:∀x,ok x->keyOf af k (enc x)=Z (kl x)
def RV:Value->Option (DataW Value×List MemPlace):=λv=>Z (.held v,[])
section
variable {κ:Type} [DecidableEq κ] (S:Keys κ)
theorem Keys.inj{S:Keys κ}(he:∀x y,S.enc x=S.enc y->x=y){x y:κ}(a:S.ok x)(hy:S.ok y)(h:S.kl x=S.kl y):x=y:=
 he x y (S.K.inj (S.key x a) (h ▸ S.key y hy))
structure uI(D:DataW Value)(ds:List κ)(f:κ->Value):Prop where
 nodup:ds.Nodup
 ok:∀x∈ds,S.ok x
 size:Maps.size D=ds.length
 has:∀x,S.ok x->tF D (S.kl x)=decide (x∈ds)
 at_:∀x∈ds,∀zd,D.atKey (S.kl x) zd=.held (f x)
 only:∀l,tF D l=true->∃x∈ds,l=S.kl x
variable {S} {D:DataW Value} {ds:List κ} {f:κ->Value}
theorem uI.empty(f:κ->Value):uI S (.map []) [] f:=⟨List.nodup_nil,λx h=>absurd h dt,rfl,λx _=>by simp[tF],λx h=>absurd h dt,λl h=>by simp[tF]at h⟩
theorem uI.put(he:∀x y,S.enc x=S.enc y->x=y)(h:uI S D ds f)(T:Maps.Tidy D){x:κ}(a:x∈ds)(v:Value):uI S (D.put (S.kl x) (.held v)) ds (λy=>if y=x then v else f y):=by
 have b:=h.ok x a;have c:=S.K.key (S.key x b);refine⟨h.nodup,h.ok,?_,λy d=>?_,λy hy zd=>?_,λl g=>?_⟩
 ·rw[Maps.size_put T,h.size,h.has x b];simp[a]
 ·by_cases e:y=x
  ·subst e;rw[Maps.has_put_same T.isMap c];simp[a]
  ·rw[nJ (λq=>e (Keys.inj he d b q))];exact h.has y d
 ·by_cases e:y=x
  ·subst e;rw[Maps.atKey_put_same T.isMap c];simp
  ·rw[Maps.atKey_put_other (λq=>e (Keys.inj he (h.ok y hy) b q)),h.at_ y hy];simp[e]
 ·by_cases e:l=S.kl x
  ·exact⟨x,a,e⟩
  ·rw[nJ e]at g;exact h.only l g
theorem uI.new(he:∀x y,S.enc x=S.enc y->x=y)(h:uI S D ds f)(T:Maps.Tidy D){x:κ}(g:x∉ds)(c:S.ok x)(v:Value):uI S (D.put (S.kl x) (.held v)) (ds++[x]) (λy=>if y=x then v else f y):=by
 have i:=S.K.key (S.key x c);refine⟨jj.2 ⟨h.nodup,dt,λa n b j=>by simp at j;subst j;exactλe=>g (e ▸ n)⟩,λy hy=>?_,?_,λy k=>?_,λy hy zd=>?_,λl m=>?_⟩
 ·rcases bt.1 hy with hy|hy
  ·exact h.ok y hy
  ·simp at hy;subst hy;exact c
 ·rw[Maps.size_put T,h.size,h.has x c];simp[g]
 ·by_cases e:y=x
  ·subst e;rw[Maps.has_put_same T.isMap i];simp
  ·rw[nJ (λq=>e (Keys.inj he k c q)),h.has y k];simp[e]
 ·by_cases e:y=x
  ·subst e;rw[Maps.atKey_put_same T.isMap i];simp
  ·have d:y∈ds:=by rcases bt.1 hy with h|h;exact h;simp at h;exact absurd h e
   rw[Maps.atKey_put_other (λq=>e (Keys.inj he (h.ok y d) c q)),h.at_ y d];simp[e]
 ·by_cases e:l=S.kl x
  ·exact⟨x,dt,e⟩
  ·rw[nJ e]at m;obtain⟨y,hy,o⟩:=h.only l m;exact⟨y,by simp[hy],o⟩
theorem uI.del(he:∀x y,S.enc x=S.enc y->x=y)(h:uI S D ds f)(T:Maps.Tidy D){x:κ}(c:S.ok x):uI S (D.del (S.kl x)) (ds.erase x) f:=by
 have d:=Maps.size_del (k:=S.kl x) T;rw[h.has x c,h.size]at d;refine⟨h.nodup.erase x,λy hy=>h.ok y (List.mem_of_mem_erase hy),?_,λy g=>?_,λy hy zd=>?_,λl b=>?_⟩
 ·rw[List.length_erase];by_cases i:x∈ds
  ·simp[i]at d ⊢;omega
  ·simp[i]at d ⊢;omega
 ·by_cases e:y=x
  ·subst e;rw[Maps.has_del_same];simp[iH h.nodup]
  ·rw[Maps.has_del_other (λq=>e (Keys.inj he g c q)),h.has y g];simp[iH h.nodup,e]
 ·have a:=iH h.nodup |>.1 hy
  rw[Maps.atKey_del_other (λq=>a.1 (Keys.inj he (h.ok y a.2) c q)),h.at_ y a.2]
 ·by_cases e:l=S.kl x
  ·rw[e,Maps.has_del_same]at b;cases b
  ·rw[Maps.has_del_other e]at b;obtain⟨y,hy,j⟩:=h.only l b;exact⟨y,(iH h.nodup).2 ⟨λq=>e (q ▸ j),hy⟩,j⟩
theorem uI.congr{g:κ->Value}(h:uI S D ds f)(e:∀x∈ds,f x=g x):uI S D ds g:=⟨h.nodup,h.ok,h.size,h.has,λx a zd=>by rw[h.at_ x a,e x a],h.only⟩
def gE(S:Keys κ)(w:aw)(b:Nat)(ds:List κ)(f:κ->Value):Prop:=∃D,w.ownsMap af S.k RV b ds.length D/\uI S D ds f
variable {w w':aw} {b:Nat}
theorem CB{k:TypeId}{R:Value->Option (DataW Value×List MemPlace)}{w:aw}{b n:Nat}{D:DataW Value}(h:w.ownsMap af k R b n D):w.ownsMap af k R b (Maps.size D) D:=by
 obtain⟨es,cJ,a,F,c,rfl⟩:=h;exact⟨es,cJ,a,F,by simp[Maps.size,length_sorted],rfl⟩
theorem gE.made(w:aw)(f:κ->Value):gE S (w.alloc (.map #[] 0)) w.heap.size [] f:=⟨_,World.ownsMap_made _ _ _ _,uI.empty f⟩
theorem gE.lt(h:gE S w b ds f):b<w.heap.size:=by obtain⟨D,h1,_⟩:=h;exact h1.lt
theorem gE.congr{g:κ->Value}(h:gE S w b ds f)(e:∀x∈ds,f x=g x):gE S w b ds g:=by obtain⟨D,h1,h2⟩:=h;exact⟨D,h1,h2.congr e⟩
theorem gE.is(h:gE S w b ds f):∃es k,w.heap[b]? = Z (.map es k):=by
 obtain⟨D,⟨es,cJ,a,_⟩,_⟩:=h;exact⟨es,cJ,a⟩
theorem gE.dW{F:Nat->Prop}(h:gE S w b ds f)(u:cS F w w')(hF:¬F b):gE S w' b ds f:=by
 obtain⟨D,⟨es,cJ,a,q⟩,h2⟩:=h;exact⟨D,⟨es,cJ,(u.block b (Array.getElem?_eq_some_iff.1 a).1 hF).trans a,q⟩,h2⟩
theorem gE.below(h:gE S w b ds f)(u:aC w w'):gE S w' b ds f:=h.dW (F:=cr) (.bn u) id
theorem gE.alloc(h:gE S w b ds f)(o:Obj):gE S (w.alloc o) b ds f:=h.below ((ao _ _).alloc (aj _) o)
theorem gE.ki(h:gE S w b ds f){g:Nat}{t:TypeId}{cs:Array Value}(a:aK w g t cs):b≠g:=by
 rintro rfl;obtain⟨es,k,c⟩:=h.is;unfold aK at a;rw[a]at c;cases c
def kY(S:Keys κ)(w:aw)(b r:Nat)(ds:List κ)(f:κ->Value)(done:List κ):Prop:=
 ∃D left a,w.ranges af S.k RV b r ds.length D left a/\uI S D ds f/\(∀x∈ds,left (S.kl x)=decide (x∉done))/\(∀l,left l=true->tF D l=true)/\done.Nodup/\∀x∈done,x∈ds
variable {r:Nat} {done:List κ}
theorem kY.sub(h:kY S w b r ds f done):done.Nodup/\∀x∈done,x∈ds:=by obtain⟨D,left,a,h1,h2,_,_,h5⟩:=h;exact h5
theorem kY.dW{F:Nat->Prop}(h:kY S w b r ds f done)(u:cS F w w')(c:¬F b)(hr:¬F r):kY S w' b r ds f done:=by
 obtain⟨D,left,a,h1,h2⟩:=h;have l1:=h1.owns.lt;have l2:=h1.lt;obtain⟨es,cJ,jv,seen,d,e,F',g,i,j,q⟩:=h1;exact⟨D,left,a,⟨es,cJ,jv,seen,d,(u.block b l1 c).trans e,F',g,i,(u.block r l2 hr).trans j,q⟩,h2⟩
theorem kY.kj{F:Nat->Prop}(h:kY S w b r ds f done)(u:cS F w w')(a:¬F b)(hr:¬F r):w'.rangeLeft b r=w.rangeLeft b r:=by
 obtain⟨D,left,c,h1,h2⟩:=h;unfold World.rangeLeft;rw[u.block b h1.owns.lt a,u.block r h1.lt hr]
theorem kY.lt(h:kY S w b r ds f done):b<w.heap.size/\r<w.heap.size:=by obtain⟨D,left,a,h1,h2⟩:=h;exact⟨h1.owns.lt,h1.lt⟩
section
variable (w:aw) {ops:Array mJ} {rest:List mJ} {o:mJ} {a:Act} {Q:Exit->Act->aw->Prop}
variable (he:∀x y,S.enc x=S.enc y->x=y) {t e:TypeId} (ht:af.underlying t=Z (.map S.k e))
include ht in
theorem uK(hg:o.guard=I)(m:oN)(h:o.op=Op.range t m)(b:Nat)(ds:List κ)(f:κ->Value)(hm:a.eval m=.map (Z b))(c:gE S w b ds f)
  (j:∀w',kY S w' b w.heap.size ds f []->cS cr w w'->w'.heap.size=w.heap.size+1->oD af ops Q rest (a.put o.dst (aq (Z ⟨w.heap.size,0,I⟩))) w'):oD af ops Q (o::rest) a w:=by
 obtain⟨D,h1,h2⟩:=c;refine wpList_range_own w hg m t h S.k e S.K ht RV b _ D hm h1 λw' hr g n=>j w' ⟨D,_,_,hr,h2,λx d=>?_,λl p=>p,List.nodup_nil,λx d=>absurd d dt⟩ ((eT g).mono λi _ q=>by cases q) n;rw[h2.has x (h2.ok x d)];simp[d]
include he in
theorem vR(hg:o.guard=I)(it:oN)(n:o.op=Op.next it false)(b r:Nat)(ds:List κ)(f:κ->Value)(done:List κ)(hit:a.eval it=aq (Z ⟨r,0,I⟩))(h:kY S w b r ds f done)
  (j:(∀x∈ds,x∈done)->oD af ops Q rest (a.put o.dst (aB #[ai false])) w)
  (k:∀x w',x∈ds->x∉done->kY S w' b r ds f (done++[x])->w'.rangeLeft b r<w.rangeLeft b r->cS (One r) w w'->w'.heap.size=w.heap.size->(Instr.entry (aq (Z ⟨r,0,I⟩))).run af w'=.ok (aB #[S.enc x,f x]) w'->oD af ops Q rest (a.put o.dst (aB #[ai true,S.enc x,f x])) w'):oD af ops Q (o::rest) a w:=by
 obtain⟨D,left,T,h1,h2,h3,h4,h5,h6⟩:=h;refine oB hg λK' p=>?_;unfold Oper.wp;rcases h1.next S.K o.type with⟨h0,B,d⟩ | ⟨key,v,kl,y,w',N,g,s,P,E,d,t,F,G,H,u⟩
 ·simp[execOp,n,hit,d,Result.andThen];refine p _ _ (j λx i=>?_);have:=h3 x i;rw[B]at this;simpa using this.symm
 ·obtain⟨x,i,rfl⟩:=h2.only kl (h4 kl s);have L:=S.K.inj g (S.key x (h2.ok x i));subst L;have M:f x=v:=by
   simp only[RV,Option.some.injEq]at P;have:=E (.held v);rw[h2.at_ x i]at this;rw[<-P]at this;simpa using this
  rw[<-M]at d u;have A:x∉done:=by have:=h3 x i;rw[s]at this;simpa using this.symm
  simp[execOp,n,hit,d,Result.andThen];refine p _ _ (k x w' i A ⟨D,_,_,t,h2,λm C=>?_,λl B=>h4 l (by simp only[Bool.and_eq_true]at B;exact B.1),?_,?_⟩ ?_ (tH G) H u)
  ·rw[h3 m C];by_cases e:m=x
   ·subst e;rw[WideAt.sameKey_self (S.K.key g)];simp
   ·have:(S.kl m).sameKey (S.kl x)=false:=Maps.sameKey_ne λq=>e (Keys.inj he (h2.ok m C) (h2.ok x i) q);rw[this];simp[e]
  ·exact jj.2 ⟨h5,dt,λa U c R=>by simp at R;subst R;exactλe=>A (e ▸ U)⟩
  ·intro m C;rcases bt.1 C with q|q
   ·exact h6 m q
   ·simp at q;subst q;exact i
  ·rw[t.left_eq,h1.left_eq];exact F
end
end
end
section
open Go.Maps (Keyed)
abbrev pv(x:Int×Int):Value:=cg #[J V x.1,J V x.2]
def Gi(x:Int×Int):Prop:=(dU V x.1).wf=true/\(dU V x.2).wf=true
def Qy(x:Int×Int):Lit:=.string (keyBytes [.int .i64 x.1,.int .i64 x.2])
def laid:laidOutB af=true:=cC
def PK:af.cellsOf 3=1:=cC
def OX:∃m,af.types.size=m+1:=⟨af.types.size-1,by have:0<af.types.size:=of_decide_eq_true cC;omega⟩
def keyOf_pair{k:TypeId}{b:Array Field}(hu:af.underlying k=Z (.struct b))(a:b.toList.map (λf=>(f.type,f.offset))=[(3,0),(3,1)])(d:b.all (·.name != "_")=true)(e:af.keyType k=true)(c:af.cellsOf k=2)
  (x:Int×Int) (h:Gi x):keyOf af k (pv x)=Z (Qy x):=by
 obtain⟨m,hm⟩:=OX;obtain⟨h1,h2⟩:=h;unfold keyOf;simp only[hu];rw[if_pos (by simp[e,Value.formed,hu,c]),hm];unfold Program.keyLits;simp only[hu,gW];rw[if_pos ⟨by rw[c];rfl,d⟩];obtain⟨f0,f1,he⟩:∃f0 f1,b.toList=[f0,f1]:=by
  match g:b.toList,a with
  |[f0,f1],_=>exact⟨f0,f1,rfl⟩
  |[],a=>simp at a
  |[_],a=>simp at a
  |_::_::_::_,a=>simp at a
 rw[he]at a ⊢;simp only[eV,jk,List.cons.injEq,Prod.mk.injEq,and_true]at a;obtain⟨⟨a1,a2⟩,b1,b2⟩:=a;rw[List.mapM_cons,List.mapM_cons,List.mapM_nil,a1,a2,b1,b2];simp[PK,Program.keyLits,underlying3,h1,h2,Qy]
def FX(x y:Int×Int)(h:pv x=pv y):x=y:=by
 simp at h;exact Prod.ext h.1 h.2
def Qx:Keyed af 40:=Keyed.of_law (Bj laid (m:=2) z (of_decide_eq_true cC) cC cC)
def Qw:Keyed af 91:=Keyed.of_law (Bj laid (m:=2) z (of_decide_eq_true cC) cC cC)
def Pz:Keyed af 210:=Keyed.of_law (Bj laid (m:=2) z (of_decide_eq_true cC) cC cC)
def Pt:∃a,af.underlying 40=Z (.struct a)/\a.toList.map (λf=>(f.type,f.offset))=[(3,0),(3,1)]/\a.all (·.name != "_")=true:=⟨_,underlying40,cC,cC⟩
def Ps:∃a,af.underlying 91=Z (.struct a)/\a.toList.map (λf=>(f.type,f.offset))=[(3,0),(3,1)]/\a.all (·.name != "_")=true:=⟨_,underlying91,cC,cC⟩
def NJ:∃a,af.underlying 210=Z (.struct a)/\a.toList.map (λf=>(f.type,f.offset))=[(3,0),(3,1)]/\a.all (·.name != "_")=true:=⟨_,underlying210,cC,cC⟩
def KW:Keys (Int×Int):=⟨40,Qx,pv,Qy,Gi,by
 obtain⟨a,h1,h2,h3⟩:=Pt
 exact keyOf_pair h1 h2 h3 cC cC⟩
def KO:Keys (Int×Int):=⟨91,Qw,pv,Qy,Gi,by
 obtain⟨a,h1,h2,h3⟩:=Ps
 exact keyOf_pair h1 h2 h3 cC cC⟩
def KB:Keys (Int×Int):=⟨210,Pz,pv,Qy,Gi,by
 obtain⟨a,h1,h2,h3⟩:=NJ
 exact keyOf_pair h1 h2 h3 cC cC⟩
def KI:Keys Int:=⟨3,Go.Maps.int_keyed underlying3,J V,dU V,λx=>(dU V x).wf=true,λx h=>Go.Maps.keyOf_int_mk underlying3 h⟩
def KU:Keys Int:=⟨41,Go.Maps.int_keyed underlying41,J ar,dU ar,λx=>(dU ar x).wf=true,λx h=>Go.Maps.keyOf_int_mk underlying41 h⟩
def rB(x y:Int)(h:KI.enc x=KI.enc y):x=y:=by simpa[KI]using h
def Hz(x y:Int)(h:KU.enc x=KU.enc y):x=y:=by simpa[KU]using h
def Nc(x y:Int×Int)(h:KW.enc x=KW.enc y):x=y:=FX x y h
def xM(x y:Int×Int)(h:KO.enc x=KO.enc y):x=y:=FX x y h
def ue(x y:Int×Int)(h:KB.enc x=KB.enc y):x=y:=FX x y h
def Ig{n:Int}(h:-1000000000000<=n)(a:n<=1000000000000):(dU V n).wf=true:=by
 simp[Lit.wf,jI,jJ,fR,gM];omega
def ir{x:Int×Int}(h:-1000000000000<=x.1/\x.1<=1000000000000)(a:-1000000000000<=x.2/\x.2<=1000000000000):Gi x:=⟨Ig h.1 h.2,Ig a.1 a.2⟩
end
section
def nf{P:jB}(w:aw)(t e ty:TypeId)(a:Value)(ht:P.underlying t=Z (.slice e))(j:∀w,(ja e).run P w=.ok a w)(b off c:Nat)(te:TypeId)(dx:Array Value)(k:aK w b te dx)(l:off+a.cells.size<=dx.size)(h1:∀v∈a.cells.toList,v.oneCell'=true) :
  (lD #[t] ty #[ae (Z ⟨b,off,I⟩) 1 c]).run P w=.ok (aB #[]) (w.setRow b (de dx off a.cells.toList)):=by
 have g:(fM a.cells 1).toList=a.cells.toList:=by
  simp only[fM];apply List.ext_getElem
  ·simp
  ·intro i m h;simp only[Array.length_toList]at h;simp[fZ h,getElem!_pos a.cells i h]
 have d:=oF P b off te a.cells.toList 0 dx w k (by simpa using l) h1;rw[iw]at d;have f:(storeCells ⟨b,off,I⟩ a.cells.toList).run P w=.ok () (w.setRow b (de dx off a.cells.toList)):=d;simp[lD,oE ht,j,g,f]
def eB{w:aw}{g pl:Nat}{t te:TypeId}{cs dx S:Array Value}(h:aK w g t cs)(hp:aK w pl te dx)(a:g≠pl):aK (w.setRow pl S) g t cs:=h.dW (fW w pl S) a
def gm{w:aw}{pl:Nat}{te:TypeId}{dx S:Array Value}(hp:aK w pl te dx):aK (w.setRow pl S) pl te S:=kQ w pl dx S te (0,0) hp
def ph:Array Value->Nat->List Value->Array Value
 |dx,_,[]=>dx
 |dx,off,v::vs=>ph (dx.setIfInBounds off v) (off+1) vs
def AX:∀(vs:List Value) (dx:Array Value) (off:Nat),(ph dx off vs).size=dx.size
 |[],_,_=>rfl
 |v::vs,dx,off=>by rw[ph,AX vs,dh]
def uv:∀(vs:List Value) (dx:Array Value) (off j:Nat),off+vs.length<=dx.size->(ph dx off vs)[j]? = if off<=j/\j<off+vs.length then vs[j-off]? else dx[j]?
 |[],dx,off,j,_=>by rw[ph,if_neg dt]
 |v::vs,dx,off,j,h=>by
  rw[List.length_cons]at h;rw[ph,uv vs _ _ _ (by rw[dh];omega)];by_cases h1:j=off
  ·subst h1;rw[if_neg z,if_pos ⟨aj _,dt⟩,Array.getElem?_setIfInBounds_self_of_lt z,qB];rfl
  ·rw[Array.getElem?_setIfInBounds_ne z];by_cases h2:off+1<=j/\j<off+1+vs.length
   ·rw[if_pos h2,if_pos ⟨z,dZ⟩,show j-off=(j-(off+1))+1 from z,List.getElem?_cons_succ]
   ·rw[if_neg h2,if_neg dZ]
def mx{dx:Array Value}{off:Nat}{vs:List Value}(h:off+vs.length<=dx.size):ph dx off vs=de dx off vs:=by
 apply Array.ext_getElem?;intro j;rw[uv _ _ _ _ h];split
 ·rename_i q;have:=qG h (j:=j-off) z;rw[show off+(j-off)=j from by omega]at this;exact this.symm
 ·rename_i q;exact(kT h z).symm
def du{w w':aw}{base:Nat}{e:TypeId}{size n:Nat}{v:Value}{xs:List Value}{F:Nat->Prop}(h:w.ownsRow base e size v n xs)(u:cS F w w')(hF:∀i,v.ownBlock=Z i->¬F i):w'.ownsRow base e size v n xs:=by
 obtain⟨h1,h2⟩:=h;refine⟨h1,h2.imp id ?_⟩;rintro⟨g,cap,dx,a,b,c,d⟩;have f:aK w g e dx:=c;exact⟨g,cap,dx,a,b,f.dW u (hF g (by subst a;rfl)),d⟩
def fB(w:aw)(t:TypeId)(cs:Array Value):∀j u,cs.toList[j]? = Z u->(w.alloc (.cells cs t)).cell? ((⟨w.heap.size,0,I⟩:Addr).add j)=Z u:=by
 intro j u hu;have e:(⟨w.heap.size,0,I⟩:Addr).add j=⟨w.heap.size,j,I⟩:=by unfold Addr.add;split<;>simp_all
 rw[e,(aK.new w t cs).cell];simpa using hu
def RP(k cap first:Nat)(jt:Array Value)(q:List (List Value)):Prop:=∀i x,q[i]? = Z x->∀j,j<k->jt[((first+i) % cap)*k+j]? = x[j]?
def Lu{first cap i:Nat}(a:first<cap)(h0:0<i)(hi:i<cap):(first+i) % cap≠first:=by
 rcases iL (first+i) cap with h|h
 ·rw[fZ h];omega
 ·rw[rD h,fZ z];omega
def Jo{first cap i j:Nat}(b:first<cap)(c:j<i)(hi:i<cap):(first+j) % cap≠(first+i) % cap:=by
 rcases iL (first+i) cap with h|h
 ·rw[fZ h,fZ z];omega
 ·rw[rD h,fZ (z:first+i-cap<cap)];rcases iL (first+j) cap with a|a
  ·rw[fZ a];omega
  ·rw[rD a,fZ z];omega
def BP{p r k j:Nat}(h:p≠r)(a:j<k):p*k+j<r*k\/r*k+k<=p*k+j:=by
 rcases Nat.lt_or_gt_of_ne h with q|q
 ·left;have:(p+1)*k<=r*k:=kN k q;rw[jG]at this;omega
 ·right;have:(r+1)*k<=p*k:=kN k q;rw[jG]at this;omega
def ll{p cap k:Nat}(h:p<cap):p*k+k<=cap*k:=by
 have:(p+1)*k<=cap*k:=kN k h;rw[jG]at this;omega
def RP.take{k cap first:Nat}{jt:Array Value}{x:List Value}{q:List (List Value)}(h:RP k cap first jt (x::q))(a:first<cap)(d:q.length<cap)(f:jt.size=cap*k){zs:List Value}(c:zs.length=k) :
  RP k cap ((first+1) % cap) (de jt (first*k) zs) q:=by
 intro i y hy j b;have hi:i<q.length:=(aS.1 hy).1;have e:((first+1) % cap+i) % cap=(first+(i+1)) % cap:=by rw[Nat.mod_add_mod];congr 1;omega
 have hr:=ll (k:=k) a;rw[e,kT z (by rw[c];exact BP (Lu a z z) b)];exact h (i+1) y (by simpa using hy) j b
def RP.push{k cap first:Nat}{jt:Array Value}{x:List Value}{q:List (List Value)}(h:RP k cap first jt q)(b:first<cap)(c:q.length<cap)(e:jt.size=cap*k)(d:x.length=k) :
  RP k cap first (de jt (((first+q.length) % cap)*k) x) (q++[x]):=by
 intro i y hy j a;have hr:=ll (k:=k) (Nat.mod_lt (first+q.length) (z:0<cap));rcases Nat.lt_trichotomy i q.length with hi|hi|hi
 ·rw[kT z (by rw[d];exact BP (Jo b hi c) a)];rw[dk hi]at hy;exact h i y hy j a
 ·subst hi;rw[dG (aj _),qB]at hy;simp at hy;subst hy;rw[qG z z]
 ·rw[fx dZ]at hy;cases hy
structure RingM(tr te:TypeId)(k:Nat)(w:aw)(g pl cap:Nat)(q:List (List Value)):Prop where
 ex:∃(first:Nat) (jt:Array Value) (n4 n5 n6 n7:Int),first<cap/\aK w g tr #[ae (Z ⟨pl,0,I⟩) cap cap,J V first,J V q.length,ai false,J V n4,J V n5,J V n6,J V n7]/\aK w pl te jt/\jt.size=cap*k/\RP k cap first jt q
 le:q.length<=cap
 one:1<=cap
 aT:cap<=8
 wf:∀x∈q,x.length=k/\∀u∈x,u.oneCell'=true
def jK(g pl:Nat):Nat->Prop:=λi=>i=g\/i=pl
section
variable {tr te:TypeId} {k:Nat} {w w':aw} {g pl cap:Nat} {q:List (List Value)}
def RingM.cw(h:RingM tr te k w g pl cap q):∃cs jt,aK w g tr cs/\aK w pl te jt:=by obtain⟨first,jt,n4,n5,n6,n7,_,h1,h2,_⟩:=h.ex;exact⟨_,_,h1,h2⟩
def RingM.lt(h:RingM tr te k w g pl cap q):g<w.heap.size/\pl<w.heap.size:=by obtain⟨_,_,h1,h2⟩:=h.cw;exact⟨h1.lt,h2.lt⟩
def RingM.typed(h:RingM tr te k w g pl cap q):Typed w (jK g pl) [tr,te]:=by
 obtain⟨cs,jt,h1,h2⟩:=h.cw;rintro i (rfl|rfl)
 ·exact⟨tr,cs,dt,h1⟩
 ·exact⟨te,jt,dt,h2⟩
def RingM.dW{F:Nat->Prop}(h:RingM tr te k w g pl cap q)(u:cS F w w')(hg:¬F g)(hp:¬F pl):RingM tr te k w' g pl cap q:=by
 obtain⟨first,jt,n4,n5,n6,n7,a,h1,h2,h3⟩:=h.ex;exact⟨⟨first,jt,n4,n5,n6,n7,a,h1.dW u hg,h2.dW u hp,h3⟩,h.le,h.one,h.aT,h.wf⟩
def RingM.drew(h:RingM tr te k w g pl cap q):RingM tr te k w.drew g pl cap q:=h.dW (F:=cr) (cS.refl _ w).drew id id
def RingM.alloc(h:RingM tr te k w g pl cap q)(o:Obj):RingM tr te k (w.alloc o) g pl cap q:=h.dW (F:=cr) ((cS.refl _ w).alloc o) id id
def RingM.below(h:RingM tr te k w g pl cap q)(u:aC w w'):RingM tr te k w' g pl cap q:=h.dW (F:=cr) (.bn u) id id
end
end
section
variable {P:jB} (w:aw)
def zh(base:Nat)(t ty e:TypeId)(i:pO)(p:Value)(size bytes:Nat)(ht:P.underlying t=Z (.slice e))(hi:P.info? e=Z i)(D:i.zero=Z p)
  (k:i.size=size) (q:i.bytes=bytes) (E:p.cells.size=size) (F:0<size)
  (v:Value) (n:Nat) (xs:List Value) (h:w.ownsRow base e size v n xs)
  (a:Addr) (m c:Nat) (iX:List Value) (r:iX.length=m*size) (b:∀j u,iX[j]? = Z u->w.cell? (a.add j)=Z u) (h1:∀u∈iX,u.oneCell'=true)
  (s:n+m<=maxLen) (d:(n+m)*bytes<=140737488355328) (o:base<=w.heap.size) :
  ∃x w',(qe #[t,t] ty #[v,ae (Z a) m c]).run P w=.ok x w'/\w'.ownsRow base e size x (n+m) (xs++iX)/\w.grownBy w' v.ownBlock/\∀j,x.ownBlock=Z j->v.ownBlock=Z j\/w.heap.size<=j:=by
 obtain⟨x,w',hr,h2,h3,h4⟩:=run_append_own (P:=P) w base t ty e i p size bytes ht hi D k q E F v n xs h a m c iX r b h1 s d o;refine⟨x,w',hr,h2,h3,?_⟩;subst k;subst q
 have B:n+m<=9223372036854775807:=by simp only[maxLen]at s;omega
 intro j C;rcases h.2 with⟨rfl,rfl⟩ | ⟨g,cap,dx,rfl,L,hg,M,N,G,H⟩
 ·by_cases hm:m=0
  ·have:=(h4.2 ⟨rfl,hm⟩);subst this;cases C
  ·have f:=run_append_nil (P:=P) w t ty e i p ht hi D a m c iX r b z z (by have Q:=d;simp only[cO]at Q;omega);rw[hr]at f;injection f with y K
   subst y;right;simp[eR]at C;omega
 ·by_cases l:n+m<=cap
  ·have A:n*i.size+iX.length<=dx.size:=by rw[r,G,<-jG];exact kN _ l
   have f:=run_append_room (P:=P) w t ty e i ht hi g n cap dx hg a m c iX r b h1 l A;rw[hr]at f;injection f with y K
   subst y;left;exact C
  ·have bD:∀j u,xs[j]? = Z u->w.cell? ((⟨g,0,I⟩:Addr).add j)=Z u:=h.cells (g:=g) rfl;have f:=run_append_grow (P:=P) w t ty e i p ht hi D ⟨g,0,I⟩ n cap xs h.1 bD a m c iX r b z z (rG z d);rw[hr]at f;injection f with y K
   subst y;right;simp[eR]at C;omega
def vj{o:mJ}{a:Act}{K:Act->aw->Prop}{Q:Exit->Act->aw->Prop}(s x:oN)(t:TypeId)
  (C:o.op=.call { callee:=.builtin .append,args:=#[s,x],argTypes:=#[t,t] })
  (base:Nat) (e:TypeId) (i:pO) (p:Value) (size bytes:Nat) (ht:P.underlying t=Z (.slice e)) (hi:P.info? e=Z i) (D:i.zero=Z p)
  (d:i.size=size) (q:i.bytes=bytes) (r:p.cells.size=size) (y:0<size)
  (v:Value) (n:Nat) (xs:List Value) (E:a.eval s=v) (k:w.ownsRow base e size v n xs)
  (A:Addr) (m c:Nat) (iX:List Value) (F:a.eval x=ae (Z A) m c) (G:iX.length=m*size) (f:∀j u,iX[j]? = Z u->w.cell? (A.add j)=Z u) (h1:∀u∈iX,u.oneCell'=true)
  (B:n+m<=maxLen) (b:(n+m)*bytes<=140737488355328) (g:base<=w.heap.size)
  (h:∀l w',w'.ownsRow base e size l (n+m) (xs++iX)->w.grownBy w' v.ownBlock->(∀j,l.ownBlock=Z j->v.ownBlock=Z j\/w.heap.size<=j)->K (a.put o.dst l) w'):o.wp P a w K Q:=by
 obtain⟨l,w',hr,h2,h3,h4⟩:=zh (P:=P) w base t o.type e i p size bytes ht hi D d q r y v n xs k A m c iX G f h1 B b g;unfold Oper.wp execOp;simp only[C,resolve,invoke,builtin,Sem.run_bind,Sem.run_pure,Result.andThen_ok,List.map_toArray,eV,jk,E,F,hr];exact h l w' h2 h3 h4
def dV{ops:Array mJ}{rest:List mJ}{o:mJ}{a:Act}{Q:Exit->Act->aw->Prop}(p:o.guard=I)(s x:oN)(t:TypeId)
  (D:o.op=.call { callee:=.builtin .append,args:=#[s,x],argTypes:=#[t,t] })
  (base:Nat) (e:TypeId) (i:pO) (q:Value) (size bytes:Nat) (ht:P.underlying t=Z (.slice e)) (hi:P.info? e=Z i) (E:i.zero=Z q)
  (d:i.size=size) (r:i.bytes=bytes) (y:q.cells.size=size) (A:0<size)
  (v:Value) (n:Nat) (xs:List Value) (F:a.eval s=v) (k:w.ownsRow base e size v n xs)
  (B:Addr) (m c:Nat) (iX:List Value) (G:a.eval x=ae (Z B) m c) (H:iX.length=m*size) (f:∀j u,iX[j]? = Z u->w.cell? (B.add j)=Z u) (h1:∀u∈iX,u.oneCell'=true)
  (C:n+m<=maxLen) (b:(n+m)*bytes<=140737488355328) (g:base<=w.heap.size)
  (h:∀l w',w'.ownsRow base e size l (n+m) (xs++iX)->w.grownBy w' v.ownBlock->(∀j,l.ownBlock=Z j->v.ownBlock=Z j\/w.heap.size<=j)->oD P ops Q rest (a.put o.dst l) w'):oD P ops Q (o::rest) a w:=
 oB p λ_ K=>vj w s x t D base e i q size bytes ht hi E d r y A v n xs F k B m c iX G H f h1 C b g λl w' h2 h3 h4=>K _ _ (h l w' h2 h3 h4)
def lT{ops:Array mJ}{o:mJ}{a:Act}{K:Act->aw->Prop}{Q:Exit->Act->aw->Prop}{E:Prop}
  (hg:o.guard=I) (s x:oN) (t:TypeId) (C:o.op=.call { callee:=.builtin .append,args:=#[s,x],argTypes:=#[t,t] })
  (base:Nat) (e:TypeId) (i:pO) (l:Value) (size bytes:Nat) (ht:P.underlying t=Z (.slice e)) (hi:P.info? e=Z i) (D:i.zero=Z l)
  (d:i.size=size) (p:i.bytes=bytes) (q:l.cells.size=size) (r:0<size)
  (v:Value) (n:Nat) (xs:List Value) (F:a.eval s=v) (k:w.ownsRow base e size v n xs)
  (y:Addr) (m c:Nat) (iX:List Value) (G:a.eval x=ae (Z y) m c) (H:iX.length=m*size) (f:∀j u,iX[j]? = Z u->w.cell? (y.add j)=Z u) (h1:∀u∈iX,u.oneCell'=true)
  (A:n+m<=maxLen) (b:(n+m)*bytes<=140737488355328) (g:base<=w.heap.size)
  (h:∀B w',w'.ownsRow base e size B (n+m) (xs++iX)->w.grownBy w' v.ownBlock->(∀j,B.ownBlock=Z j->v.ownBlock=Z j\/w.heap.size<=j)->K (a.put o.dst B) w') :
  if ig o (sC ops a.tmps)=true then Oper.wp P o a w K Q else E:=by
 have hw:ig o (sC ops a.tmps)=true:=by simp[ig,hg]
 rw[if_pos hw];exact vj w s x t C base e i l size bytes ht hi D d p q r v n xs F k y m c iX G H f h1 A b g h
end
abbrev qZ:Value:=cg #[J V 0,J V 0,J V 0]
def JV(w:aw):(ja 326).run af w=.ok qZ w:=cC
def xw:(af.info? 326).map (λi=>(i.zero,i.size,i.bytes))=Z (Z qZ,3,24):=cC
def MB:∀v∈qZ.cells.toList,v.oneCell'=true:=by intro u hu;simp[gW]at hu;subst hu;rfl
def wP{g:Nat}{t:TypeId}:∀(vs:List Value) (off:Nat) {w:aw} {cs:Array Value},aK w g t cs->aK (w.setCells g off vs) g t (ph cs off vs)
 |[],_,_,_,h=>h
 |v::vs,off,w,cs,h=>wP vs (off+1) (h.bC off v)
def vS{g:Nat}:∀(vs:List Value) (off:Nat) (w:aw),cS (One g) w (w.setCells g off vs)
 |[],_,w=>cS.refl _ w
 |v::vs,off,w=>((cS.refl (One g) w).setCell (p:=⟨g,off,I⟩) (.inl rfl) v).trans (vS vs (off+1) _)
def uo{P:jB}{ops:Array mJ}{o:mJ}{a:Act}{w:aw}{K:Act->aw->Prop}{Q:Exit->Act->aw->Prop}{E:Prop}
  (hg:o.guard=I) (d x:oN) (c e:TypeId) (b:o.op=Op.call { callee:=Callee.builtin Builtin.copy,args:=#[d,x],argTypes:=#[c,e] })
  (v u:Value) (g:a.eval d=v) (h:a.eval x=u) {f:Value} {w':aw} (hr:(mj #[c,e] o.type #[v,u]).run P w=.ok f w') (i:K (a.put o.dst f) w') :
  if ig o (sC ops a.tmps)=true then Oper.wp P o a w K Q else E:=by
 have hw:ig o (sC ops a.tmps)=true:=by simp[ig,hg]
 rw[if_pos hw];unfold Oper.wp;simp[execOp,b,resolve,invoke,builtin,g,h,hr,Result.andThen];exact i
def tK{P:jB}(w:aw)(q u ty elem:TypeId)(k g o b d:Nat)(a:Addr)(c e m:Nat)(dx:Array Value)(t:TypeId)(cs:List Value)
  (hu:P.underlying q=Z (.slice elem)) (r:(P.info? elem).map (·.size)=Z k) (hg:aK w g t dx) (hm:Nat.min c b=m) (x:cs.length=m*k)
  (f:∀j v,cs[j]? = Z v->w.cell? (a.add j)=Z v) (h:o+cs.length<=dx.size) (h1:∀v∈cs,v.oneCell'=true) :
  (mj #[q,u] ty #[ae (Z ⟨g,o,I⟩) b d,ae (Z a) c e]).run P w=.ok (goInt m) (w.setRow g (de dx o cs)):=by
 have s:=run_loadCells_list (P:=P) w a cs f;have l:=oF P g o t cs 0 dx w hg (by simpa using h) h1;rw[iw]at l;have n:(storeCells ⟨g,o,I⟩ cs).run P w=.ok () (w.setRow g (de dx o cs)):=l;rw[x]at s;cases p:P.info? elem with
 |none=>simp[p]at r
 |some i =>
  have hi:i.size=k:=by simpa[p]using r
  simp[mj,oE hu,Builtin.lenOf,Builtin.firstCells,sizeOf,typeInfo,p,hi,hm,s,n]
def uV:(af.info? 326).map (·.size)=Z 3:=cC
def EA(n:Nat)(v:Value)(a xs:List Value)(w:aw)(E:a.length=3)(h:w.ownsRow 0 326 3 v (n+1) (a++xs))(h1:∀u∈xs,u.oneCell'=true) :
  aF af 220 #[v,J V 0,J V 1] w λe w'=>∃C,e=av C/\w'.ownsRow 0 326 3 C n xs/\cS (λi=>v.ownBlock=Z i) w w'/\C.ownBlock=v.ownBlock:=by
 obtain⟨i0,hi,Q,D,R⟩:=cY xw;obtain⟨F,h2⟩:=h;rcases h2 with⟨_,h0⟩ | ⟨g,cap,dx,rfl,_,f,S,p,q,r⟩
 ·omega
 have f:aK w g 326 dx:=f;have k:xs.length=n*3:=by simp[E]at F;omega
 have s:∀j u,xs[j]? = Z u->dx[3+j]? = Z u:=λj u x=>by
  have T:=(aS.1 x).1;have e:(dx.toList.take ((n+1)*3))[3+j]? = Z u:=by rw[r,dG z,E,show 3+j-3=j from by omega];exact x
  rw[dp z]at e;simpa using e
 obtain⟨A,hA,y⟩:∃A:Addr,(if cap=1 then Z (⟨g,0,I⟩:Addr) else Z ⟨g,3,I⟩)=Z A/\Hd (∀t u,xs[t]? = Z u->w.drew.cell? (A.add t)=Z u):=by
  by_cases G:cap=1
  ·refine⟨⟨g,0,I⟩,by simp[G],λt u hu=>?_⟩;have h0:xs.length=0:=z;rw[cU.1 h0]at hu;simp at hu
  ·refine⟨⟨g,3,I⟩,by simp[G],λt u hu=>?_⟩;rw[Addr.add_lit];exact(f.drew.cell _).trans (s t u hu)
 have s3:Hd (∀t,t<xs.length->(w.drew.cell? ⟨g,0+0*3+t,I⟩).isSome=true/\w.drew.frozen? ⟨g,0+0*3+t,I⟩=false):=by
  intro t ht;rw[show 0+0*3+t=t from z,f.drew.cell,Array.getElem?_eq_getElem z];exact⟨rfl,f.drew.frozen _⟩
 have s1:Hd (xs.length=n*3):=k;have s2:Hd (∀u∈xs,u.oneCell'=true):=h1;have l:aK (w.drew.setCells g (0+0*3) xs) g 326 (ph dx 0 xs):=wP xs 0 f.drew;have b:(ph dx 0 xs).size=cap*3:=by rw[AX];exact q
 have m:∀ty c,(lD #[196] ty #[ae (Z ⟨g,n*3,I⟩) 1 c]).run af (w.drew.setCells g (0+0*3) xs)=.ok (aB #[]) ((w.drew.setCells g (0+0*3) xs).setRow g (de (ph dx 0 xs) (n*3) qZ.cells.toList)):=
  λty c=>nf _ 196 326 ty qZ underlying196 JV g (n*3) c 326 _ l (by rw[b];simp[gW];omega) MB
 have d:(de (ph dx 0 xs) (n*3) qZ.cells.toList).toList.take (n*3)=xs:=by
  apply sB;intro j;by_cases x:j<n*3
  ·rw[dp x,gj,kT (by simp[gW];omega) (.inl x),uv _ _ _ _ z,if_pos ⟨z,z⟩,Nat.sub_zero]
  ·rw[fx dZ,fx z]
 have B:(de (ph dx 0 xs) (n*3) qZ.cells.toList).size=cap*3:=by rw[gU (by rw[b];simp[gW];omega)];exact b
 have u1:=((cS.refl (One g) w).drew.trans (vS xs (0+0*3) w.drew)).trans (fW (w.drew.setCells g (0+0*3) xs) g (de (ph dx 0 xs) (n*3) qZ.cells.toList));have H:=kQ (w.drew.setCells g (0+0*3) xs) g (ph dx 0 xs) (de (ph dx 0 xs) (n*3) qZ.cells.toList) 326 (0,0) l;obtain⟨K,L⟩:=bu (show cS (λi=>(ae (Z ⟨g,0,I⟩) (n+1) cap).ownBlock=Z i) w _ from u1.mono (λi _ hi=>by rw[show i=g from hi];rfl)) (show World.ownsRow _ 0 326 3 (ae (Z ⟨g,0,I⟩) n cap) n xs from⟨k,.inr ⟨g,cap,_,rfl,gG _,H,z,p,B,d⟩⟩);obtain⟨W1,o⟩:=dH (w.drew.setCells g (0+0*3) xs);rw[<-o]at m K L;have U:=au o;have W:1<=cap:=z;have M:cap<=9223372036854775807:=by unfold maxLen at p;omega
 have N:n+1-1=n:=z;have X:=au m;have Y:¬(cap=n):=z;have Tf:(1:Int)<=(n:Int)+1:=z;have Tg:(n:Int)<=(n:Int)+1:=z;clear o l b d B u1 H s f r F k q m;go_enter func220,ntmps220;go_wp2_with fail;go_region_law (refine step_append_room rfl (.tmp 22) (.tmp 25) 196 rfl 326 i0 3 underlying196 hi D g 0 0 cap (by simp[tG,aA]) A n (cap-1) xs (by simp[tG,aA]) s1.out y.out s2.out z s3.out ?_;rw[<-U.O]);have P:=X.O 0 (cap-n);go_wp2_with fail;go_ret;exact⟨_,rfl,L.O,K.O,rfl⟩
def AW{w:aw}{g:Nat}{t:TypeId}{cs:Array Value}(h:aK w g t cs):w.shape? g=Z (t,cs.size):=by unfold aK at h;simp[World.shape?,h]
def zy{w:aw}{g:Nat}{t:TypeId}{cs:Array Value}(h:aK w g t cs):∀j u,cs.toList[j]? = Z u->w.cell? ((⟨g,0,I⟩:Addr).add j)=Z u:=by
 intro j u hu;have e:(⟨g,0,I⟩:Addr).add j=⟨g,j,I⟩:=by unfold Addr.add;split<;>simp_all
 rw[e,h.cell];simpa using hu
def GA(n:Nat)(v:Value)(xs x:List Value)(l:Nat)(w:aw)(L:x.length=3)(h:w.ownsRow 0 326 3 v n xs)(S:n<=1000)(M:aK w l 326 x.toArray)(h1:∀u∈x,u.oneCell'=true) :
  aF af 235 #[v,J V n,ae (Z ⟨l,0,I⟩) 1 1] w λe w'=>∃d,e=av d/\w'.ownsRow 0 326 3 d (n+1) (xs++x)/\cS (λi=>v.ownBlock=Z i) w w'/\∀i,d.ownBlock=Z i->v.ownBlock=Z i\/w.heap.size<=i:=by
 obtain⟨i0,hi,m,p,r⟩:=cY xw;obtain⟨N,t,y,B⟩:=cA hi m p r;clear hi m p r;have key:∀A c,v=ae A n c->(A=I->c=0)->n<=c->c<=9223372036854775807->aF af 235 #[v,J V n,ae (Z ⟨l,0,I⟩) 1 1] w λe w'=>∃d,e=av d/\w'.ownsRow 0 326 3 d (n+1) (xs++x)/\w.grownBy w' v.ownBlock/\(∀j,d.ownBlock=Z j->v.ownBlock=Z j\/w.heap.size<=j):=by
  intro A c f a C D;subst f;have E:x.length=1*3:=L;have F:=zy M;rw[qk]at F;obtain⟨P,Q,H1,R⟩:=cA E F h1 h;clear L E F h1 M;cases A with
  |none =>
   obtain rfl:=a rfl;obtain rfl:n=0:=z;have c3:0+1<=maxLen:=ui;have c4:(0+1)*24<=140737488355328:=z;have c5:0<=w.heap.size:=gG _;obtain⟨G,H,K⟩:=bU c3 c4 c5;clear c3 c4 c5;go_enter func235,ntmps235;go_wp2_with (at_builtin;go_loud (refine dV _ rfl _ _ 196 rfl 0 326 i0 qZ 3 24 underlying196 N.O t.O y.O B.O rfl aR _ _ _ rfl R.O ⟨l,0,I⟩ 1 1 x rfl P.O Q.O H1.O G.O H.O K.O ?_));all_goals
    intro v5 w5 b g5 k;go_wp2_with fail;go_ret;exact⟨_,rfl,b,g5,k⟩
  |some A =>
   obtain⟨g,o,s⟩:=A;have c3:n+1<=maxLen:=ui;have c4:(n+1)*24<=140737488355328:=z;have c5:0<=w.heap.size:=gG _;obtain⟨G,H,K⟩:=bU c3 c4 c5;clear c3 c4 c5;go_enter func235,ntmps235;go_wp2_with (at_builtin;go_loud (refine dV _ rfl _ _ 196 rfl 0 326 i0 qZ 3 24 underlying196 N.O t.O y.O B.O rfl aR _ _ _ rfl R.O ⟨l,0,I⟩ 1 1 x rfl P.O Q.O H1.O G.O H.O K.O ?_));all_goals
    intro v5 w5 b g5 k;go_wp2_with fail;go_ret;exact⟨_,rfl,b,g5,k⟩
 obtain⟨A,c,f,a,C,D⟩:∃A c,v=ae A n c/\(A=I->c=0)/\n<=c/\c<=9223372036854775807:=by
  rcases h.2 with⟨rfl,rfl⟩ | ⟨g,cap,dx,rfl,_,_,a1,a2,_⟩
  ·exact⟨I,0,rfl,λ_=>rfl,aj _,z⟩
  ·exact⟨_,cap,rfl,λq=>(by cases q),a1,by unfold maxLen at a2;omega⟩
 refine(key A c f a C D).mono ?_;rintro e w' ⟨d,rfl,o,gr,fr⟩;exact⟨d,rfl,o,cS.wx gr,fr⟩
def Ei(n i:Nat)(g cap:Nat)(dx:Array Value)(xs x:List Value)(h:Nat)(w:aw)(W:x.length=3)(r:aK w g 326 dx)(b:dx.size=cap*3)(s:dx.toList.take (n*3)=xs)(t:xs.length=n*3)(hi:i<n)(l:n+1<=cap)(hn:n<=1000)(y:cap<=maxLen)
  (A:aK w h 326 x.toArray) (B:h≠g) (h1:∀u∈x,u.oneCell'=true) (h2:∀u∈xs,u.oneCell'=true) :
  aF af 235 #[ae (Z ⟨g,0,I⟩) n cap,J V i,ae (Z ⟨h,0,I⟩) 1 1] w λe w'=>e=av (ae (Z ⟨g,0,I⟩) (n+1) cap)/\w'.ownsRow 0 326 3 (ae (Z ⟨g,0,I⟩) (n+1) cap) (n+1) (xs.take (i*3)++x++xs.drop (i*3))/\cS (One g) w w':=by
 have m:∀j,j<n*3->dx[j]? = xs[j]?:=λj q=>by rw[<-s,dp q,gj]
 have a:(xs.drop (i*3)).length=(n-i)*3:=by rw[lz,t,<-Nat.sub_mul]
 have G:∀lb H,(callFunc 276 #[ae (Z ⟨h,0,I⟩) 1 1,ae (Z ⟨g,(i+1)*3,I⟩) lb H]).run af w=.ok (.value (ai false)) w:=λlb H=>by
  rw[run_callFunc_extern func276 cC cC cC (e:=Extern.SlicesOverlaps.overlaps #[196,196] #[4]) cC,
   Lib.run_overlaps_apart w 196 4 326 underlying196 3 (λw=>cC) ⟨h,0,I⟩ ⟨g,(i+1)*3,I⟩ 1 1 lb H B 326 326 3 (cap*3) (by rw[AW A];simp[W]) (by rw[AW r,b]) z (A.frozen 0) (A.frozen 3)]
  rfl
 have d:∀ty o K,(mj #[196,196] ty #[ae (Z ⟨g,(i+1)*3,I⟩) (n+1-(i+1)) o,ae (Z ⟨g,i*3,I⟩) (n+1-i) K]).run af w.drew=.ok (goInt ((n-i:Nat):Int)) (w.drew.setRow g (de dx ((i+1)*3) (xs.drop (i*3)))):=λty o K =>
  tK w.drew 196 196 ty 326 3 g ((i+1)*3) (n+1-(i+1)) o ⟨g,i*3,I⟩ (n+1-i) K (n-i) dx 326 (xs.drop (i*3)) underlying196 uV r.drew (by simp only[Nat.min_def];split<;>omega) a
   (λj v q=>by
     have X:=(aS.1 q).1
     rw[Addr.add_lit,r.drew.cell,m _ z]
     rwa [kt]at q) (by rw[a,b];omega) (λu hu=>h2 u (ga hu))
 have p:aK (w.drew.setRow g (de dx ((i+1)*3) (xs.drop (i*3)))) g 326 (de dx ((i+1)*3) (xs.drop (i*3))):=kQ w.drew g dx _ 326 (0,0) r.drew;have c:(de dx ((i+1)*3) (xs.drop (i*3))).size=cap*3:=by rw[gU (by rw[a,b];omega)];exact b
 have C:aK (w.drew.setRow g (de dx ((i+1)*3) (xs.drop (i*3)))) h 326 x.toArray:=A.drew.dW (fW _ _ _) B;have L:=zy C;rw[qk]at L;have f:∀ty o,(mj #[196,196] ty #[ae (Z ⟨g,i*3,I⟩) (n+1-i) o,ae (Z ⟨h,0,I⟩) 1 1]).run af (w.drew.setRow g (de dx ((i+1)*3) (xs.drop (i*3))))=.ok (goInt ((1:Nat):Int)) ((w.drew.setRow g (de dx ((i+1)*3) (xs.drop (i*3)))).setRow g (de (de dx ((i+1)*3) (xs.drop (i*3))) (i*3) x)):=λty o =>
  tK _ 196 196 ty 326 3 g (i*3) (n+1-i) o ⟨h,0,I⟩ 1 1 1 _ 326 x underlying196 uV p (by simp only[Nat.min_def];split<;>omega) z L (by rw[c];omega) h1
 have D:=kQ (w.drew.setRow g (de dx ((i+1)*3) (xs.drop (i*3)))) g _ (de (de dx ((i+1)*3) (xs.drop (i*3))) (i*3) x) 326 (0,0) p;have E:(de (de dx ((i+1)*3) (xs.drop (i*3))) (i*3) x).size=cap*3:=by rw[gU (by rw[c];omega)];exact c
 have k:(de (de dx ((i+1)*3) (xs.drop (i*3))) (i*3) x).toList.take ((n+1)*3)=xs.take (i*3)++x++xs.drop (i*3):=by
  apply sB;intro j;have ht:(xs.take (i*3)).length=i*3:=by rw[ix];omega
  by_cases q:j<(n+1)*3
  ·rw[dp q,gj,dL];by_cases j1:j<i*3
   ·rw[kT (by rw[c];omega) (.inl j1),kT (by rw[a,b];omega) (.inl z),m j z,dk z,dp j1]
   ·rw[dG z,ht];by_cases j2:j<i*3+3
    ·have:=qG (dx:=de dx ((i+1)*3) (xs.drop (i*3))) (off:=i*3) (vs:=x) (by rw[c];omega) (j:=j-i*3) z;rw[show i*3+(j-i*3)=j from by omega]at this;rw[this,dk z]
    ·rw[kT (by rw[c];omega) (.inr z),dG z];have:=qG (dx:=dx) (off:=(i+1)*3) (vs:=xs.drop (i*3)) (by rw[a,b];omega) (j:=j-(i+1)*3) (by rw[a];omega);rw[show(i+1)*3+(j-(i+1)*3)=j from by omega]at this;rw[this];congr 1;omega
  ·rw[fx dZ,fx (by simp[a];omega)]
 have hlen:(xs.take (i*3)++x++xs.drop (i*3)).length=(n+1)*3:=dZ;have P:=((cS.refl (One g) w).drew.trans (fW w.drew g (de dx ((i+1)*3) (xs.drop (i*3))))).trans (fW (w.drew.setRow g (de dx ((i+1)*3) (xs.drop (i*3)))) g (de (de dx ((i+1)*3) (xs.drop (i*3))) (i*3) x));obtain⟨Q,R⟩:=bu (show World.ownsRow _ 0 326 3 (ae (Z ⟨g,0,I⟩) (n+1) cap) (n+1) (xs.take (i*3)++x++xs.drop (i*3)) from⟨hlen,.inr ⟨g,cap,_,rfl,gG _,D,l,y,E,k⟩⟩) P;have Y:V.wrap ((i:Int)+1)=(i:Int)+1:=cz _ ⟨z,z⟩;have Tf:V.wrap ((n:Int)+1)=(n:Int)+1:=cz _ ⟨z,z⟩;have Tg:(0:Int)<=(i:Int)+1:=z;have Ti:((i:Int)+1).toNat=i+1:=z;have S:((n:Int)+1).toNat=n+1:=z;have Tj:¬(cap=i+1):=z;have Tk:(i:Int)<=(n:Int)+1:=z;have T:(i:Int)+1<=(n:Int)+1:=z;have Tl:¬(cap=i):=z;have Tm:¬((i:Int)=(n:Int)):=z;have Tn:¬((cap:Int)<(n:Int)+1):=z;have To:(i:Int)<=(n:Int):=z;have U:cap<=9223372036854775807:=by unfold maxLen at y;omega
 obtain⟨W1,F⟩:=dH (w.drew.setRow g (de dx ((i+1)*3) (xs.drop (i*3))));rw[<-F]at d f Q R;obtain⟨M,N⟩:=bu d f;clear F hlen k E D d f L C c p a m b s t r A P;go_enter func235,ntmps235;go_wp2_with (simp only[G]);go_region_law (refine uo rfl (.tmp 73) (.tmp 76) 196 196 rfl _ _ (by simp[tG,aA]) (by simp[tG,aA]) (M.O _ (cap-(i+1)) (cap-i)) ?_);have Tp:=N.O 3 (cap-i);go_wp2_with fail;go_ret;exact⟨rfl,Q.O,R.O⟩
def uj(k:Nat):(fM qZ.cells k).size=k*3:=by simp[fM,gW]
def Ek(n i:Nat)(g cap:Nat)(dx:Array Value)(xs x:List Value)(K:Nat)(w:aw)(hx:x.length=3)(Y:aK w g 326 dx)(Tf:dx.size=cap*3)(L:dx.toList.take (n*3)=xs)(Tg:xs.length=n*3)(hi:i<n)(Tw:n<=cap)(Ti:¬n+1<=cap)(hn:n<=1000)
  (hv:aK w K 326 x.toArray) (h1:∀u∈x,u.oneCell'=true) (h2:∀u∈xs,u.oneCell'=true) :
  aF af 235 #[ae (Z ⟨g,0,I⟩) n cap,J V i,ae (Z ⟨K,0,I⟩) 1 1] w λe w'=>∃G,e=av (ae (Z ⟨w.heap.size,0,I⟩) (n+1) G)/\w'.ownsRow 0 326 3 (ae (Z ⟨w.heap.size,0,I⟩) (n+1) G) (n+1) (xs.take (i*3)++x++xs.drop (i*3))/\cS cr w w':=by
 obtain rfl:cap=n:=z;obtain⟨i0,Tj,Tk,Tl,M⟩:=cY xw;have B:∀j,j<cap*3->dx[j]? = xs[j]?:=λj m=>by rw[<-L,dp m,gj]
 have b:(xs.drop (i*3)).length=(cap-i)*3:=by rw[lz,Tg,<-Nat.sub_mul]
 have c:(xs.take (i*3)).length=i*3:=by rw[ix];omega
 have eJ:(Builtin.firstCells i0.size i (ae (Z ⟨g,0,I⟩) i cap)).run af w.drew=.ok (xs.take (i*3)).toArray w.drew:=by
  rw[Tl];exact run_firstCells_some w.drew 3 i ⟨g,0,I⟩ i cap (xs.take (i*3)) c (λj v m=>by
   have Tm:=(aS.1 m).1
   rw[Addr.add_lit,cO,Y.drew.cell,B _ z]
   rwa [dp z]at m)
 have C:i+(cap+1-i)=cap+1:=z;have N:(cap:Int)+1-(i:Int)=((cap+1-i:Nat):Int):=z;obtain⟨G,hG⟩:=dH (grownCap w (cap+1) cap 326);obtain⟨a,f⟩:=dH ((xs.take (i*3)).toArray++fM qZ.cells (cap+1-i)++fM qZ.cells (G-(cap+1)):Array Value);have D:∀ty,(qe #[196,3] ty #[ae (Z ⟨g,0,I⟩) i cap,J V ((cap:Int)+1-(i:Int))]).run af w =
   .ok (ae (Z ⟨w.heap.size,0,I⟩) (cap+1) G) (w.drew.alloc (.cells a 326)):=λty=>by
  have h:=Lib.run_append_grow_zeros w 196 3 ty 326 i0 qZ V V underlying196 underlying3 Tj Tk (Z ⟨g,0,I⟩) i cap (xs.take (i*3)) eJ (cap+1-i) z z z z (by rw[M];omega) (by rw[M,C];exact rG z z);rw[C]at h;rw[N,f,hG];exact h
 have Tn:cap+1<=G:=by rw[hG];exact grownCap_ge w _ _ _
 have P:G<=maxLen:=by rw[hG];exact grownCap_le_maxLen w (cap+1) cap 326 ui
 have k:a.size=G*3:=by rw[f];simp only[Array.size_append,sv,uj,c];omega
 have Q:∀j,j<i*3->a[j]? = xs[j]?:=λj m=>by
  rw[f,mN (by simp only[Array.size_append,sv,uj,c];omega),mN (by simp only[sv,c];omega),List.getElem?_toArray,dp m]
 obtain⟨r,hr⟩:=dH w.heap.size;obtain⟨s,l⟩:=dH (w.drew.alloc (.cells a 326));have E:aK s r 326 a:=by rw[l];exact aK.newAt w.drew 326 a r (by rw[hr];rfl)
 have R:g≠r:=by have:=Y.lt;omega
 have To:K≠r:=by have:=hv.lt;omega
 have S:aK s g 326 dx:=by rw[l];exact Y.drew.alloc _
 have T:aK s K 326 x.toArray:=by rw[l];exact hv.drew.alloc _
 have u1:cS cr w s:=by rw[l];exact(cS.refl cr w).drew.alloc _
 have NW:=zy T;rw[qk]at NW;have o:∀ty F,(mj #[196,196] ty #[ae (Z ⟨r,i*3,I⟩) (cap+1-i) F,ae (Z ⟨K,0,I⟩) 1 1]).run af s=.ok (goInt ((1:Nat):Int)) (s.setRow r (de a (i*3) x)):=λty F =>
  tK s 196 196 ty 326 3 r (i*3) (cap+1-i) F ⟨K,0,I⟩ 1 1 1 a 326 x underlying196 uV E (by simp only[Nat.min_def];split<;>omega) z NW (by rw[k];omega) h1
 obtain⟨t,p⟩:=dH (s.setRow r (de a (i*3) x));have H:aK t r 326 (de a (i*3) x):=by rw[p];exact kQ s r a _ 326 (0,0) E
 have U:aK t g 326 dx:=by rw[p];exact S.dW (fW _ _ _) R
 have u2:cS cr w t:=by rw[p];exact u1.step (fW _ _ _) (λi q=>.inr (by rw[show i=r from q,hr];exact aj _))
 have d:(de a (i*3) x).size=G*3:=by rw[gU (by rw[k];omega)];exact k
 have y:∀ty F sc,(mj #[196,196] ty #[ae (Z ⟨r,(i+1)*3,I⟩) (cap+1-(i+1)) F,ae (Z ⟨g,i*3,I⟩) (cap-i) sc]).run af t.drew=.ok (goInt ((cap-i:Nat):Int)) (t.drew.setRow r (de (de a (i*3) x) ((i+1)*3) (xs.drop (i*3)))):=λty F sc =>
  tK t.drew 196 196 ty 326 3 r ((i+1)*3) (cap+1-(i+1)) F ⟨g,i*3,I⟩ (cap-i) sc (cap-i) _ 326 (xs.drop (i*3)) underlying196 uV H.drew (by simp only[Nat.min_def];split<;>omega) b
   (λj v m=>by
     have Tm:=(aS.1 m).1
     rw[Addr.add_lit,U.drew.cell,B _ z]
     rwa [kt]at m) (by rw[b,d];omega) (λu hu=>h2 u (ga hu))
 have W:=kQ t.drew r (de a (i*3) x) (de (de a (i*3) x) ((i+1)*3) (xs.drop (i*3))) 326 (0,0) H.drew;have X:(de (de a (i*3) x) ((i+1)*3) (xs.drop (i*3))).size=G*3:=by rw[gU (by rw[b,d];omega)];exact d
 have u3:cS cr w (t.drew.setRow r (de (de a (i*3) x) ((i+1)*3) (xs.drop (i*3)))):=u2.drew.step (fW _ _ _) (λi q=>.inr (by rw[show i=r from q,hr];exact aj _));have A:(de (de a (i*3) x) ((i+1)*3) (xs.drop (i*3))).toList.take ((cap+1)*3)=xs.take (i*3)++x++xs.drop (i*3):=by
  apply sB;intro j;by_cases m:j<(cap+1)*3
  ·rw[dp m,gj,dL];by_cases j1:j<i*3
   ·rw[kT (by rw[b,d];omega) (.inl z),kT (by rw[k];omega) (.inl j1),Q j j1,dk z,dp j1]
   ·rw[dG z,c];by_cases j2:j<i*3+3
    ·rw[kT (by rw[b,d];omega) (.inl z)];have:=qG (dx:=a) (off:=i*3) (vs:=x) (by rw[k];omega) (j:=j-i*3) z;rw[show i*3+(j-i*3)=j from by omega]at this;rw[this,dk z]
    ·rw[dG z];have:=qG (dx:=de a (i*3) x) (off:=(i+1)*3) (vs:=xs.drop (i*3)) (by rw[b,d];omega) (j:=j-(i+1)*3) (by rw[b];omega);rw[show(i+1)*3+(j-(i+1)*3)=j from by omega]at this;rw[this];congr 1;omega
  ·rw[fx dZ,fx (by simp[b,c];omega)]
 have hlen:(xs.take (i*3)++x++xs.drop (i*3)).length=(cap+1)*3:=dZ;obtain⟨HO,HU⟩:=bu (show World.ownsRow _ 0 326 3 (ae (Z ⟨r,0,I⟩) (cap+1) G) (cap+1) (xs.take (i*3)++x++xs.drop (i*3)) from⟨hlen,.inr ⟨r,G,_,rfl,gG _,W,Tn,P,X,A⟩⟩) u3;have Tx:V.wrap ((i:Int)+1)=(i:Int)+1:=cz _ ⟨z,z⟩;have Ty:V.wrap ((cap:Int)+1)=(cap:Int)+1:=cz _ ⟨z,z⟩;have Tz:V.wrap ((cap:Int)+1-(i:Int))=(cap:Int)+1-(i:Int):=cz _ ⟨z,z⟩;have TA:(0:Int)<=(i:Int)+1:=z;have TC:((i:Int)+1).toNat=i+1:=z;have TD:(i:Int)<=(cap:Int)+1:=z;have Tu:(i:Int)+1<=(cap:Int)+1:=z;have TE:¬(cap=i):=z;have TF:¬((i:Int)=(cap:Int)):=z;have TG:(i:Int)<=(cap:Int):=z;have TH:¬(G=i):=z;have TI:¬(G=i+1):=z;have Tv:G<=9223372036854775807:=by unfold maxLen at P;omega
 rw[<-hr,<-l]at D;rw[<-p]at o;rw[<-hr];obtain⟨Tp,Tq,Ts⟩:=bU D o y;clear D o y hlen A X W d H U S T E l p hr Q k f hG eJ B b c L Tf Y hv u1 u2 u3 NW N C R To;have Tt:=Tq.O 3 (G-i);go_enter func235,ntmps235;go_wp2_with (at_builtin;refine Lib.wpList_append_run _ rfl _ _ _ _ rfl _ _ rfl rfl _ _ (Tp.O _) ?_);clear Tt;go_region_law (refine uo rfl (.tmp 50) (.tmp 53) 196 196 rfl _ _ (by simp[tG,aA]) (by simp[tG,aA]) (Ts.O _ (G-(i+1)) (cap-i)) ?_);go_wp2_with fail;go_ret;exact⟨G,rfl,HO.O,HU.O⟩
def Ej(n i:Nat)(v:Value)(xs x:List Value)(b:Nat)(w:aw)(j:x.length=3)(h:w.ownsRow 0 326 3 v n xs)(hi:i<=n)(k:n<=1000)(l:aK w b 326 x.toArray)(m:v.ownBlock≠Z b)(h1:∀u∈x,u.oneCell'=true)(h2:∀u∈xs,u.oneCell'=true) :
  aF af 235 #[v,J V i,ae (Z ⟨b,0,I⟩) 1 1] w λe w'=>∃c,e=av c/\w'.ownsRow 0 326 3 c (n+1) (xs.take (i*3)++x++xs.drop (i*3))/\cS (λi=>v.ownBlock=Z i) w w'/\∀i,c.ownBlock=Z i->v.ownBlock=Z i\/w.heap.size<=i:=by
 have t:=h.1;by_cases p:i=n
 ·subst p;refine(GA i v xs x b w j h k l h1).mono ?_;rintro e w' ⟨c,rfl,o,q⟩;refine⟨c,rfl,?_,q⟩;rw[List.take_of_length_le z,List.drop_of_length_le z,List.append_nil];exact o
 ·rcases h.2 with⟨_,rfl⟩ | ⟨g,cap,dx,rfl,_,y,r,s,d,f⟩
  ·omega
  ·by_cases a:n+1<=cap
   ·refine(Ei n i g cap dx xs x b w j y d f t z a k s l (λe=>m (by rw[e];rfl)) h1 h2).mono ?_;rintro e w' ⟨rfl,o,u⟩;exact⟨_,rfl,o,u.mono λi _ q=>by rw[show i=g from q];rfl,λi q=>.inl q⟩
   ·refine(Ek n i g cap dx xs x b w j y d f t z r a k l h1 h2).mono ?_;rintro e w' ⟨G,rfl,o,u⟩;exact⟨_,rfl,o,u.mono λi _ q=>q.elim,λi q=>.inr (by simp[eR]at q;omega)⟩
def Bl(at_ size:Int)(w:aw)(h:0<=at_/\at_<=63/\0<=size/\size<=64-at_):aF af 159 #[J V at_,J V size] w λe w'=>e=av (ai true)/\w'=w:=by
 obtain⟨h1,h2,h3,h4⟩:=h;go_enter func159,ntmps159;go_wp2_with fail;go_ret;exact⟨rfl,rfl⟩
def DU(s:Nat)(w:aw)(h:s<=8):aF af 160 #[J V s] w λe w'=>e=av (J .u64 (2 ^ s-1))/\w'=w:=by
 rcases(z:s=0\/s=1\/s=2\/s=3\/s=4\/s=5\/s=6\/s=7\/s=8) with rfl|rfl|rfl|rfl|rfl|rfl|rfl|rfl|rfl
 all_goals
  go_enter func160,ntmps160;go_wp2_with fail;go_ret;exact⟨rfl,rfl⟩
def NY(n:Int)(k:Nat)(at_:Int)(w:aw)(c:at_.toNat=k)(h:0<=at_/\at_<=63):aF af 271 #[J .u64 n,J V at_,J V 1,J .u64 1] w λe w'=>e=av (J .u64 (M.CL n k))/\w'=w:=by
 subst c;obtain⟨h1,h2⟩:=h;go_enter func271,ntmps271;go_wp2_with (first|(refine(Bl at_ 1 w ⟨h1,h2,z,z⟩).mono ?_;rintro e v ⟨rfl,b⟩;have a:=b.symm;subst a)|(refine(DU 1 w z).mono ?_;rintro e v ⟨rfl,b⟩;have a:=b.symm;subst a));go_ret;exact⟨rfl,rfl⟩
def xB(n:Int)(a s:Nat)(w:aw)(h:a<=63/\s<=64-a/\s<=8):aF af 107 #[J .u64 n,J V a,J V s] w λe w'=>(∃v,e=av (J .u64 v))/\∃j,w'=w.drewN j:=by
 obtain⟨h1,h2,h3⟩:=h;go_enter func107,ntmps107;go_wp2_with (first|(refine(Bl a s w ⟨z,z,z,z⟩).mono ?_;rintro e v ⟨rfl,c⟩;have b:=c.symm;subst b));go_quiet (first|(go_at_call 160;refine Calls.quiet_of_same (DU s _ h3)));all_goals
  go_wp2_with fail;go_ret;exact⟨⟨_,rfl⟩,_,rfl⟩
abbrev yB(x:M.yy):Value:=cg #[J V x.high,J .u64 x.bits]
def vn(n:Int)(w:aw):aF af 222 #[J V n] w λe w'=>e=av (yB ⟨n,1⟩)/\aC w w':=by
 go_enter func222,ntmps222;go_wp2_with fail;refine ax (v:=yB ⟨n,1⟩) (by simp[aV,results222,go_sem]) rfl ⟨rfl,(ao _ w).alloc (aj _) _⟩
def Bi(x:Int):Prop:=-1000000000000<=x/\x<=1000000000000
def D0(x:M.yy)(n:Int)(w:aw)(j:Bi x.high)(k:Bi n):aF af 221 #[yB x,J V n] w λe w'=>e=av (yB (x.mark n))/\aC w w':=by
 obtain⟨h,b⟩:=x;obtain⟨g,l⟩:=j;obtain⟨t,u⟩:=k;simp only at g l;have hw:V.wrap (n-h)=n-h:=cz _ ⟨z,z⟩;have d:=λ(o m:Obj)=>((ao w.heap.size w).alloc (aj _) o).alloc dt m;by_cases h1:63<n-h
 ·have a:=au (show M.yy.mark ⟨h,b⟩ n=⟨n,1⟩ from by unfold M.yy.mark;rw[if_pos h1]);have y:=g;go_enter func221,ntmps221;go_wp2_with (refine(vn n _).mono ?_;rintro e w2 ⟨rfl,b2⟩;have c:=((aK.newAt (w.alloc (.cells #[J V h,J .u64 b] 199)) 199 #[J V 0,J .u64 0] (w.heap.size+1) dt).kept b2);have p:=c.cell 0;have q:=c.cell 1;have f0:=c.frozen 0;have f1:=c.frozen 1;simp at p q);refine ax (v:=yB ⟨n,1⟩) (by have R:=(c.bC 0 (J V n)).bC 1 (J .u64 1);have i:=R.cell 0;have r1:=R.cell 1;simp at i r1;simp[aV,results221,go_sem,i,r1]) rfl ⟨by rw[a.O],?_⟩;exact(((d _ _).trans (b2.mono dZ)).setCell dt _).setCell dt _
 ·by_cases h2:0<n-h
  ·have a:=au (show M.yy.mark ⟨h,b⟩ n=⟨n,bits .or .u64 (nS.wrap (b*2 ^ (n-h).toNat)) 1⟩ from by unfold M.yy.mark;rw[if_neg h1,if_pos h2]);go_enter func221,ntmps221;go_wp2_with fail;refine ax (v:=yB ⟨n,bits .or .u64 (nS.wrap (b*2 ^ (n-h).toNat)) 1⟩) (by simp[aV,results221,go_sem]) rfl ⟨by rw[a.O],d _ _⟩
  ·by_cases h3:-63<=n-h
   ·have a:=au (show M.yy.mark ⟨h,b⟩ n=⟨h,M.CL b (-(n-h)).toNat⟩ from by unfold M.yy.mark;rw[if_neg h1,if_neg h2,if_pos h3]);have r:V.wrap (-(n-h)) = -(n-h):=cz _ ⟨z,z⟩;have r1:0 <= -(n-h) /\ -(n-h)<=63:=z;go_enter func221,ntmps221;go_wp2_with fail;go_region_with (refine(NY b (-(n-h)).toNat (-(n-h)) _ rfl r1).mono ?_;rintro e w2 ⟨rfl,s⟩;have f:=s.symm;subst f);all_goals
     go_wp2_with fail;refine ax (v:=yB ⟨h,M.CL b (-(n-h)).toNat⟩) (by simp[aV,results221,go_sem]) rfl ⟨by rw[a.O],cd (d _ _) _⟩
   ·have a:=au (show M.yy.mark ⟨h,b⟩ n=⟨h,b⟩ from by unfold M.yy.mark;rw[if_neg h1,if_neg h2,if_neg h3]);go_enter func221,ntmps221;go_wp2_with fail;refine ax (v:=yB ⟨h,b⟩) (by simp[aV,results221,go_sem]) rfl ⟨by rw[a.O],d _ _⟩
def N8(x:M.yy)(n:Int)(w:aw)(o:Bi x.high)(p:Bi n):aF af 233 #[yB x,J V n] w λe w'=>e=av (ai (x.has n))/\aC w w':=by
 have hm:=λW=>D0 x n W o p;obtain⟨s,t⟩:=o;obtain⟨u,A⟩:=p;obtain⟨h,b⟩:=x;simp only at s t;have hw:V.wrap (h-63)=h-63:=cz _ ⟨z,z⟩;by_cases h1:h-63<=n
 ·have k:decide (h-63<=n)=true:=by simpa using h1
  have d:=au (show M.yy.has ⟨h,b⟩ n=decide (M.yy.mark ⟨h,b⟩ n=⟨h,b⟩) from by unfold M.yy.has;rw[k];rfl);generalize M.yy.mark ⟨h,b⟩ n=y at hm d;obtain⟨q,r⟩:=y;by_cases i:q=h
  ·have l:=i.symm;clear i;subst l;by_cases j:r=b
   ·have m:=j.symm;clear j;subst m;go_enter func233,ntmps233;go_wp2_with fail;go_region_with (refine(hm _).mono ?_;rintro e w2 ⟨rfl,b2⟩;have a:=(by first|exact(aK.new w 199 #[J V h,J .u64 b]).drew.kept b2|exact(aK.new w 199 #[J V h,J .u64 b]).kept b2:aK w2 w.heap.size 199 #[J V h,J .u64 b]);have f:=a.cell 0;have g:=a.cell 1;simp at f g;have c:=(by first|exact(cd ((ao _ w).alloc (aj _) _) 1).trans (b2.mono dt)|exact((ao _ w).alloc (aj _) _).trans (b2.mono dt):aC w w2));all_goals
     go_wp2_with fail;refine ax (v:=ai true) (by simp[aV,results233,go_sem]) rfl ⟨by rw[d.O];simp,by first|exact c|exact cd c 1⟩
   ·have n1:¬b=r:=λe=>j e.symm;go_enter func233,ntmps233;go_wp2_with fail;go_region_with (refine(hm _).mono ?_;rintro e w2 ⟨rfl,b2⟩;have a:=(by first|exact(aK.new w 199 #[J V h,J .u64 b]).drew.kept b2|exact(aK.new w 199 #[J V h,J .u64 b]).kept b2:aK w2 w.heap.size 199 #[J V h,J .u64 b]);have f:=a.cell 0;have g:=a.cell 1;simp at f g;have c:=(by first|exact(cd ((ao _ w).alloc (aj _) _) 1).trans (b2.mono dt)|exact((ao _ w).alloc (aj _) _).trans (b2.mono dt):aC w w2));all_goals
     go_wp2_with fail;refine ax (v:=ai false) (by simp[aV,results233,go_sem,aA]) rfl ⟨by rw[d.O];simp[j],by first|exact c|exact cd c 1⟩
  ·have n1:¬h=q:=λe=>i e.symm;go_enter func233,ntmps233;go_wp2_with fail;go_region_with (refine(hm _).mono ?_;rintro e w2 ⟨rfl,b2⟩;have a:=(by first|exact(aK.new w 199 #[J V h,J .u64 b]).drew.kept b2|exact(aK.new w 199 #[J V h,J .u64 b]).kept b2:aK w2 w.heap.size 199 #[J V h,J .u64 b]);have f:=a.cell 0;have g:=a.cell 1;simp at f g;have c:=(by first|exact(cd ((ao _ w).alloc (aj _) _) 1).trans (b2.mono dt)|exact((ao _ w).alloc (aj _) _).trans (b2.mono dt):aC w w2));all_goals
    go_wp2_with fail;refine ax (v:=ai false) (by simp[aV,results233,go_sem,aA]) rfl ⟨by rw[d.O];simp[i],by first|exact c|exact cd c 1⟩
 ·have k:decide (h-63<=n)=false:=by simpa using h1
  have d:=au (show M.yy.has ⟨h,b⟩ n=false from by unfold M.yy.has;rw[k];rfl);go_enter func233,ntmps233;go_wp2_with fail;go_quiet (fail);all_goals
   go_wp2_with fail;go_ret;exact⟨by rw[d.O];rfl,cd ((ao _ w).alloc (aj _) _) _⟩
abbrev sa(h:M.js):List Value:=[J V h.bO,J V h.jv,J V h.id]
abbrev ug(h:M.js):Value:=cg #[J V h.bO,J V h.jv,J V h.id]
abbrev jh(l:List M.js):List Value:=l.flatMap sa
def uX(l:List M.js):(jh l).length=l.length*3:=by
 induction l with
 |nil=>rfl
 |cons h l a=>rw[show jh (h::l)=sa h++jh l from rfl,List.length_append,a];simp;omega
def Bz(l:List M.js):∀u∈jh l,u.oneCell'=true:=by
 intro u hu;obtain⟨h,_,hu⟩:=List.mem_flatMap.1 hu;simp at hu;rcases hu with rfl|rfl|rfl<;>rfl
def JW(l:List M.js)(i j:Nat)(b:j<3):(jh l)[i*3+j]? = (l[i]?).bind λh=>(sa h)[j]?:=by
 induction l generalizing i with
 |nil=>simp
 |cons h l a =>
  rw[show jh (h::l)=sa h++jh l from rfl];cases i with
  |zero=>rw[dk dZ];simp
  |succ i =>
   rw[dG dZ,show (i+1)*3+j-(sa h).length=i*3+j from dZ,a i];simp
def GG(l:List M.js)(i:Nat):(jh l).take (i*3)=jh (l.take i):=by
 induction l generalizing i with
 |nil=>simp
 |cons h l a =>
  cases i with
  |zero=>simp
  |succ i =>
   rw[show jh (h::l)=sa h++jh l from rfl,show (i+1)*3=(sa h).length+i*3 from dZ,List.take_length_add_append,a i];rfl
def GH(l:List M.js)(i:Nat):(jh l).drop (i*3)=jh (l.drop i):=by
 induction l generalizing i with
 |nil=>simp
 |cons h l a =>
  cases i with
  |zero=>simp
  |succ i =>
   rw[show jh (h::l)=sa h++jh l from rfl,show (i+1)*3=(sa h).length+i*3 from dZ,List.drop_length_add_append,a i];rfl
def sX{w:aw}{n:Nat}{A:Option Addr}{c:Nat}{l:List M.js}(h:w.ownsRow 0 326 3 (ae A n c) n (jh l))(h0:0<n):∃g,A=Z ⟨g,0,I⟩/\n<=c/\∀i x,l[i]? = Z x->w.cell? ⟨g,i*3,I⟩=Z (J V x.bO)/\w.cell? ⟨g,i*3+1,I⟩=Z (J V x.jv)/\w.cell? ⟨g,i*3+2,I⟩=Z (J V x.id):=by
 have k:=h.1;rw[uX]at k;rcases h.2 with⟨_,e⟩ | ⟨g,cap,dx,e,_,a,b,_,m,d⟩
 ·omega
 ·injection e with o r p
  subst o p;have a:aK w g 326 dx:=a;refine⟨g,rfl,b,λi x f=>?_⟩;have hi:=(aS.1 f).1;have key:∀j,j<3->w.cell? ⟨g,i*3+j,I⟩=(sa x)[j]?:=λj q=>by
   rw[a.cell];have:=JW l i j q;rw[f]at this;rw[<-d,dp z,gj]at this;exact this
  exact⟨key 0 z,key 1 z,key 2 z⟩
def pq(p:M.js->Bool)(l:List M.js):Int:=if l.any p then((l.takeWhile λh=>!p h).length:Nat) else -1
def vI{p:M.js->Bool}{l:List M.js}{k:Nat}{x:M.js}(a:l[k]? = Z x)(hp:p x=true)(b:∀j y,j<k->l[j]? = Z y->p y=false):pq p l=k:=by
 induction l generalizing k with
 |nil=>simp at a
 |cons y l c =>
  cases k with
  |zero=>simp at a;subst a;simp[pq,hp]
  |succ k =>
   have hy:p y=false:=b 0 y z dt;have:=c (k:=k) (by simpa using a) (λj d f e=>b (j+1) d z (by simpa using e));unfold pq at this ⊢;rw[List.any_cons,hy,Bool.false_or];split at this
   ·rename_i q;rw[if_pos q];rw[List.takeWhile_cons,hy];simp at this ⊢;omega
   ·omega
def xC{p:M.js->Bool}{l:List M.js}(h:∀(j:Nat) (y:M.js),l[j]? = Z y->p y=false):pq p l = -1:=by
 unfold pq;rw[if_neg];rw[Bool.not_eq_true,List.any_eq_false];intro x a;obtain⟨j,b,e⟩:=List.getElem_of_mem a;simp[h j x (by rw[ay b,e])]
def Az(a1:Addr)(p:M.js->Bool)(s:aw->Prop)(K:∀w w',aC w w'->s w->s w')(n:Nat)(v:Value)(l:List M.js)(w:aw)
  (D:∀h∈l,∀W,s W->aF af 231 #[ug h,aq (Z a1)] W λe w'=>e=av (ai (p h))/\aC W w') (h:w.ownsRow 0 326 3 v n (jh l)) (h0:s w) (X:n<=1000) :
  aF af 234 #[v,.func (.func 231) #[] #[aq (Z a1)]] w λe w'=>e=av (J V (pq p l))/\aC w w':=by
 have E:=h.1;rw[uX]at E;have L:l.length=n:=z;obtain⟨A,c,rfl⟩:=bA h;have F:=ao w.heap.size w;have b:(∀(j:Nat) (y:M.js),j<n->l[j]? = Z y->p y=false)->pq p l = -1:=λq=>xC λj y hy=>q j y (lE ((aS.1 hy).1)) hy;obtain⟨t,N,G,P⟩:=cA b h D h0;clear b E h D h0;go_enter func234,ntmps234;go_wp2_with fail;go_loopw [5,8] (λa i wr=>∃k:Nat,i=J V k/\k<=n/\(∀(j:Nat) (y:M.js),j<k->l[j]? = Z y->p y=false)/\aC w wr) (λa i _=>n-(intOf i).toNat);case atStart=>exact⟨0,rfl,z,λj y H=>absurd H z,F⟩
 case round =>
  clear F;obtain⟨k,rfl,Y,f,d⟩:=hrel;by_cases Q:k<n
  ·obtain⟨x,m⟩:∃x,l[k]? = Z x:=⟨_,ay z⟩;obtain⟨g,rfl,R,u⟩:=sX N.O z;obtain⟨d0,d1,d2⟩:=u k x m;have c0:=aM d d0;have c1:=aM d d1;have c2:=aM d d2;have hw:((k:Int)<(n:Int)):=z;have hm:=fb m;obtain⟨o,S,T⟩:=bU (K _ _ d P.O) f m;cases hp:p x
   ·clear f m u d0 d1 d2;go_wp2_with (refine(G.O x hm _ o.O).mono ?_;rintro e w2 ⟨rfl,b2⟩;rw[hp]);go_roundw;case rel=>exact⟨k+1,by go_num,z,λj y H hy=>by
     by_cases e:j=k
     ·subst e;rw[T.O]at hy;cases hy;exact hp
     ·exact S.O j y z hy,d.trans (b2.mono d.size)⟩
    case measure=>simp[intOf];omega
   ·have r:=vI m hp f;have B:=au r;clear f m u d0 d1 d2 r;go_wp2_with (refine(G.O x hm _ o.O).mono ?_;rintro e w2 ⟨rfl,b2⟩;rw[hp]);go_ret;exact⟨by rw[B.O];rfl,d.trans (b2.mono d.size)⟩
  ·have C:k=n:=z;subst C;have U:=au (t.O f);clear f;go_wp2_with fail;go_ret;exact⟨by rw[U.O];rfl,d⟩
def xG(a1:Addr)(p:M.js->Bool)(a:aw->Prop)(b:∀w w',aC w w'->a w->a w')(n:Nat)(v:Value)(l:List M.js)(w:aw)
  (d:∀h∈l,∀W,a W->aF af 231 #[ug h,aq (Z a1)] W λe w'=>e=av (ai (p h))/\aC W w') (h:w.ownsRow 0 326 3 v n (jh l)) (h0:a w) (j:n<=1000) :
  aF af 216 #[v,.func (.func 231) #[] #[aq (Z a1)]] w λe w'=>e=av (ai (l.any p))/\aC w w':=by
 have f:=Az a1 p a b n v l w d h h0 j;obtain⟨A,c,rfl⟩:=bA h;have g:=au f;clear f d h h0 b;cases i:l.any p
 ·have e:pq p l = -1:=by unfold pq;rw[i];rfl
  go_enter func216,ntmps216;go_wp2_with (refine g.O.mono ?_;rintro e w2 ⟨rfl,b2⟩;rw[e]);go_ret;exact⟨rfl,b2⟩
 ·obtain⟨m,e⟩:∃m:Nat,pq p l=m:=⟨_,by unfold pq;rw[i,if_pos rfl]⟩;have hm:(0:Int)<=(m:Int):=z;go_enter func216,ntmps216;go_wp2_with (refine g.O.mono ?_;rintro e w2 ⟨rfl,b2⟩;rw[e]);go_ret;exact⟨rfl,b2⟩
def Ay(a1:Addr)(p:M.js->Bool)(s:aw->Prop)(K:∀w w',aC w w'->s w->s w')(n:Nat)(v:Value)(l:List M.js)(w:aw)
  (D:∀h∈l,∀W,s W->aF af 232 #[ug h,aq (Z a1)] W λe w'=>e=av (ai (p h))/\aC W w') (h:w.ownsRow 0 326 3 v n (jh l)) (h0:s w) (X:n<=1000) :
  aF af 234 #[v,.func (.func 232) #[] #[aq (Z a1)]] w λe w'=>e=av (J V (pq p l))/\aC w w':=by
 have E:=h.1;rw[uX]at E;have L:l.length=n:=z;obtain⟨A,c,rfl⟩:=bA h;have F:=ao w.heap.size w;have b:(∀(j:Nat) (y:M.js),j<n->l[j]? = Z y->p y=false)->pq p l = -1:=λq=>xC λj y hy=>q j y (lE ((aS.1 hy).1)) hy;obtain⟨t,N,G,P⟩:=cA b h D h0;clear b E h D h0;go_enter func234,ntmps234;go_wp2_with fail;go_loopw [5,8] (λa i wr=>∃k:Nat,i=J V k/\k<=n/\(∀(j:Nat) (y:M.js),j<k->l[j]? = Z y->p y=false)/\aC w wr) (λa i _=>n-(intOf i).toNat);case atStart=>exact⟨0,rfl,z,λj y H=>absurd H z,F⟩
 case round =>
  clear F;obtain⟨k,rfl,Y,f,d⟩:=hrel;by_cases Q:k<n
  ·obtain⟨x,m⟩:∃x,l[k]? = Z x:=⟨_,ay z⟩;obtain⟨g,rfl,R,u⟩:=sX N.O z;obtain⟨d0,d1,d2⟩:=u k x m;have c0:=aM d d0;have c1:=aM d d1;have c2:=aM d d2;have hw:((k:Int)<(n:Int)):=z;have hm:=fb m;obtain⟨o,S,T⟩:=bU (K _ _ d P.O) f m;cases hp:p x
   ·clear f m u d0 d1 d2;go_wp2_with (refine(G.O x hm _ o.O).mono ?_;rintro e w2 ⟨rfl,b2⟩;rw[hp]);go_roundw;case rel=>exact⟨k+1,by go_num,z,λj y H hy=>by
     by_cases e:j=k
     ·subst e;rw[T.O]at hy;cases hy;exact hp
     ·exact S.O j y z hy,d.trans (b2.mono d.size)⟩
    case measure=>simp[intOf];omega
   ·have r:=vI m hp f;have B:=au r;clear f m u d0 d1 d2 r;go_wp2_with (refine(G.O x hm _ o.O).mono ?_;rintro e w2 ⟨rfl,b2⟩;rw[hp]);go_ret;exact⟨by rw[B.O];rfl,d.trans (b2.mono d.size)⟩
  ·have C:k=n:=z;subst C;have U:=au (t.O f);clear f;go_wp2_with fail;go_ret;exact⟨by rw[U.O];rfl,d⟩
def AA(a1 a2:Addr)(p:M.js->Bool)(s:aw->Prop)(K:∀w w',aC w w'->s w->s w')(n:Nat)(v:Value)(l:List M.js)(w:aw)
  (D:∀h∈l,∀W,s W->aF af 214 #[ug h,aq (Z a1),aq (Z a2)] W λe w'=>e=av (ai (p h))/\aC W w') (h:w.ownsRow 0 326 3 v n (jh l)) (h0:s w) (X:n<=1000) :
  aF af 234 #[v,.func (.func 214) #[] #[aq (Z a1),aq (Z a2)]] w λe w'=>e=av (J V (pq p l))/\aC w w':=by
 have E:=h.1;rw[uX]at E;have L:l.length=n:=z;obtain⟨A,c,rfl⟩:=bA h;have F:=ao w.heap.size w;have b:(∀(j:Nat) (y:M.js),j<n->l[j]? = Z y->p y=false)->pq p l = -1:=λq=>xC λj y hy=>q j y (lE ((aS.1 hy).1)) hy;obtain⟨t,N,G,P⟩:=cA b h D h0;clear b E h D h0;go_enter func234,ntmps234;go_wp2_with fail;go_loopw [5,8] (λa i wr=>∃k:Nat,i=J V k/\k<=n/\(∀(j:Nat) (y:M.js),j<k->l[j]? = Z y->p y=false)/\aC w wr) (λa i _=>n-(intOf i).toNat);case atStart=>exact⟨0,rfl,z,λj y H=>absurd H z,F⟩
 case round =>
  clear F;obtain⟨k,rfl,Y,f,d⟩:=hrel;by_cases Q:k<n
  ·obtain⟨x,m⟩:∃x,l[k]? = Z x:=⟨_,ay z⟩;obtain⟨g,rfl,R,u⟩:=sX N.O z;obtain⟨d0,d1,d2⟩:=u k x m;have c0:=aM d d0;have c1:=aM d d1;have c2:=aM d d2;have hw:((k:Int)<(n:Int)):=z;have hm:=fb m;obtain⟨o,S,T⟩:=bU (K _ _ d P.O) f m;cases hp:p x
   ·clear f m u d0 d1 d2;go_wp2_with (refine(G.O x hm _ o.O).mono ?_;rintro e w2 ⟨rfl,b2⟩;rw[hp]);go_roundw;case rel=>exact⟨k+1,by go_num,z,λj y H hy=>by
     by_cases e:j=k
     ·subst e;rw[T.O]at hy;cases hy;exact hp
     ·exact S.O j y z hy,d.trans (b2.mono d.size)⟩
    case measure=>simp[intOf];omega
   ·have r:=vI m hp f;have B:=au r;clear f m u d0 d1 d2 r;go_wp2_with (refine(G.O x hm _ o.O).mono ?_;rintro e w2 ⟨rfl,b2⟩;rw[hp]);go_ret;exact⟨by rw[B.O];rfl,d.trans (b2.mono d.size)⟩
  ·have C:k=n:=z;subst C;have U:=au (t.O f);clear f;go_wp2_with fail;go_ret;exact⟨by rw[U.O];rfl,d⟩
def xH(a1 a2:Addr)(p:M.js->Bool)(a:aw->Prop)(b:∀w w',aC w w'->a w->a w')(n:Nat)(v:Value)(l:List M.js)(w:aw)
  (d:∀h∈l,∀W,a W->aF af 214 #[ug h,aq (Z a1),aq (Z a2)] W λe w'=>e=av (ai (p h))/\aC W w') (h:w.ownsRow 0 326 3 v n (jh l)) (h0:a w) (j:n<=1000) :
  aF af 216 #[v,.func (.func 214) #[] #[aq (Z a1),aq (Z a2)]] w λe w'=>e=av (ai (l.any p))/\aC w w':=by
 have f:=AA a1 a2 p a b n v l w d h h0 j;obtain⟨A,c,rfl⟩:=bA h;have g:=au f;clear f d h h0 b;cases i:l.any p
 ·have e:pq p l = -1:=by unfold pq;rw[i];rfl
  go_enter func216,ntmps216;go_wp2_with (refine g.O.mono ?_;rintro e w2 ⟨rfl,b2⟩;rw[e]);go_ret;exact⟨rfl,b2⟩
 ·obtain⟨m,e⟩:∃m:Nat,pq p l=m:=⟨_,by unfold pq;rw[i,if_pos rfl]⟩;have hm:(0:Int)<=(m:Int):=z;go_enter func216,ntmps216;go_wp2_with (refine g.O.mono ?_;rintro e w2 ⟨rfl,b2⟩;rw[e]);go_ret;exact⟨rfl,b2⟩
section
structure vi where
 g:Nat
 bD:Value
def vi.own(B:vi):Nat->Prop:=λi=>i=B.g\/B.bD.ownBlock=Z i
abbrev Ks(B:vi)(aG cX:Int)(b:M.mf):Array Value:=#[J V aG,J V cX,B.bD,ai b.begun,J V b.out.high,J .u64 b.out.bits]
structure gC(w:aw)(B:vi)(aG cX:Int)(b:M.mf):Prop where
 cw:aK w B.g 201 (Ks B aG cX b)
 row:w.ownsRow 0 326 3 B.bD b.bD.length (jh b.bD)
 et:∀h∈b.bD,Bi h.bO/\Bi h.jv
 out:Bi b.out.high
 small:b.bD.length<=8
 aG:1<=aG/\aG<=8
 cX:0<=cX/\cX<=1000
section
variable {w w':aw} {B:vi} {aG cX:Int} {b:M.mf}
def gC.lt(h:gC w B aG cX b):∀i,B.own i->i<w.heap.size:=by
 rintro i (rfl|hi)
 ·exact h.cw.lt
 ·exact(h.row.lt i hi).2
def gC.dW{F:Nat->Prop}(h:gC w B aG cX b)(u:cS F w w')(hF:∀i,B.own i->¬F i):gC w' B aG cX b:=
 ⟨h.cw.dW u (hF _ (.inl rfl)),du h.row u (λi hi=>hF i (.inr hi)),h.et,h.out,h.small,h.aG,h.cX⟩
def gC.below(h:gC w B aG cX b)(u:aC w w'):gC w' B aG cX b:=h.dW (F:=cr) (.bn u) λ_ _ q=>q
def gC.ne(h:gC w B aG cX b):∀i,B.bD.ownBlock=Z i->i≠B.g:=by
 intro i hi e;subst e;obtain⟨t,cs,ht,a⟩:=ib h.row B.g hi;simp at ht;subst ht;exact aK.jf a h.cw aR rfl
end
def yw(B:vi)(aG cX:Int)(b:M.mf)(w:aw)(h:gC w B aG cX b):aF af 215 #[aq (Z ⟨B.g,0,I⟩)] w λe w'=>e=av (aB #[J V (if b.begun then b.out.high+1 else 0),ai b.begun])/\w'=w:=by
 have c3:=h.cw.cell 3;have c4:=h.cw.cell 4;simp at c3 c4;obtain⟨c,d⟩:=h.out;have hw:V.wrap (b.out.high+1)=b.out.high+1:=cz _ ⟨z,z⟩;clear h;cases a:b.begun<;>rw[a]at c3
 ·go_enter func215,ntmps215;go_wp2_with fail;refine ax (v:=aB #[J V 0,ai false]) (by simp[aV,results215,go_sem]) rfl ⟨rfl,rfl⟩
 ·go_enter func215,ntmps215;go_wp2_with fail;refine ax (v:=aB #[J V (b.out.high+1),ai true]) (by simp[aV,results215,go_sem]) rfl ⟨rfl,rfl⟩
def vM(aG cX:Int)(w:aw)(h1:1<=aG/\aG<=8)(h2:0<=cX/\cX<=1000):aF af 31 #[J V aG,J V cX] w λe w'=>∃g,e=av (aB #[aq (Z ⟨g,0,I⟩),J V 0])/\gC w' ⟨g,ae I 0 0⟩ aG cX .new/\aC w w'/\w.heap.size<=g:=by
 obtain⟨a1,a2⟩:=h1;obtain⟨a3,a4⟩:=h2;go_enter func31,ntmps31;go_wp2_with fail;refine ax (v:=aB #[aq (Z ⟨w.heap.size,0,I⟩),J V 0]) (by simp[aV,results31,go_sem]) rfl ⟨_,rfl,⟨aK.new w 201 _,⟨rfl,.inl ⟨rfl,rfl⟩⟩,λh hh=>(by cases hh),⟨by show(-1000000000000:Int)<=0;omega,by show(0:Int)<=1000000000000;omega⟩,by show 0<=8;omega,⟨a1,a2⟩,⟨a3,a4⟩⟩,(ao _ w).alloc (aj _) _,aj _⟩
def Hn(aG cX:Int)(w:aw)(h:¬((1<=aG/\aG<=8)/\(0<=cX/\cX<=1000))):aF af 31 #[J V aG,J V cX] w λe w'=>e=av (aB #[aq I,J V 1])/\w'=w:=by
 by_cases h1:aG<1
 ·clear h;go_enter func31,ntmps31;go_wp2_with fail;refine ax (v:=aB #[aq I,J V 1]) (by simp[aV,results31,go_sem]) rfl ⟨rfl,rfl⟩
 ·by_cases h2:8<aG
  ·clear h;go_enter func31,ntmps31;go_wp2_with fail;refine ax (v:=aB #[aq I,J V 1]) (by simp[aV,results31,go_sem]) rfl ⟨rfl,rfl⟩
  ·by_cases h3:cX<0
   ·clear h;go_enter func31,ntmps31;go_wp2_with fail;refine ax (v:=aB #[aq I,J V 1]) (by simp[aV,results31,go_sem]) rfl ⟨rfl,rfl⟩
   ·have h4:1000<cX:=z;clear h;go_enter func31,ntmps31;go_wp2_with fail;refine ax (v:=aB #[aq I,J V 1]) (by simp[aV,results31,go_sem]) rfl ⟨rfl,rfl⟩
def Jm(r:Nat)(n:Int)(h:M.js)(w:aw)(a:aK w r 2 #[J V n]):aF af 231 #[ug h,aq (Z ⟨r,0,I⟩)] w λe w'=>e=av (ai (h.bO==n))/\aC w w':=by
 have b:=a.cell 0;have lt:=a.lt;simp at b;go_enter func231,ntmps231;go_wp2_with fail;go_ret;exact⟨rfl,(ao _ w).alloc (aj _) _⟩
def Jl(r:Nat)(n:Int)(h:M.js)(w:aw)(a:aK w r 2 #[J V n]):aF af 232 #[ug h,aq (Z ⟨r,0,I⟩)] w λe w'=>e=av (ai (decide (n<h.bO)))/\aC w w':=by
 have b:=a.cell 0;have lt:=a.lt;simp at b;go_enter func232,ntmps232;go_wp2_with fail;go_ret;exact⟨rfl,(ao _ w).alloc (aj _) _⟩
def FV(c r2 g:Nat)(now:Int)(cs:Array Value)(cX:Int)(h:M.js)(w:aw)(a:aK w c 2 #[J V now])(b:aK w r2 114 #[aq (Z ⟨g,0,I⟩)])(hg:aK w g 201 cs)(d:cs[1]? = Z (J V cX))(h1:Bi now)(h2:Bi h.jv) :
  aF af 214 #[ug h,aq (Z ⟨c,0,I⟩),aq (Z ⟨r2,0,I⟩)] w λe w'=>e=av (ai (decide (cX<=now-h.jv)))/\aC w w':=by
 obtain⟨a1,a2⟩:=h1;obtain⟨a3,a4⟩:=h2;have hw:V.wrap (now-h.jv)=now-h.jv:=cz _ ⟨z,z⟩;have f:=(a.alloc (.cells #[J V h.bO,J V h.jv,J V h.id] 326)).cell 0;have c1:=(b.alloc (.cells #[J V h.bO,J V h.jv,J V h.id] 326)).cell 0;have c2:=((hg.alloc (.cells #[J V h.bO,J V h.jv,J V h.id] 326)).cell 1).trans d;simp at f c1;have i:=(ao w.heap.size w).alloc (aj _) (.cells #[J V h.bO,J V h.jv,J V h.id] 326);clear a b hg;go_enter func214,ntmps214;go_wp2_with fail;go_region;all_goals
  go_wp2_with fail;go_ret;exact⟨rfl,cd i _⟩
end
section
open Go.Maps (Keyed)
section
variable {κ:Type} [DecidableEq κ] {S:Keys κ} {f:κ->Value}
variable (w:aw) {ops:Array mJ} {rest:List mJ} {o:mJ} {a:Act} {K:Act->aw->Prop} {Q:Exit->Act->aw->Prop} {E:Prop}
variable (he:∀x y,S.enc x=S.enc y->x=y) {t e:TypeId} (ht:af.underlying t=Z (.map S.k e))
include he ht
omit K Q E in
theorem gE.my(b:Nat)(ds:List κ)(f:κ->Value)(d:gE S w b ds f)(y:κ)(h:S.ok y){g:Value}(i:(ja e).run af w=.ok g w) :
  (cD t (.map (Z b)) (S.enc y) true).run af w=.ok (aB #[if y∈ds then f y else g,ai (decide (y∈ds))]) w:=by
 obtain⟨D,h1,h2⟩:=d;obtain⟨v,ps,c,a⟩:=h1.look_ok S.K ht i (zd:=.held g) (zp:=[]) (R:=RV) rfl (S.key y h);have hh:=h2.has y h;have j:v=if y∈ds then f y else g:=by
  simp only[RV,Option.some.injEq,Prod.mk.injEq]at a;by_cases hy:y∈ds
  ·rw[h2.at_ y hy]at a;simp at a;rw[if_pos hy];exact a.1
  ·have k:tF D (S.kl y)=false:=by rw[hh];simp[hy]
   rw[Maps.atKey_of_not_has k]at a;simp at a;rw[if_neg hy];exact a.1
 rw[hh,j]at c;exact c
omit K Q E in
theorem gE.Iq(b:Nat)(ds:List κ)(f:κ->Value)(a:gE S w b ds f)(y:κ)(c:S.ok y)(hy:y∈ds){d:Value}(g:(ja e).run af w=.ok d w) :
  (cD t (.map (Z b)) (S.enc y) true).run af w=.ok (aB #[f y,ai true]) w:=by
 rw[gE.my w he ht b ds f a y c g,if_pos hy];simp[hy]
omit K Q E in
theorem gE.Ip(b:Nat)(ds:List κ)(f:κ->Value)(a:gE S w b ds f)(y:κ)(d:S.ok y)(hy:y∉ds){c:Value}(g:(ja e).run af w=.ok c w) :
  (cD t (.map (Z b)) (S.enc y) true).run af w=.ok (aB #[c,ai false]) w:=by
 rw[gE.my w he ht b ds f a y d g,if_neg hy];simp[hy]
omit K Q E in
theorem gE.nX(b:Nat)(ds:List κ)(f:κ->Value)(a:gE S w b ds f)(h:ds.length<maxLen)(y:κ)(c:Value)(hy:y∈ds) :
  ∃w',(eF t (.map (Z b)) (S.enc y) c).run af w=.ok () w'/\gE S w' b ds (λe=>if e=y then c else f e)/\cS (One b) w w':=by
 obtain⟨D,h1,h2⟩:=a;obtain⟨w',d,i,g⟩:=World.ownsMap.update h1 S.K ht h (S.key y (h2.ok y hy)) (show RV c=Z (.held c,[]) from rfl);have C:=h2.put he (h1.tidy S.K) hy c;exact⟨w',d,⟨_,by rw[<-C.size];exact CB i,C⟩,tH g⟩
omit K Q E in
theorem gE.Ci(b:Nat)(ds:List κ)(f:κ->Value)(a:gE S w b ds f)(i:ds.length<maxLen)(y:κ)(c:Value)(hy:y∉ds)(e:S.ok y) :
  ∃w',(eF t (.map (Z b)) (S.enc y) c).run af w=.ok () w'/\gE S w' b (ds++[y]) (λh=>if h=y then c else f h)/\cS (One b) w w':=by
 obtain⟨D,h1,h2⟩:=a;obtain⟨w',d,j,g⟩:=World.ownsMap.update h1 S.K ht i (S.key y e) (show RV c=Z (.held c,[]) from rfl);have C:=h2.new he (h1.tidy S.K) hy e c;exact⟨w',d,⟨_,by rw[<-C.size];exact CB j,C⟩,tH g⟩
end
end
section
abbrev Bk:=Int->Nat->Option Int
structure PZ(ds:List (Int×Int))(v:Int×Int->Int)(bk:Bk)(N:Nat):Prop where
 at_:∀s (id:Nat),bk s id=if((s,(id:Int)):Int×Int)∈ds then Z (v (s,(id:Int))) else I
 wb:∀x∈ds,(0<=x.1/\x.1<6)/\0<=x.2/\x.2<=1000000
 sJ:∀x∈ds,0<=v x/\v x<=8
 small:ds.length<=N
def eD(w:aw)(g m:Nat)(bk:Bk)(N:Nat):Prop:=∃ds v,aK w g 204 #[.map (Z m)]/\gE KB w m ds (λx=>J V (v x))/\PZ ds v bk N
def nV:af.underlying 202=Z (.map KB.k 62):=underlying202
def vc(w:aw):(ja 62).run af w=.ok (J V 0) w:=cC
section
variable {w w':aw} {g m N:Nat} {bk:Bk}
def eD.lt(h:eD w g m bk N):g<w.heap.size/\m<w.heap.size:=by obtain⟨ds,v,h1,h2,_⟩:=h;exact⟨h1.lt,h2.lt⟩
def eD.dW{F:Nat->Prop}(h:eD w g m bk N)(u:cS F w w')(hg:¬F g)(hm:¬F m):eD w' g m bk N:=by
 obtain⟨ds,v,h1,h2,h3⟩:=h;exact⟨ds,v,h1.dW u hg,h2.dW u hm,h3⟩
def eD.below(h:eD w g m bk N)(u:aC w w'):eD w' g m bk N:=h.dW (F:=cr) (.bn u) id id
end
def okB{s:Int}{id:Nat}(h:-1000000000000<=s/\s<=1000000000000)(hi:id<=1000000):KB.ok (s,(id:Int)):=ir h ⟨by show(-1000000000000:Int)<=(id:Int);omega,by show(id:Int)<=1000000000000;omega⟩
def Fb(w:aw):aF af 33 #[] w λe w'=>∃g m,e=av (aq (Z ⟨g,0,I⟩))/\eD w' g m (λ_ _=>I) 0/\aC w w'/\w.heap.size<=g/\w.heap.size<=m:=by
 have h:=((ao w.heap.size w).alloc (aj _) (.map #[] 0)).alloc dt (.cells #[.map (Z w.heap.size)] 204);have b:=(gE.made (S:=KB) w (λx=>J V 0)).alloc (.cells #[.map (Z w.heap.size)] 204);have c:=aK.new (w.alloc (.map #[] 0)) 204 #[.map (Z w.heap.size)];obtain⟨i,d⟩:=bu b c;clear b c;have j:=@run_makeMap af;go_enter func33,ntmps33;go_wp2_with fail;go_ret;refine⟨_,w.heap.size,rfl,⟨[],λ_=>0,?_,i.O,λs id=>dt,λx a=>by simp at a,λx a=>by simp at a,dt⟩,h,?_,aj _⟩
 ·have f:=d.O;simp only[World.size_alloc]at f;first|exact f|simpa using d.O
 ·simp
def xR(f:Int)(w:aw)(h:1<=f/\f<=8):aF af 156 #[J V f] w λe w'=>e=av (ai true)/\w'=w:=by
 obtain⟨h1,h2⟩:=h;go_enter func156,ntmps156;go_wp2_with fail;go_ret;exact⟨rfl,rfl⟩
def Db(g m N:Nat)(bk:Bk)(s:Int)(id:Nat)(w:aw)(h:eD w g m bk N)(f:-1000000000000<=s/\s<=1000000000000)(hi:id<=1000000) :
  aF af 236 #[aq (Z ⟨g,0,I⟩),pv (s,(id:Int))] w λe w'=>e=av (aB #[J V ((bk s id).getD 0),ai (bk s id).isSome])/\aC w w':=by
 obtain⟨ds,v,i,j,hR⟩:=h;have b:=hR.at_ s id;have a:∀W,gE KB W m ds (λx=>J V (v x))->(cD 202 (.map (Z m)) (cg #[J V s,J V id]) true).run af W=.ok (aB #[J V ((bk s id).getD 0),ai (bk s id).isSome]) W:=λW k=>by
  by_cases hy:((s,(id:Int)):Int×Int)∈ds
  ·rw[b,if_pos hy];exact gE.Iq W ue nV m ds _ k (s,(id:Int)) (okB f hi) hy (vc _)
  ·rw[b,if_neg hy];exact gE.Ip W ue nV m ds _ k (s,(id:Int)) (okB f hi) hy (vc _)
 have d:=au a;clear b hR a;go_enter func236,ntmps236;go_upto_region 1 with fail;obtain⟨p,c⟩:=dH w.heap.size;rw[<-c];refine aW (λW=>aK W p 210 #[J V s,J V id]/\aK W g 204 #[.map (Z m)]/\gE KB W m ds (λx=>J V (v x))/\aC w W) ⟨aK.newAt _ _ _ _ c,i.alloc _,j.alloc _,(ao _ w).alloc (aj _) _⟩ ?_;rintro W ⟨b3,l,n,o⟩;clear c i j;have r:=l.cell 0;have t:=b3.cell 0;have u:=b3.cell 1;simp at r t u;have y:=d.O W.drew (n.dW (F:=cr) (cS.refl cr W).drew (λq=>q));clear n b3 l;go_region;all_goals
  go_wp2_with fail;refine ax (v:=aB #[J V ((bk s id).getD 0),ai (bk s id).isSome]) (by simp[aV,results236,go_sem]) rfl ⟨rfl,?_⟩;first|exact o|exact cd o _
def Fa(g m N:Nat)(bk:Bk)(s:Int)(id:Nat)(w:aw)(h:eD w g m bk N)(K:0<=s/\s<6)(hi:id<=1000000)(L:bk s id=I)(hN:N<1000000) :
  aF af 183 #[aq (Z ⟨g,0,I⟩),pv (s,(id:Int))] w λe w'=>e=av (J V 0)/\eD w' g m (M.set bk s (M.set (bk s) id (Z 0))) (N+1)/\cS (One m) w w':=by
 obtain⟨ds,v,p,r,hR⟩:=h;have hlen:ds.length<1000000:=by have:=hR.small;omega
 have b:=hR.at_ s id;have c:((s,(id:Int)):Int×Int)∉ds:=by
  intro q;rw[L,if_pos q]at b;cases b
 have ok:=okB (s:=s) (id:=id) ⟨z,z⟩ hi;have k:PZ (ds++[(s,(id:Int))]) (λx=>if x=(s,(id:Int)) then 0 else v x) (M.set bk s (M.set (bk s) id (Z 0))) (N+1):=by
  refine⟨λs' a=>?_,λx t=>?_,λx t=>?_,by have:=hR.small;simp;omega⟩
  ·unfold M.set;by_cases u:s'=s
   ·subst u;rw[if_pos rfl];by_cases P:a=id
    ·subst P;rw[if_pos rfl,if_pos dt];simp
    ·have d:((s',(a:Int)):Int×Int)≠(s',(id:Int)):=by intro q;injection q with _ q;omega
     rw[if_neg P,hR.at_ s' a];simp only[bt,kr,d,or_false,if_false]
   ·have d:((s',(a:Int)):Int×Int)≠(s,(id:Int)):=by intro q;injection q with q _;exact u q
    rw[if_neg u,hR.at_ s' a];simp only[bt,kr,d,or_false,if_false]
  ·rcases bt.1 t with q|q
   ·exact hR.wb x q
   ·simp at q;subst q;exact⟨K,by show(0:Int)<=id;omega,by show(id:Int)<=1000000;omega⟩
  ·by_cases e:x=(s,(id:Int))
   ·simp[e]
   ·rw[if_neg e];rcases bt.1 t with q|q
    ·exact hR.sJ x q
    ·simp at q;exact absurd q e
 obtain⟨s1,s2⟩:=K;have i0:(0:Int)<=(id:Int):=z;obtain⟨y,A⟩:=bu k c;have X:m≠g:=r.ki p;have lm:=r.lt;have lg:=p.lt;clear b hR k L;go_enter func183,ntmps183;go_upto_region 1 with fail;obtain⟨B,f⟩:=dH w.heap.size;rw[<-f];refine aW (λW=>aK W B 210 #[J V s,J V id]/\aK W g 204 #[.map (Z m)]/\gE KB W m ds (λx=>J V (v x))/\aC w W) ⟨aK.newAt _ _ _ _ f,p.alloc _,r.alloc _,(ao _ w).alloc (aj _) _⟩ ?_;rintro W ⟨b3,i,j,l⟩;have Tf:B≠m:=z;clear f p r;have C:=i.cell 0;have D:=b3.cell 0;have E:=b3.cell 1;simp at C D E;have Tg:(cD 202 (.map (Z m)) (cg #[J V s,J V id]) true).run af W.drew=.ok (aB #[J V 0,ai false]) W.drew:=gE.Ip W.drew ue nV m ds _ (j.dW (F:=cr) (cS.refl cr W).drew (λq=>q)) (s,(id:Int)) ok c (vc _);clear c;obtain⟨HM,H3,HG,AL⟩:=cA j b3 i l;clear j b3 i l;go_wp2_with fail;go_region;all_goals
  refine gN (λY=>aK Y B 210 #[J V s,J V id]/\aK Y g 204 #[.map (Z m)]/\gE KB Y m ds (λx=>J V (v x))/\aC w Y) ⟨H3.O.drew,HG.O.drew,HM.O.dW (F:=cr) (cS.refl cr W).drew (λq=>q),cd AL.O 1⟩ ?_;rintro Y ⟨b3,i,j,l⟩;have C:=i.cell 0;have D:=b3.cell 0;have E:=b3.cell 1;simp at C D E;obtain⟨Ti,Q,R,G⟩:=gE.Ci Y.drew ue nV m ds _ (j.dW (F:=cr) (cS.refl cr Y).drew (λq=>q)) ui (s,(id:Int)) (J V 0) A.O ok;have Q:(eF 202 (.map (Z m)) (cg #[J V s,J V id]) (J V 0)).run af Y.drew=.ok () Ti:=Q;have S:=i.drew.dW G (λq=>X q.symm);have T:=((cS.bn (F:=One m) l).drew.trans G);obtain⟨n,H,o⟩:=bU S R T;clear b3 i j l S R G T;go_wp2_with fail;go_region;all_goals
   go_wp2_with fail;go_ret;refine⟨rfl,⟨_,λx=>if x=(s,(id:Int)) then 0 else v x,?_,?_,y.O⟩,?_⟩
   ·first|exact n.O|exact n.O.drew
   ·have U:=H.O.congr (g:=λx=>J V (if x=(s,(id:Int)) then 0 else v x)) (λx _=>by split<;>rfl);first|exact U|exact U.dW (F:=cr) ((cS.refl cr _).drewN _) (λq=>q)
   ·first|exact o.O|exact o.O.drewN _
end
def LM{x:M.yy}{n:Int}(b:Bi x.high)(a:Bi n):Bi (x.mark n).high:=by
 unfold M.yy.mark;split
 ·exact a
 split
 ·exact a
 split<;>exact b
def uL(r:Nat)(W:aw)(a b c:Value):cS (One r) W (((W.setCell ⟨r,0,I⟩ a).setCell ⟨r,1,I⟩ b).setCell ⟨r,2,I⟩ c):=
 (((cS.refl (One r) W).setCell (p:=⟨r,0,I⟩) (.inl rfl) a).setCell (p:=⟨r,1,I⟩) (.inl rfl) b).setCell (p:=⟨r,2,I⟩) (.inl rfl) c
def Bn(B:vi)(aG cX:Int)(b:M.mf)(a:M.js)(r:List M.js)(w:aw)(C:gC w B aG cX b)(hh:b.bD=a::r) :
  aF af 168 #[aq (Z ⟨B.g,0,I⟩)] w λe w'=>∃B',e=av (ug a)/\gC w' B' aG cX b.least/\B'.g=B.g/\cS B.own w w'/\∀i,B'.own i->B.own i:=by
 have f:=C.row;rw[hh]at f;have Tt:(a::r).length=r.length+1:=dt;rw[Tt]at f;obtain⟨A,c,P⟩:=bA f;rw[P]at f;obtain⟨gr,rfl,TM,hc⟩:=sX f z;obtain⟨d0,d1,d2⟩:=hc 0 a dt;simp only[qA,cO]at d0 d1 d2;have Tu:gr≠B.g:=C.ne gr (by rw[P];rfl);have L:=(C.et a (by rw[hh];simp)).1;have D:∀W,aF af 221 #[yB b.out,J V a.bO] W λe w'=>e=av (yB (b.out.mark a.bO))/\aC W w':=λW=>D0 b.out a.bO W C.out L;have h:=C.cw;have TA:=h.lt;have Tv:=uc d0;have E:Bi b.least.out.high:=by
  unfold M.mf.least;rw[hh];simp only;split
  ·exact LM C.out L
  ·exact L
 have t:b.least=⟨r,true,if b.begun then b.out.mark a.bO else⟨a.bO,1⟩⟩:=by unfold M.mf.least;rw[hh]
 have G:∀x∈r,Bi x.bO/\Bi x.jv:=λx hx=>C.et x (by rw[hh];simp[hx]);have TC:r.length<=8:=by have:=C.small;rw[hh]at this;simp at this;omega
 have Q:∀W,W.ownsRow 0 326 3 (ae (Z ⟨gr,0,I⟩) (r.length+1) c) (r.length+1) (sa a++jh r)->aF af 220 #[ae (Z ⟨gr,0,I⟩) (r.length+1) c,J V 0,J V 1] W λe w'=>∃v',e=av v'/\w'.ownsRow 0 326 3 v' r.length (jh r)/\cS (λi=>(ae (Z ⟨gr,0,I⟩) (r.length+1) c).ownBlock=Z i) W w'/\v'.ownBlock=(ae (Z ⟨gr,0,I⟩) (r.length+1) c).ownBlock:=
  λW o=>EA r.length _ (sa a) (jh r) W rfl o (Bz r)
 rw[t]at E ⊢;have T:=C.aG;have U:=C.cX;obtain⟨Tw,Tx,R,Ty,S,Tf,HV⟩:=lV h (show w.ownsRow 0 326 3 (ae (Z ⟨gr,0,I⟩) (r.length+1) c) (r.length+1) (sa a++jh r) from f) Q D E G P;have c2:=h.cell 2;have c3:=h.cell 3;have c4:=h.cell 4;have c5:=h.cell 5;simp[P]at c2 c3 c4 c5;have TD:(0:Int)<(r.length:Int)+1:=z;clear C f hc t D h Q E G hh Tt;go_enter func168,ntmps168;go_upto_region 2 with fail;obtain⟨r2,Tg⟩:=dH w.heap.size;obtain⟨r3,Ti⟩:=dH (w.heap.size+1);rw[<-Ti,<-Tg];refine aW (λW=>aK W r2 326 #[J V 0,J V 0,J V 0]/\aK W r3 326 #[J V a.bO,J V a.jv,J V a.id]/\aK W B.g 201 (Ks B aG cX b)/\W.ownsRow 0 326 3 (ae (Z ⟨gr,0,I⟩) (r.length+1) c) (r.length+1) (sa a++jh r)/\cS cr w W)
  ⟨(aK.newAt _ _ _ _ Tg).alloc _,aK.newAt _ _ _ _ (by rw[Ti];simp),(Tw.O.alloc _).alloc _,(Tx.O.alloc _).alloc _,((cS.refl _ w).alloc _).alloc _⟩ ?_
 rintro W ⟨b2,b3,bg,o1,u1⟩;have e2:r2≠gr:=z;have e3:r3≠gr:=z;have e4:r2≠B.g:=z;have e5:r3≠B.g:=z;have e6:r3≠r2:=z;have e7:w.heap.size<=r2:=z;have e8:r2≠r3:=z;have e9:B.g≠r2:=z;have TN:B.g≠r3:=z;have TO:B.g≠gr:=λe=>Tu e.symm;clear Tg Ti Tw Tx c2 c3 c4 c5 d0 d1 d2 TA Tv;have c2:=bg.cell 2;have f2:=bg.frozen 2;simp[P]at c2;obtain⟨W2,W3,WG,WO,WU⟩:=gY b2 b3 bg o1 u1;clear b2 b3 bg o1 u1;go_upto_region 3 with fail;refine(R.O W WO.O).mono ?_;rintro e w3 ⟨v',rfl,o3,u3,Tj⟩;obtain⟨m,n,rfl⟩:=bA o3;have g3:=WG.O.dW u3 (λq=>by simp[eR]at q;exact Tu q);have N:=W2.O.dW u3 (λq=>by simp[eR]at q;exact e2 q.symm);have k3:=W3.O.dW u3 (λq=>by simp[eR]at q;exact e3 q.symm);have uu:cS B.own w w3:=(WU.O.mono λi _ q=>q.elim).trans (u3.mono λi _ q=>.inr (by rw[P];exact q));clear WG W2 W3 WU WO u3 R c2 f2;have c2:=g3.cell 2;have f2:=g3.frozen 2;simp[P]at c2;have Tk:∀i,(ae m r.length n).ownBlock=Z i->i≠B.g:=λi hi e=>by
  rw[Tj]at hi;simp[eR]at hi;omega
 have G4:=g3.bC 2 (ae m r.length n);have K2:=N.dS (p:=⟨B.g,2,I⟩) e4 (ae m r.length n);have K3:=k3.dS (p:=⟨B.g,2,I⟩) e5 (ae m r.length n);have O4:=du o3 (cS.setCell (F:=One B.g) (p:=⟨B.g,2,I⟩) (cS.refl _ _) (.inl rfl) (ae m r.length n)) (λi hi q=>Tk i hi q);have U4:=uu.setCell (p:=⟨B.g,2,I⟩) (.inl (.inl rfl)) (ae m r.length n);simp at G4;obtain⟨k,H,s,Tl,Tm,Tn,To⟩:=lV G4 K2 K3 O4 U4 Tj Tk;clear G4 K2 K3 O4 U4 g3 N k3 uu o3 Tj Tk;go_upto_region 3 with fail;clear c2 f2;generalize w3.setCell ⟨B.g,2,I⟩ (ae m r.length n)=X at k H s Tl Tm ⊢;have c3:=k.O.cell 3;simp at c3;have fin:∀(y:M.yy) (Y:aw),aK Y B.g 201 #[J V aG,J V cX,ae m r.length n,ai true,J V y.high,J .u64 y.bits]->Y.ownsRow 0 326 3 (ae m r.length n) r.length (jh r)->cS B.own w Y->Bi y.high ->
   gC Y ⟨B.g,ae m r.length n⟩ aG cX ⟨r,true,y⟩/\cS B.own w Y/\∀i,(⟨B.g,ae m r.length n⟩:vi).own i->B.own i:=λy Y hB hO hU hy =>
  ⟨⟨hB,hO,Tf.O,hy,TC,T,U⟩,hU,λi hi=>by
   rcases hi with rfl|hi
   ·exact .inl rfl
   ·rw[Tn.O]at hi;exact .inr (by rw[P];exact hi)⟩
 have Tz:=au fin;clear fin;cases Tp:b.begun<;>rw[Tp]at c3
 ·have x0:=s.O.cell 0;simp at x0;have TE:=s.O.lt;have TF:=k.O.lt;have TG:=H.O.lt;go_wp2_with (refine(vn a.bO X).mono ?_;rintro e w5 ⟨rfl,b5⟩;have j:=k.O.kept b5;have d:=H.O.kept b5;have u:=s.O.kept b5;have O5:=du Tl.O (cS.bn (F:=cr) b5) (λ_ _ q=>q);have U5:=Tm.O.trans (cS.bn b5);have g3:=j.cell 3;have g4:=j.cell 4;have g5:=j.cell 5;have h3:=j.frozen 3;have h4:=j.frozen 4;have h5:=j.frozen 5;have t0:=u.cell 0;have t1:=u.cell 1;have t2:=u.cell 2;have k0:=d.cell 0;have k1:=d.cell 1;have N:=d.cell 2;have j0:=d.frozen 0;have j1:=d.frozen 1;have j2:=d.frozen 2;simp at g3 g4 g5 t0 t1 t2 k0 k1 N);all_goals
   have YR:=(((((((d.dS (p:=⟨B.g,4,I⟩) e4 (J V a.bO)).dS (p:=⟨B.g,5,I⟩) e4 (J .u64 1)).dS (p:=⟨B.g,3,I⟩) e4 (ai true)).bC 0 (J V a.bO)).bC 1 (J V a.jv)).bC 2 (J V a.id)));have YG:=(((((((j.bC 4 (J V a.bO)).bC 5 (J .u64 1)).bC 3 (ai true)).dS (p:=⟨r2,0,I⟩) e9 (J V a.bO)).dS (p:=⟨r2,1,I⟩) e9 (J V a.jv)).dS (p:=⟨r2,2,I⟩) e9 (J V a.id)));simp at YG;have s4:=((cS.refl (One B.g) w5).setCell (p:=⟨B.g,4,I⟩) (.inl rfl) (J V a.bO)).setCell (p:=⟨B.g,5,I⟩) (.inl rfl) (J .u64 1);have s5:=s4.setCell (p:=⟨B.g,3,I⟩) (.inl rfl) (ai true);have YO:=du (du O5 s5 (λi hi q=>To.O i hi q)) (uL r2 _ (J V a.bO) (J V a.jv) (J V a.id)) (λi hi q=>by have q':i=r2:=q;rw[Tn.O]at hi;simp[eR]at hi;omega);have YU:=(U5.trans (s5.mono λi _ q=>.inl q)).step (uL r2 _ (J V a.bO) (J V a.jv) (J V a.id)) (λi q=>.inr (by rw[show i=r2 from q];exact e7));have L0:=YR.cell 0;have L1:=YR.cell 1;have L2:=YR.cell 2;simp at L0 L1 L2;refine ax (v:=ug a) (by simp[aV,results168,go_sem,L0,L1,L2]) rfl ?_;obtain⟨q1,q2,q3⟩:=Tz.O ⟨a.bO,1⟩ _ YG YO YU L;exact⟨rfl,⟨B.g,ae m r.length n⟩,q1,rfl,q2,q3⟩
 ·have Tq:=Ty.O;have K:=S.O;rw[Tp]at K;simp only[if_true]at K ⊢;generalize hy:b.out.mark a.bO=y at Tq K;obtain⟨yh,yb⟩:=y;have HY:=au hy;clear hy;obtain⟨HM,TH⟩:=bu Tq K;clear Tq K Ty S;have x0:=s.O.cell 0;have TI:=k.O.cell 4;have TJ:=k.O.cell 5;simp at x0 TI TJ;have TE:=s.O.lt;have TF:=k.O.lt;have TG:=H.O.lt;go_wp2_with fail;go_region_with (refine(HM.O _).mono ?_;rintro e w5 ⟨rfl,Ts⟩;have b5:aC X w5:=(by first|exact Ts|exact(cd (ao _ X) 1).trans Ts);have j:=k.O.kept b5;have d:=H.O.kept b5;have u:=s.O.kept b5;have O5:=du Tl.O (cS.bn (F:=cr) b5) (λ_ _ q=>q);have U5:=Tm.O.trans (cS.bn b5);have g3:=j.cell 3;have g4:=j.cell 4;have g5:=j.cell 5;have h3:=j.frozen 3;have h4:=j.frozen 4;have h5:=j.frozen 5;have t0:=u.cell 0;have t1:=u.cell 1;have t2:=u.cell 2;have k0:=d.cell 0;have k1:=d.cell 1;have N:=d.cell 2;have j0:=d.frozen 0;have j1:=d.frozen 1;have j2:=d.frozen 2;simp at g3 g4 g5 t0 t1 t2 k0 k1 N);all_goals
   refine gN (λY=>aK Y B.g 201 #[J V aG,J V cX,ae m r.length n,ai true,J V yh,J .u64 yb]/\aK Y r2 326 #[J V 0,J V 0,J V 0]/\aK Y r3 326 #[J V a.bO,J V a.jv,J V a.id]/\Y.ownsRow 0 326 3 (ae m r.length n) r.length (jh r)/\cS B.own w Y) ⟨?a1,?a2,?a3,?a4,?a5⟩ ?_;case a1 =>
    have l:=(j.bC 4 (J V yh)).bC 5 (J .u64 yb);rw[Tp]at l;simp at l;first|exact l|exact l.drew
   case a2 =>
    have l:=(d.dS (p:=⟨B.g,4,I⟩) e4 (J V yh)).dS (p:=⟨B.g,5,I⟩) e4 (J .u64 yb);first|exact l|exact l.drew
   case a3 =>
    have l:=(u.dS (p:=⟨B.g,4,I⟩) e5 (J V yh)).dS (p:=⟨B.g,5,I⟩) e5 (J .u64 yb);first|exact l|exact l.drew
   case a4 =>
    have l:=du O5 (((cS.refl (One B.g) w5).setCell (p:=⟨B.g,4,I⟩) (.inl rfl) (J V yh)).setCell (p:=⟨B.g,5,I⟩) (.inl rfl) (J .u64 yb)) (λi hi q=>To.O i hi q);first|exact l|exact du l ((cS.refl cr _).drew) (λ_ _ q=>q)
   case a5 =>
    have l:=(U5.setCell (p:=⟨B.g,4,I⟩) (.inl (.inl rfl)) (J V yh)).setCell (p:=⟨B.g,5,I⟩) (.inl (.inl rfl)) (J .u64 yb);first|exact l|exact l.drew
   clear j d u O5 U5 b5 Ts g3 g4 g5 h3 h4 h5 t0 t1 t2 k0 k1 N j0 j1 j2;rintro Y ⟨j,d,u,O5,U5⟩;have g3:=j.cell 3;have h3:=j.frozen 3;have t0:=u.cell 0;have t1:=u.cell 1;have t2:=u.cell 2;have k0:=d.cell 0;have k1:=d.cell 1;have N:=d.cell 2;have j0:=d.frozen 0;have j1:=d.frozen 1;have j2:=d.frozen 2;simp at g3 t0 t1 t2 k0 k1 N;go_wp2_with fail;have YR:=((((d.dS (p:=⟨B.g,3,I⟩) e4 (ai true)).bC 0 (J V a.bO)).bC 1 (J V a.jv)).bC 2 (J V a.id));have YG:=((((j.bC 3 (ai true)).dS (p:=⟨r2,0,I⟩) e9 (J V a.bO)).dS (p:=⟨r2,1,I⟩) e9 (J V a.jv)).dS (p:=⟨r2,2,I⟩) e9 (J V a.id));simp at YG;have s5:=(cS.refl (One B.g) Y).setCell (p:=⟨B.g,3,I⟩) (.inl rfl) (ai true);have YO:=du (du O5 s5 (λi hi q=>To.O i hi q)) (uL r2 _ (J V a.bO) (J V a.jv) (J V a.id)) (λi hi q=>by have q':i=r2:=q;rw[Tn.O]at hi;simp[eR]at hi;omega);have YU:=(U5.trans (s5.mono λi _ q=>.inl q)).step (uL r2 _ (J V a.bO) (J V a.jv) (J V a.id)) (λi q=>.inr (by rw[show i=r2 from q];exact e7));have L0:=YR.cell 0;have L1:=YR.cell 1;have L2:=YR.cell 2;simp at L0 L1 L2;refine ax (v:=ug a) (by simp[aV,results168,go_sem,L0,L1,L2]) rfl ?_;obtain⟨q1,q2,q3⟩:=Tz.O ⟨yh,yb⟩ _ YG YO YU TH.O;rw[HY.O];exact⟨rfl,⟨B.g,ae m r.length n⟩,q1,rfl,q2,q3⟩
def Bd(B:vi)(aG cX now:Int)(b:M.mf)(w:aw)(j:gC w B aG cX b)(hn:Bi now) :
  aF af 162 #[aq (Z ⟨B.g,0,I⟩),J V now] w λe w'=>e=av (ai (b.ready aG cX now))/\aC w w':=by
 obtain⟨A,c,u⟩:=bA j.row;have o:∀(r2 m:Nat) (W:aw),aK W m 2 #[J V now]->aK W r2 114 #[aq (Z ⟨B.g,0,I⟩)]->gC W B aG cX b->aF af 216 #[B.bD,.func (.func 214) #[] #[aq (Z ⟨m,0,I⟩),aq (Z ⟨r2,0,I⟩)]] W λe w'=>e=av (ai (b.bD.any λh=>decide (cX<=now-h.jv)))/\aC W w':=
  λr2 m W h3 h2 x=>xH ⟨m,0,I⟩ ⟨r2,0,I⟩ (λh=>decide (cX<=now-h.jv)) (λw=>aK w m 2 #[J V now]/\aK w r2 114 #[aq (Z ⟨B.g,0,I⟩)]/\gC w B aG cX b) (λw w' bl q=>⟨q.1.kept bl,q.2.1.kept bl,q.2.2.below bl⟩) b.bD.length B.bD b.bD W
   (λh hh W2 q=>FV m r2 B.g now _ cX h W2 q.1 q.2.1 q.2.2.cw rfl hn (j.et h hh).2) x.row ⟨h3,h2,x⟩ (lE j.small)
 have y:∀W,gC W B aG cX b->aF af 215 #[aq (Z ⟨B.g,0,I⟩)] W λe w'=>e=av (aB #[J V (if b.begun then b.out.high+1 else 0),ai b.begun])/\w'=W:=λW h=>yw B aG cX b W h;have lt:=j.cw.lt;have C:b.ready aG cX now=match b.bD with | []=>false | h::_=>!b.begun||h.bO==b.out.high+1||decide (aG<=b.bD.length)||b.bD.any (λh=>decide (cX<=now-h.jv)):=rfl
 obtain⟨HB,T,H,K⟩:=cA j o y C;clear o y C;cases hh:b.bD with
 |nil =>
  have hr:b.ready aG cX now=false:=by rw[K.O,hh]
  have c2:=j.cw.cell 2;simp[u,hh]at c2;have L:=au hr;clear hr j;go_enter func162,ntmps162;go_wp2_with fail;go_ret;exact⟨by rw[L.O];rfl,((ao _ w).alloc (aj _) _).alloc dt _⟩
 |cons h r =>
  have hlen:b.bD.length=r.length+1:=by rw[hh];simp
  have k:=j.row;rw[u]at k;obtain⟨gr,rfl,Tg,U⟩:=sX k z;obtain⟨d0,_,_⟩:=U 0 h (by rw[hh];rfl);simp only[qA]at d0;have N:=uc d0;have c2:=j.cw.cell 2;have P:=j.cw.cell 0;simp[u]at c2 P;rw[hlen]at c2;have Ti:((r.length:Int)+1==0)=false:=dZ;have Tj:¬((r.length:Int)+1=0):=z;have Tk:(0:Int)<(r.length:Int)+1:=z;have D:B.bD=ae (Z ⟨gr,0,I⟩) (r.length+1) c:=by rw[u,hlen]
  have b2:=aK.new w 114 #[aq (Z ⟨B.g,0,I⟩)];have d:=au K.O;rw[hh]at d;simp only at d;have HV:=au D;clear u k U K hlen D;go_enter func162,ntmps162;go_upto_region 1 with fail;obtain⟨r2,p⟩:=dH w.heap.size;obtain⟨m,s⟩:=dH (w.heap.size+1);rw[<-s,<-p];refine aW (λW=>aK W r2 114 #[aq (Z ⟨B.g,0,I⟩)]/\aK W m 2 #[J V now]/\gC W B aG cX b/\aC w W/\W.cell? ⟨gr,0,I⟩=Z (J V h.bO)/\W.cell? ⟨B.g,2,I⟩=Z (ae (Z ⟨gr,0,I⟩) (r.length+1) c)/\W.cell? ⟨B.g,0,I⟩=Z (J V aG))
   ⟨(aK.newAt _ _ _ _ p).alloc _,aK.newAt _ _ _ _ (by rw[s];simp),j.below (((ao _ w).alloc (aj _) _).alloc dt _),((ao _ w).alloc (aj _) _).alloc dt _,aM (((ao _ w).alloc (aj _) _).alloc dt _) d0,aM (((ao _ w).alloc (aj _) _).alloc dt _) c2,aM (((ao _ w).alloc (aj _) _).alloc dt _) P⟩ ?_
  rintro W ⟨b2,b3,x,bl,d0,c2,P⟩;have x2:=b2.cell 0;have x3:=b3.cell 0;simp at x2 x3;obtain⟨X,Y,t,E⟩:=cA b2 b3 x bl;clear b2 b3 x bl p s j HB lt N;cases l:b.begun<;>rw[l]at d
  ·have a:=au d;clear d;go_wp2_with (refine(H.O W t.O).mono ?_;rintro e w2 ⟨rfl,i⟩;have f:=i.symm;subst f;rw[l];simp only[Bool.false_eq_true,if_false]);go_quiet (fail);all_goals
    go_wp2_with fail;go_ret;exact⟨by rw[a.O];rfl,cd E.O _⟩
  ·by_cases Q:h.bO=b.out.high+1
   ·have hr:b.ready aG cX now=true:=by rw[d];simp[Q]
    have a:=au hr;clear d hr;rw[Q]at d0;go_wp2_with (refine(H.O W t.O).mono ?_;rintro e w2 ⟨rfl,i⟩;have f:=i.symm;subst f;rw[l];simp only[if_true]);go_quiet (fail);all_goals
     go_wp2_with fail;go_ret;exact⟨by rw[a.O];rfl,cd E.O _⟩
   ·have e2:(h.bO==b.out.high+1)=false:=by simpa using Q
    by_cases R:aG<=(r.length:Int)+1
    ·have hr:b.ready aG cX now=true:=by rw[d];simp[R]
     have a:=au hr;clear d hr;go_wp2_with (refine(H.O W t.O).mono ?_;rintro e w2 ⟨rfl,i⟩;have f:=i.symm;subst f;rw[l];simp only[if_true]);go_quiet (fail);all_goals
      go_wp2_with fail;go_ret;exact⟨by rw[a.O];rfl,cd E.O _⟩
    ·have e4:decide (aG<=(r.length:Int)+1)=false:=by simpa using R
     have hr:b.ready aG cX now=b.bD.any (λh=>decide (cX<=now-h.jv)):=by rw[d,e2,hh];simp[R]
     have a:=au hr;clear d hr;have n:=T.O r2 m;rw[HV.O]at n;generalize b.bD.any (λh=>decide (cX<=now-h.jv))=res at n a;have S:=au n;clear n T;go_wp2_with (refine(H.O W t.O).mono ?_;rintro e w2 ⟨rfl,i⟩;have f:=i.symm;subst f;rw[l];simp only[if_true]);go_region_with (refine(S.O _ (by first|exact Y.O.drew|exact Y.O) (by first|exact X.O.drew|exact X.O) (by first|exact t.O.dW (F:=cr) (cS.refl cr W).drew (λ_ _ q=>q)|exact t.O)).mono ?_;rintro e w5 ⟨rfl,G⟩;have b5:aC W w5:=(by first|exact G|exact(cd (ao _ W) 1).trans G));all_goals
      go_wp2_with fail;refine ax (v:=ai res) (by simp[aV,results162,go_sem,aA]) rfl ⟨by rw[a.O],?_⟩;have Tf:=E.O.trans (b5.mono E.O.size);first|exact Tf|exact cd Tf _
abbrev sorted(zs:List Int):List Int:=zs.mergeSort λx y=>decide (x<=y)
def ze{base n:Nat}{v:Value}{zs:List Int}(w:aw)(h:w.ownsRow base 3 1 v n (zs.map (J V)))(d:n<=1000000) :
  aF af 158 #[v] w λe w'=>e=av (aB #[])/\w'.ownsRow base 3 1 v n ((sorted zs).map (J V))/\w.grownBy w' v.ownBlock:=by
 have a:zs.length=n:=by have:=h.1;simpa using this
 rcases h.2 with⟨rfl,rfl⟩ | ⟨g,cap,dx,rfl,h1,h2,h3,h4,h5,h6⟩
 ·have b:zs=[]:=cU.1 a;subst b;exact(Tryz.slices_Sort_int_none I 0 w).mono λe w' ⟨q,r⟩=>⟨q,r ▸ (by simpa[sorted]using h),r ▸ ⟨rfl,rfl,rfl,aj _,λ_ _ _=>rfl⟩⟩
 ·subst a;have c:Go.Sort.Holds (J V) w g 0 zs.toArray:=holds_of_block_i h2 (by simpa using h6);refine(Tryz.slices_Sort_int g 0 cap zs w c (h.lt g rfl).2 z).mono λe w' ⟨q,n,os,r⟩=>⟨q,?_,?_⟩
  ·rw[r];exact ownsRow_sorted_i (by simp[sorted]) h1 h2 h3 h4 h5
  ·rw[r];exact grownBy_sorted_i _
end Go.Proofs.YtkfblammcilfhaaGreatDoor
