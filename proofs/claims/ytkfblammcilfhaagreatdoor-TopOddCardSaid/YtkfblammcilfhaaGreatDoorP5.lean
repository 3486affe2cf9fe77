import Derived.Test.YtkfblammcilfhaaGreatDoorP3
import Derived.Test.YtkfblammcilfhaaGreatDoorP4
set_option linter.all false
set_option maxRecDepth 100000
set_option maxHeartbeats 100000000
open Go.ChangeShapes Go.WideShapes Go.ChangeAt Go.RowKit Go.Proofs.Tryz
open List renaming length_append->cG,getElem?_eq_some_iff->aS,getElem_of_mem->ed,getElem?_eq_getElem->ay,mem_of_getElem?->fb,filter_append->ju,length_map->gP,length_filter_le->eE,mem_map->eU,mem_filter->eL,pairwise_map->sw,length_eq_zero_iff->cU,range->kq
open Go renaming World->aw,Calls->aF,bodyPost_ret->ax,results->aV,bodyPost_end->dq,results_none->bT,info_parts->cY
open Go.Proofs.Tryz renaming prog->af
open Go.RowKit.Below renaming refl->ao
open Go.IntKind renaming i64->V,u8->bI
open Nat renaming le_refl->aj,zero_mul->qA,le_trans->aP
open Go.Instr renaming lookup->cD,mapUpdate->eF,entry->sF
open Option.some renaming injEq->bf
open List.Nodup renaming mem_erase_iff->iH,length_le_of_subset->dX
open Option renaming getD_some->gS,isSome_some->fQ,none->I,some->Z
open Go.Value renaming slice->ae,ownBlock->eR,int->J,bool->ai,pointer->aq,tuple->aB,agg->cg
open Bool renaming and_eq_true->cM
open List.Pairwise renaming imp_of_mem->nt,filter->kP
open Go.Ending renaming returned->av
open Or renaming inl->aJ,inr->aZ
namespace Go.Proofs.YtkfblammcilfhaaGreatDoor
abbrev sa(h:M.js):List Value:=[J V h.bO,J V h.jv,J V h.id]
abbrev ug(h:M.js):Value:=cg #[J V h.bO,J V h.jv,J V h.id]
abbrev jh(l:List M.js):List Value:=l.flatMap sa
def uX(l:List M.js):(jh l).length=l.length*3:=by
 induction l with
 |nil=>rfl
 |cons h l a=>rw[show jh (h::l)=sa h++jh l from rfl,cG,a];simp;omega
def Bz(l:List M.js):∀u∈jh l,u.oneCell'=true:=by
 intro u hu;obtain⟨h,_,hu⟩:=List.mem_flatMap.1 hu;simp at hu;rcases hu with rfl|rfl|rfl<;>rfl
def JW(l:List M.js)(i j:Nat)(b:j<3):(jh l)[i*3+j]? = (l[i]?).bind λh=>(sa h)[j]?:=by
 induction l generalizing i with
 |nil=>simp
 |cons h l a =>
  rw[show jh (h::l)=sa h++jh l from rfl];cases i with
  |zero=>rw[List.getElem?_append_left dZ];simp
  |succ i =>
   rw[List.getElem?_append_right dZ,show (i+1)*3+j-(sa h).length=i*3+j from dZ,a i];simp
def GG(l:List M.js)(i:Nat):(jh l).take (i*3)=jh (l.take i):=by
 induction l generalizing i with
 |nil=>simp
 |cons h l a =>
  cases i with
  |zero=>simp
  |succ i =>
   rw[show jh (h::l)=sa h++jh l from rfl,show (i+1)*3=(sa h).length+i*3 from dZ,List.take_length_add_append,a i];rfl
def GH(l:List M.js)(i:Nat):(jh l).drop (i*3)=jh (l.drop i):=by
 induction l generalizing i with
 |nil=>simp
 |cons h l a =>
  cases i with
  |zero=>simp
  |succ i =>
   rw[show jh (h::l)=sa h++jh l from rfl,show (i+1)*3=(sa h).length+i*3 from dZ,List.drop_length_add_append,a i];rfl
def sX{w:aw}{n:Nat}{A:Option Addr}{c:Nat}{l:List M.js}(h:w.ownsRow 0 326 3 (ae A n c) n (jh l))(h0:0<n):∃g,A=Z ⟨g,0,I⟩/\n<=c/\∀i x,l[i]? = Z x->w.cell? ⟨g,i*3,I⟩=Z (J V x.bO)/\w.cell? ⟨g,i*3+1,I⟩=Z (J V x.jv)/\w.cell? ⟨g,i*3+2,I⟩=Z (J V x.id):=by
 have k:=h.1;rw[uX]at k;rcases h.2 with⟨_,e⟩ | ⟨g,cap,dx,e,_,a,b,_,m,d⟩
 ·omega
 ·injection e with o r p
  subst o p;have a:aK w g 326 dx:=a;refine⟨g,rfl,b,λi x f=>?_⟩;have s:=(aS.1 f).1;have key:∀j,j<3->w.cell? ⟨g,i*3+j,I⟩=(sa x)[j]?:=λj q=>by
   rw[a.cell];have:=JW l i j q;rw[f]at this;rw[<-d,List.getElem?_take_of_lt z,Array.getElem?_toList]at this;exact this
  exact⟨key 0 z,key 1 z,key 2 z⟩
def pq(p:M.js->Bool)(l:List M.js):Int:=if l.any p then((l.takeWhile λh=>!p h).length:Nat) else -1
def vI{p:M.js->Bool}{l:List M.js}{k:Nat}{x:M.js}(a:l[k]? = Z x)(hp:p x=true)(b:∀j y,j<k->l[j]? = Z y->p y=false):pq p l=k:=by
 induction l generalizing k with
 |nil=>simp at a
 |cons y l c =>
  cases k with
  |zero=>simp at a;subst a;simp[pq,hp]
  |succ k =>
   have hy:p y=false:=b 0 y z dt;have:=c (k:=k) (by simpa using a) (λj d f e=>b (j+1) d z (by simpa using e));unfold pq at this ⊢;rw[List.any_cons,hy,Bool.false_or];split at this
   ·rename_i q;rw[if_pos q];rw[List.takeWhile_cons,hy];simp at this ⊢;omega
   ·omega
def xC{p:M.js->Bool}{l:List M.js}(h:∀(j:Nat) (y:M.js),l[j]? = Z y->p y=false):pq p l = -1:=by
 unfold pq;rw[if_neg];rw[Bool.not_eq_true,List.any_eq_false];intro x a;obtain⟨j,b,e⟩:=ed a;simp[h j x (by rw[ay b,e])]
def Az(a1:Addr)(p:M.js->Bool)(s:aw->Prop)(K:∀w w',aC w w'->s w->s w')(n:Nat)(v:Value)(l:List M.js)(w:aw)
  (D:∀h∈l,∀W,s W->aF af 231 #[ug h,aq (Z a1)] W λe w'=>e=av (ai (p h))/\aC W w') (h:w.ownsRow 0 326 3 v n (jh l)) (h0:s w) (X:n<=1000) :
  aF af 234 #[v,.func (.func 231) #[] #[aq (Z a1)]] w λe w'=>e=av (J V (pq p l))/\aC w w':=by
 have E:=h.1;rw[uX]at E;have L:l.length=n:=z;obtain⟨A,c,rfl⟩:=bA h;have F:=ao w.heap.size w;have b:(∀(j:Nat) (y:M.js),j<n->l[j]? = Z y->p y=false)->pq p l = -1:=λq=>xC λj y hy=>q j y (lE ((aS.1 hy).1)) hy;obtain⟨t,N,G,P⟩:=cA b h D h0;clear b E h D h0;go_enter func234,ntmps234;go_wp2_with fail;go_loopw [5,8] (λa i wr=>∃k:Nat,i=J V k/\k<=n/\(∀(j:Nat) (y:M.js),j<k->l[j]? = Z y->p y=false)/\aC w wr) (λa i _=>n-(intOf i).toNat);case atStart=>exact⟨0,rfl,z,λj y H=>absurd H z,F⟩
 case round =>
  clear F;obtain⟨k,rfl,Y,f,d⟩:=hrel;by_cases Q:k<n
  ·obtain⟨x,m⟩:∃x,l[k]? = Z x:=⟨_,ay z⟩;obtain⟨g,rfl,R,u⟩:=sX N.O z;obtain⟨d0,d1,d2⟩:=u k x m;have c0:=aM d d0;have c1:=aM d d1;have c2:=aM d d2;have hw:((k:Int)<(n:Int)):=z;have hm:=fb m;obtain⟨o,S,T⟩:=bU (K _ _ d P.O) f m;cases hp:p x
   ·clear f m u d0 d1 d2;go_wp2_with (refine(G.O x hm _ o.O).mono ?_;rintro e w2 ⟨rfl,b2⟩;rw[hp]);go_roundw;case rel=>exact⟨k+1,by go_num,z,λj y H hy=>by
     by_cases e:j=k
     ·subst e;rw[T.O]at hy;cases hy;exact hp
     ·exact S.O j y z hy,d.trans (b2.mono d.size)⟩
    case measure=>simp[intOf];omega
   ·have r:=vI m hp f;have B:=au r;clear f m u d0 d1 d2 r;go_wp2_with (refine(G.O x hm _ o.O).mono ?_;rintro e w2 ⟨rfl,b2⟩;rw[hp]);go_ret;exact⟨by rw[B.O];rfl,d.trans (b2.mono d.size)⟩
  ·have C:k=n:=z;subst C;have U:=au (t.O f);clear f;go_wp2_with fail;go_ret;exact⟨by rw[U.O];rfl,d⟩
def xG(a1:Addr)(p:M.js->Bool)(a:aw->Prop)(b:∀w w',aC w w'->a w->a w')(n:Nat)(v:Value)(l:List M.js)(w:aw)
  (d:∀h∈l,∀W,a W->aF af 231 #[ug h,aq (Z a1)] W λe w'=>e=av (ai (p h))/\aC W w') (h:w.ownsRow 0 326 3 v n (jh l)) (h0:a w) (j:n<=1000) :
  aF af 216 #[v,.func (.func 231) #[] #[aq (Z a1)]] w λe w'=>e=av (ai (l.any p))/\aC w w':=by
 have f:=Az a1 p a b n v l w d h h0 j;obtain⟨A,c,rfl⟩:=bA h;have g:=au f;clear f d h h0 b;cases i:l.any p
 ·have e:pq p l = -1:=by unfold pq;rw[i];rfl
  go_enter func216,ntmps216;go_wp2_with (refine g.O.mono ?_;rintro e w2 ⟨rfl,b2⟩;rw[e]);go_ret;exact⟨rfl,b2⟩
 ·obtain⟨m,e⟩:∃m:Nat,pq p l=m:=⟨_,by unfold pq;rw[i,if_pos rfl]⟩;have hm:(0:Int)<=(m:Int):=z;go_enter func216,ntmps216;go_wp2_with (refine g.O.mono ?_;rintro e w2 ⟨rfl,b2⟩;rw[e]);go_ret;exact⟨rfl,b2⟩
def Ay(a1:Addr)(p:M.js->Bool)(s:aw->Prop)(K:∀w w',aC w w'->s w->s w')(n:Nat)(v:Value)(l:List M.js)(w:aw)
  (D:∀h∈l,∀W,s W->aF af 232 #[ug h,aq (Z a1)] W λe w'=>e=av (ai (p h))/\aC W w') (h:w.ownsRow 0 326 3 v n (jh l)) (h0:s w) (X:n<=1000) :
  aF af 234 #[v,.func (.func 232) #[] #[aq (Z a1)]] w λe w'=>e=av (J V (pq p l))/\aC w w':=by
 have E:=h.1;rw[uX]at E;have L:l.length=n:=z;obtain⟨A,c,rfl⟩:=bA h;have F:=ao w.heap.size w;have b:(∀(j:Nat) (y:M.js),j<n->l[j]? = Z y->p y=false)->pq p l = -1:=λq=>xC λj y hy=>q j y (lE ((aS.1 hy).1)) hy;obtain⟨t,N,G,P⟩:=cA b h D h0;clear b E h D h0;go_enter func234,ntmps234;go_wp2_with fail;go_loopw [5,8] (λa i wr=>∃k:Nat,i=J V k/\k<=n/\(∀(j:Nat) (y:M.js),j<k->l[j]? = Z y->p y=false)/\aC w wr) (λa i _=>n-(intOf i).toNat);case atStart=>exact⟨0,rfl,z,λj y H=>absurd H z,F⟩
 case round =>
  clear F;obtain⟨k,rfl,Y,f,d⟩:=hrel;by_cases Q:k<n
  ·obtain⟨x,m⟩:∃x,l[k]? = Z x:=⟨_,ay z⟩;obtain⟨g,rfl,R,u⟩:=sX N.O z;obtain⟨d0,d1,d2⟩:=u k x m;have c0:=aM d d0;have c1:=aM d d1;have c2:=aM d d2;have hw:((k:Int)<(n:Int)):=z;have hm:=fb m;obtain⟨o,S,T⟩:=bU (K _ _ d P.O) f m;cases hp:p x
   ·clear f m u d0 d1 d2;go_wp2_with (refine(G.O x hm _ o.O).mono ?_;rintro e w2 ⟨rfl,b2⟩;rw[hp]);go_roundw;case rel=>exact⟨k+1,by go_num,z,λj y H hy=>by
     by_cases e:j=k
     ·subst e;rw[T.O]at hy;cases hy;exact hp
     ·exact S.O j y z hy,d.trans (b2.mono d.size)⟩
    case measure=>simp[intOf];omega
   ·have r:=vI m hp f;have B:=au r;clear f m u d0 d1 d2 r;go_wp2_with (refine(G.O x hm _ o.O).mono ?_;rintro e w2 ⟨rfl,b2⟩;rw[hp]);go_ret;exact⟨by rw[B.O];rfl,d.trans (b2.mono d.size)⟩
  ·have C:k=n:=z;subst C;have U:=au (t.O f);clear f;go_wp2_with fail;go_ret;exact⟨by rw[U.O];rfl,d⟩
def AA(a1 a2:Addr)(p:M.js->Bool)(s:aw->Prop)(K:∀w w',aC w w'->s w->s w')(n:Nat)(v:Value)(l:List M.js)(w:aw)
  (D:∀h∈l,∀W,s W->aF af 214 #[ug h,aq (Z a1),aq (Z a2)] W λe w'=>e=av (ai (p h))/\aC W w') (h:w.ownsRow 0 326 3 v n (jh l)) (h0:s w) (X:n<=1000) :
  aF af 234 #[v,.func (.func 214) #[] #[aq (Z a1),aq (Z a2)]] w λe w'=>e=av (J V (pq p l))/\aC w w':=by
 have E:=h.1;rw[uX]at E;have L:l.length=n:=z;obtain⟨A,c,rfl⟩:=bA h;have F:=ao w.heap.size w;have b:(∀(j:Nat) (y:M.js),j<n->l[j]? = Z y->p y=false)->pq p l = -1:=λq=>xC λj y hy=>q j y (lE ((aS.1 hy).1)) hy;obtain⟨t,N,G,P⟩:=cA b h D h0;clear b E h D h0;go_enter func234,ntmps234;go_wp2_with fail;go_loopw [5,8] (λa i wr=>∃k:Nat,i=J V k/\k<=n/\(∀(j:Nat) (y:M.js),j<k->l[j]? = Z y->p y=false)/\aC w wr) (λa i _=>n-(intOf i).toNat);case atStart=>exact⟨0,rfl,z,λj y H=>absurd H z,F⟩
 case round =>
  clear F;obtain⟨k,rfl,Y,f,d⟩:=hrel;by_cases Q:k<n
  ·obtain⟨x,m⟩:∃x,l[k]? = Z x:=⟨_,ay z⟩;obtain⟨g,rfl,R,u⟩:=sX N.O z;obtain⟨d0,d1,d2⟩:=u k x m;have c0:=aM d d0;have c1:=aM d d1;have c2:=aM d d2;have hw:((k:Int)<(n:Int)):=z;have hm:=fb m;obtain⟨o,S,T⟩:=bU (K _ _ d P.O) f m;cases hp:p x
   ·clear f m u d0 d1 d2;go_wp2_with (refine(G.O x hm _ o.O).mono ?_;rintro e w2 ⟨rfl,b2⟩;rw[hp]);go_roundw;case rel=>exact⟨k+1,by go_num,z,λj y H hy=>by
     by_cases e:j=k
     ·subst e;rw[T.O]at hy;cases hy;exact hp
     ·exact S.O j y z hy,d.trans (b2.mono d.size)⟩
    case measure=>simp[intOf];omega
   ·have r:=vI m hp f;have B:=au r;clear f m u d0 d1 d2 r;go_wp2_with (refine(G.O x hm _ o.O).mono ?_;rintro e w2 ⟨rfl,b2⟩;rw[hp]);go_ret;exact⟨by rw[B.O];rfl,d.trans (b2.mono d.size)⟩
  ·have C:k=n:=z;subst C;have U:=au (t.O f);clear f;go_wp2_with fail;go_ret;exact⟨by rw[U.O];rfl,d⟩
def xH(a1 a2:Addr)(p:M.js->Bool)(a:aw->Prop)(b:∀w w',aC w w'->a w->a w')(n:Nat)(v:Value)(l:List M.js)(w:aw)
  (d:∀h∈l,∀W,a W->aF af 214 #[ug h,aq (Z a1),aq (Z a2)] W λe w'=>e=av (ai (p h))/\aC W w') (h:w.ownsRow 0 326 3 v n (jh l)) (h0:a w) (j:n<=1000) :
  aF af 216 #[v,.func (.func 214) #[] #[aq (Z a1),aq (Z a2)]] w λe w'=>e=av (ai (l.any p))/\aC w w':=by
 have f:=AA a1 a2 p a b n v l w d h h0 j;obtain⟨A,c,rfl⟩:=bA h;have g:=au f;clear f d h h0 b;cases i:l.any p
 ·have e:pq p l = -1:=by unfold pq;rw[i];rfl
  go_enter func216,ntmps216;go_wp2_with (refine g.O.mono ?_;rintro e w2 ⟨rfl,b2⟩;rw[e]);go_ret;exact⟨rfl,b2⟩
 ·obtain⟨m,e⟩:∃m:Nat,pq p l=m:=⟨_,by unfold pq;rw[i,if_pos rfl]⟩;have hm:(0:Int)<=(m:Int):=z;go_enter func216,ntmps216;go_wp2_with (refine g.O.mono ?_;rintro e w2 ⟨rfl,b2⟩;rw[e]);go_ret;exact⟨rfl,b2⟩
section
structure vi where
 g:Nat
 bD:Value
def vi.own(B:vi):Nat->Prop:=λi=>i=B.g\/B.bD.ownBlock=Z i
abbrev Ks(B:vi)(aG cX:Int)(b:M.mf):Array Value:=#[J V aG,J V cX,B.bD,ai b.begun,J V b.out.high,J .u64 b.out.bits]
structure gC(w:aw)(B:vi)(aG cX:Int)(b:M.mf):Prop where
 cw:aK w B.g 201 (Ks B aG cX b)
 row:w.ownsRow 0 326 3 B.bD b.bD.length (jh b.bD)
 et:∀h∈b.bD,Bi h.bO/\Bi h.jv
 out:Bi b.out.high
 small:b.bD.length<=8
 aG:1<=aG/\aG<=8
 cX:0<=cX/\cX<=1000
section
variable {w w':aw} {B:vi} {aG cX:Int} {b:M.mf}
def gC.lt(h:gC w B aG cX b):∀i,B.own i->i<w.heap.size:=by
 rintro i (rfl|a)
 ·exact h.cw.lt
 ·exact(h.row.lt i a).2
def gC.dW{F:Nat->Prop}(h:gC w B aG cX b)(u:cS F w w')(hF:∀i,B.own i->¬F i):gC w' B aG cX b:=
 ⟨h.cw.dW u (hF _ (aJ rfl)),du h.row u (λi a=>hF i (aZ a)),h.et,h.out,h.small,h.aG,h.cX⟩
def gC.below(h:gC w B aG cX b)(u:aC w w'):gC w' B aG cX b:=h.dW (F:=cr) (.bn u) λ_ _ q=>q
def gC.ne(h:gC w B aG cX b):∀i,B.bD.ownBlock=Z i->i≠B.g:=by
 intro i a e;subst e;obtain⟨t,cs,ht,c⟩:=ib h.row B.g a;simp at ht;subst ht;exact aK.jf c h.cw aR rfl
end
def Ho(B:vi)(aG cX:Int)(b:M.mf)(w:aw)(h:gC w B aG cX b):aF af 72 #[aq (Z ⟨B.g,0,I⟩)] w λe w'=>e=av (J V b.bD.length)/\w'=w:=by
 obtain⟨A,c,a⟩:=bA h.row;have c2:=h.cw.cell 2;simp[a]at c2;clear h;go_enter func72,ntmps72;go_wp2_with fail;go_ret;exact⟨rfl,rfl⟩
def yw(B:vi)(aG cX:Int)(b:M.mf)(w:aw)(h:gC w B aG cX b):aF af 215 #[aq (Z ⟨B.g,0,I⟩)] w λe w'=>e=av (aB #[J V (if b.begun then b.out.high+1 else 0),ai b.begun])/\w'=w:=by
 have c3:=h.cw.cell 3;have c4:=h.cw.cell 4;simp at c3 c4;obtain⟨c,d⟩:=h.out;have hw:V.wrap (b.out.high+1)=b.out.high+1:=IntWalk.i64_in _ ⟨z,z⟩;clear h;cases a:b.begun<;>rw[a]at c3
 ·go_enter func215,ntmps215;go_wp2_with fail;refine ax (v:=aB #[J V 0,ai false]) (by simp[aV,results215,go_sem]) rfl ⟨rfl,rfl⟩
 ·go_enter func215,ntmps215;go_wp2_with fail;refine ax (v:=aB #[J V (b.out.high+1),ai true]) (by simp[aV,results215,go_sem]) rfl ⟨rfl,rfl⟩
def vM(aG cX:Int)(w:aw)(h1:1<=aG/\aG<=8)(h2:0<=cX/\cX<=1000):aF af 31 #[J V aG,J V cX] w λe w'=>∃g,e=av (aB #[aq (Z ⟨g,0,I⟩),J V 0])/\gC w' ⟨g,ae I 0 0⟩ aG cX .new/\aC w w'/\w.heap.size<=g:=by
 obtain⟨a1,a2⟩:=h1;obtain⟨a3,a4⟩:=h2;go_enter func31,ntmps31;go_wp2_with fail;refine ax (v:=aB #[aq (Z ⟨w.heap.size,0,I⟩),J V 0]) (by simp[aV,results31,go_sem]) rfl ⟨_,rfl,⟨aK.new w 201 _,⟨rfl,aJ ⟨rfl,rfl⟩⟩,λh hh=>(by cases hh),⟨by show(-1000000000000:Int)<=0;omega,by show(0:Int)<=1000000000000;omega⟩,by show 0<=8;omega,⟨a1,a2⟩,⟨a3,a4⟩⟩,(ao _ w).alloc (aj _) _,aj _⟩
def Hn(aG cX:Int)(w:aw)(h:¬((1<=aG/\aG<=8)/\(0<=cX/\cX<=1000))):aF af 31 #[J V aG,J V cX] w λe w'=>e=av (aB #[aq I,J V 1])/\w'=w:=by
 by_cases h1:aG<1
 ·clear h;go_enter func31,ntmps31;go_wp2_with fail;refine ax (v:=aB #[aq I,J V 1]) (by simp[aV,results31,go_sem]) rfl ⟨rfl,rfl⟩
 ·by_cases h2:8<aG
  ·clear h;go_enter func31,ntmps31;go_wp2_with fail;refine ax (v:=aB #[aq I,J V 1]) (by simp[aV,results31,go_sem]) rfl ⟨rfl,rfl⟩
  ·by_cases h3:cX<0
   ·clear h;go_enter func31,ntmps31;go_wp2_with fail;refine ax (v:=aB #[aq I,J V 1]) (by simp[aV,results31,go_sem]) rfl ⟨rfl,rfl⟩
   ·have h4:1000<cX:=z;clear h;go_enter func31,ntmps31;go_wp2_with fail;refine ax (v:=aB #[aq I,J V 1]) (by simp[aV,results31,go_sem]) rfl ⟨rfl,rfl⟩
def Jm(r:Nat)(n:Int)(h:M.js)(w:aw)(a:aK w r 2 #[J V n]):aF af 231 #[ug h,aq (Z ⟨r,0,I⟩)] w λe w'=>e=av (ai (h.bO==n))/\aC w w':=by
 have b:=a.cell 0;have lt:=a.lt;simp at b;go_enter func231,ntmps231;go_wp2_with fail;go_ret;exact⟨rfl,(ao _ w).alloc (aj _) _⟩
def Jl(r:Nat)(n:Int)(h:M.js)(w:aw)(a:aK w r 2 #[J V n]):aF af 232 #[ug h,aq (Z ⟨r,0,I⟩)] w λe w'=>e=av (ai (decide (n<h.bO)))/\aC w w':=by
 have b:=a.cell 0;have lt:=a.lt;simp at b;go_enter func232,ntmps232;go_wp2_with fail;go_ret;exact⟨rfl,(ao _ w).alloc (aj _) _⟩
def FV(c r2 g:Nat)(now:Int)(cs:Array Value)(cX:Int)(h:M.js)(w:aw)(a:aK w c 2 #[J V now])(b:aK w r2 114 #[aq (Z ⟨g,0,I⟩)])(hg:aK w g 201 cs)(d:cs[1]? = Z (J V cX))(h1:Bi now)(h2:Bi h.jv) :
  aF af 214 #[ug h,aq (Z ⟨c,0,I⟩),aq (Z ⟨r2,0,I⟩)] w λe w'=>e=av (ai (decide (cX<=now-h.jv)))/\aC w w':=by
 obtain⟨a1,a2⟩:=h1;obtain⟨a3,a4⟩:=h2;have hw:V.wrap (now-h.jv)=now-h.jv:=IntWalk.i64_in _ ⟨z,z⟩;have f:=(a.alloc (.cells #[J V h.bO,J V h.jv,J V h.id] 326)).cell 0;have c1:=(b.alloc (.cells #[J V h.bO,J V h.jv,J V h.id] 326)).cell 0;have c2:=((hg.alloc (.cells #[J V h.bO,J V h.jv,J V h.id] 326)).cell 1).trans d;simp at f c1;have i:=(ao w.heap.size w).alloc (aj _) (.cells #[J V h.bO,J V h.jv,J V h.id] 326);clear a b hg;go_enter func214,ntmps214;go_wp2_with fail;go_region;all_goals
  go_wp2_with fail;go_ret;exact⟨rfl,cd i _⟩
end
section
open Go.Maps (Keyed)
section
variable {κ:Type} [DecidableEq κ]
def gA(S:Keys κ)(w:aw)(b:Nat)(F:κ->Option Value)(N:Nat):Prop:=∃ds f,gE S w b ds f/\(∀x,F x=if x∈ds then Z (f x) else I)/\ds.length<=N
variable {S:Keys κ} {w w':aw} {b N:Nat} {F:κ->Option Value}
theorem gA.made(w:aw)(S:Keys κ):gA S (w.alloc (.map #[] 0)) w.heap.size (λ_=>I) 0:=⟨[],λ_=>undef,gE.made w _,λx=>dt,dt⟩
theorem gA.lt(h:gA S w b F N):b<w.heap.size:=by obtain⟨ds,f,h1,_⟩:=h;exact h1.lt
theorem gA.dW{G:Nat->Prop}(h:gA S w b F N)(u:cS G w w')(a:¬G b):gA S w' b F N:=by obtain⟨ds,f,h1,h2⟩:=h;exact⟨ds,f,h1.dW u a,h2⟩
theorem gA.below(h:gA S w b F N)(u:aC w w'):gA S w' b F N:=h.dW (F:=F) (G:=cr) (.bn u) id
theorem gA.ki(h:gA S w b F N){g:Nat}{t:TypeId}{cs:Array Value}(a:aK w g t cs):b≠g:=by obtain⟨ds,f,h1,_⟩:=h;exact h1.ki a
theorem gA.mono{M:Nat}(h:gA S w b F N)(a:N<=M):gA S w b F M:=by obtain⟨ds,f,h1,h2,h3⟩:=h;exact⟨ds,f,h1,h2,z⟩
theorem gA.congr{G:κ->Option Value}(h:gA S w b F N)(e:∀x,F x=G x):gA S w b G N:=by have:F=G:=funext e;subst this;exact h
variable (he:∀x y,S.enc x=S.enc y->x=y) {t e:TypeId} (ht:af.underlying t=Z (.map S.k e))
include he ht
theorem gA.my(h:gA S w b F N)(y:κ)(c:S.ok y){a:Value}(d:(zeroValue e).run af w=.ok a w) :
  (cD t (.map (Z b)) (S.enc y) true).run af w=.ok (aB #[(F y).getD a,ai (F y).isSome]) w:=by
 obtain⟨ds,f,h1,h2,h3⟩:=h;rw[gE.my w he ht b ds f h1 y c d,h2 y];by_cases hy:y∈ds<;>simp[hy]
theorem gA.sW(h:gA S w b F N)(y:κ)(g:S.ok y){d:Value}(i:(zeroValue e).run af w=.ok d w) :
  (cD t (.map (Z b)) (S.enc y) false).run af w=.ok ((F y).getD d) w:=by
 obtain⟨ds,f,⟨D,h1,h4⟩,h2,h3⟩:=h;obtain⟨v,ps,c,a⟩:=h1.lookup S.K ht i (zd:=.held d) (zp:=[]) (R:=RV) rfl (S.key y g);have hh:=h4.has y g;have j:v=(F y).getD d:=by
  rw[h2 y];simp only[RV,bf,Prod.mk.injEq]at a;by_cases hy:y∈ds
  ·rw[h4.at_ y hy]at a;simp at a;rw[if_pos hy];exact a.1
  ·have k:Maps.has D (S.kl y)=false:=by rw[hh];simp[hy]
   rw[Maps.atKey_of_not_has k]at a;simp at a;rw[if_neg hy];exact a.1
 rw[c,j]
theorem gA.nX(h:gA S w b F N)(d:N<1000000)(y:κ)(c:Value)(a:S.ok y) :
  ∃w',(eF t (.map (Z b)) (S.enc y) c).run af w=.ok () w'/\gA S w' b (M.set F y (Z c)) (N+1)/\cS (One b) w w':=by
 obtain⟨ds,f,h1,h2,h3⟩:=h;by_cases hy:y∈ds
 ·obtain⟨w',hr,hm,u⟩:=gE.nX w he ht b ds f h1 ui y c hy;refine⟨w',hr,⟨ds,_,hm,λx=>?_,z⟩,u⟩;unfold M.set;by_cases e:x=y
  ·subst e;simp[hy]
  ·simp[e,h2 x]
 ·obtain⟨w',hr,hm,u⟩:=gE.Ci w he ht b ds f h1 ui y c hy a;refine⟨w',hr,⟨_,_,hm,λx=>?_,dZ⟩,u⟩;unfold M.set;by_cases e:x=y
  ·subst e;simp
  ·simp[e,h2 x]
theorem gA.Dw(h:gA S w b F N)(y:κ)(c:S.ok y)(ty:TypeId) :
  ∃w',(Builtin.delete_ #[t,S.k] ty #[.map (Z b),S.enc y]).run af w=.ok (aB #[]) w'/\gA S w' b (M.set F y I) N/\cS (One b) w w':=by
 obtain⟨ds,f,⟨D,h1,h4⟩,h2,h3⟩:=h;obtain⟨w',hr,d,g⟩:=World.ownsMap.drop h1 S.K ht (S.key y c) ty;have C:=h4.del he (h1.tidy S.K) c;refine⟨w',hr,⟨ds.erase y,f,⟨_,by rw[<-C.size];exact CB d,C⟩,λx=>?_,by have:=List.length_erase_le (a:=y) (l:=ds);omega⟩,tH g.grown⟩;unfold M.set;by_cases e:x=y
 ·subst e;simp[iH h4.nodup]
 ·simp[iH h4.nodup,e,h2 x]
end
end
def PZ.bC{ds:List (Int×Int)}{v:Int×Int->Int}{bk:Bk}{N:Nat}(h:PZ ds v bk N){s:Int}{id:Nat}(hy:((s,(id:Int)):Int×Int)∈ds){f:Int}(g:0<=f/\f<=8) :
  PZ ds (λx=>if x=(s,(id:Int)) then f else v x) (M.set bk s (M.set (bk s) id (Z f))) N:=by
 refine⟨λs' a=>?_,h.wb,λx i=>?_,h.small⟩
 ·unfold M.set;by_cases c:s'=s
  ·subst c;rw[if_pos rfl];by_cases d:a=id
   ·subst d;rw[if_pos rfl,if_pos hy];simp
   ·have b:((s',(a:Int)):Int×Int)≠(s',(id:Int)):=by intro q;injection q with _ q;omega
    rw[if_neg d,h.at_ s' a];simp only[b,if_false]
  ·have b:((s',(a:Int)):Int×Int)≠(s,(id:Int)):=by intro q;injection q with q _;exact c q
   rw[if_neg c,h.at_ s' a];simp only[b,if_false]
 ·by_cases e:x=(s,(id:Int))
  ·simp[e,g]
  ·simp only[e,if_false];exact h.sJ x i
def Ad(g m N:Nat)(bk:Bk)(s:Int)(id:Nat)(f:Int)(w:aw)(h:eD w g m bk N)(S:-1000000000000<=s/\s<=1000000000000)(T:id<=1000000)(r:bk s id=Z 0)(H:1<=f/\f<=8)(hN:N<1000000) :
  aF af 167 #[aq (Z ⟨g,0,I⟩),pv (s,(id:Int)),J V f] w λe w'=>e=av (J V 0)/\eD w' g m (M.set bk s (M.set (bk s) id (Z f))) N/\cS (One m) w w':=by
 obtain⟨ds,v,o,p,hR⟩:=h;have hlen:ds.length<1000000:=by have:=hR.small;omega
 have a:=hR.at_ s id;have hy:((s,(id:Int)):Int×Int)∈ds:=by
  by_cases q:((s,(id:Int)):Int×Int)∈ds
  ·exact q
  ·rw[r,if_neg q]at a;cases a
 have t:v (s,(id:Int))=0:=by rw[r,if_pos hy]at a;simpa using a.symm
 have ok:=okB (s:=s) (id:=id) S T;have i:=hR.bC hy (f:=f) ⟨z,H.2⟩;obtain⟨u,U⟩:=bu i hy;have X:m≠g:=p.ki o;have lm:=p.lt;have lg:=o.lt;clear a hR i r;go_enter func167,ntmps167;go_upto_region 1 with fail;obtain⟨y,b⟩:=dH w.heap.size;rw[<-b];refine aW (λW=>aK W y 210 #[J V s,J V id]/\aK W g 204 #[.map (Z m)]/\gE KB W m ds (λx=>J V (v x))/\aC w W) ⟨aK.newAt _ _ _ _ b,o.alloc _,p.alloc _,(ao _ w).alloc (aj _) _⟩ ?_;rintro W ⟨b3,c,d,j⟩;have aI:y≠m:=z;clear b o p;have A:=c.cell 0;have B:=b3.cell 0;have C:=b3.cell 1;simp at A B C;have df:(cD 202 (.map (Z m)) (cg #[J V s,J V id]) true).run af W.drew=.ok (aB #[J V 0,ai true]) W.drew:=by
  have q:=gE.Iq W.drew ue nV m ds _ (d.dW (F:=cr) (cS.refl cr W).drew (λq=>q)) (s,(id:Int)) ok hy (vc _);rw[t]at q;exact q
 clear hy;obtain⟨HM,H3,HG,AL⟩:=cA d b3 c j;clear d b3 c j;go_wp2_with (refine(xR f W H).mono ?_;rintro e w2 ⟨rfl,D⟩;have k:=D.symm;subst k);go_region;all_goals
  refine gN (λY=>aK Y y 210 #[J V s,J V id]/\aK Y g 204 #[.map (Z m)]/\gE KB Y m ds (λx=>J V (v x))/\aC w Y) ⟨H3.O.drew,HG.O.drew,HM.O.dW (F:=cr) (cS.refl cr W).drew (λq=>q),cd AL.O 1⟩ ?_;rintro Y ⟨b3,c,d,j⟩;have A:=c.cell 0;have B:=b3.cell 0;have C:=b3.cell 1;simp at A B C;obtain⟨eI,K,L,E⟩:=gE.nX Y.drew ue nV m ds _ (d.dW (F:=cr) (cS.refl cr Y).drew (λq=>q)) ui (s,(id:Int)) (J V f) U.O;have K:(eF 202 (.map (Z m)) (cg #[J V s,J V id]) (J V f)).run af Y.drew=.ok () eI:=K;have P:=c.drew.dW E (λq=>X q.symm);have Q:=((cS.bn (F:=One m) j).drew.trans E);obtain⟨l,G,n⟩:=bU P L Q;clear b3 c d j P L E Q;go_wp2_with fail;go_region;all_goals
   go_wp2_with fail;go_ret;refine⟨rfl,⟨_,λx=>if x=(s,(id:Int)) then f else v x,?_,?_,u.O⟩,?_⟩
   ·first|exact l.O|exact l.O.drew
   ·have R:=G.O.congr (g:=λx=>J V (if x=(s,(id:Int)) then f else v x)) (λx _=>by split<;>rfl);first|exact R|exact R.dW (F:=cr) ((cS.refl cr _).drewN _) (λq=>q)
   ·first|exact n.O|exact n.O.drewN _
abbrev Qv(g:Nat):Value:=cg #[aq (Z ⟨g,0,I⟩)]
def Ec(g m N:Nat)(bk:Bk)(s:Int)(id:Nat)(w:aw)(h:eD w g m bk N)(b:-1000000000000<=s/\s<=1000000000000)(c:id<=1000000) :
  aF af 185 #[Qv g,J V s,J V id] w λe w'=>e=av (aB #[J V ((bk s id).getD 0),ai (bk s id).isSome])/\aC w w':=by
 have h2:=h.below ((ao _ w).alloc (aj _) (.cells #[aq (Z ⟨g,0,I⟩)] 50));have H:=au (Db g m N bk s id _ h2 b c);have a:=(ao w.heap.size w).alloc (aj _) (.cells #[aq (Z ⟨g,0,I⟩)] 50);clear h h2;go_enter func185,ntmps185;go_wp2_with (refine H.O.mono ?_;rintro e w2 ⟨rfl,b2⟩);refine ax (v:=aB #[J V ((bk s id).getD 0),ai (bk s id).isSome]) (by simp[aV,results185,go_sem]) rfl ⟨rfl,a.trans (b2.mono a.size)⟩
def DO(g m N:Nat)(bk:Bk)(s:Int)(id:Nat)(w:aw)(h:eD w g m bk N)(f:-1000000000000<=s/\s<=1000000000000)(i:id<=1000000) :
  aF af 126 #[Qv g,J V s,J V id] w λe w'=>e=av (ai (decide (bk s id=Z 0)))/\aC w w':=by
 have h2:=h.below ((ao _ w).alloc (aj _) (.cells #[aq (Z ⟨g,0,I⟩)] 50));have a:=Ec g m N bk s id _ h2 f i;have b:=(ao w.heap.size w).alloc (aj _) (.cells #[aq (Z ⟨g,0,I⟩)] 50);clear h h2;cases d:bk s id with
 |none =>
  rw[d]at a;have H:=au a;clear a;go_enter func126,ntmps126;go_wp2_with (refine H.O.mono ?_;rintro e w2 ⟨rfl,b2⟩;simp only[Option.getD_none,Option.isSome_none]);refine ax (v:=ai false) (by simp[aV,results126,go_sem]) rfl ⟨dt,b.trans (b2.mono b.size)⟩
 |some k =>
  rw[d]at a;have H:=au a;clear a;by_cases c:k=0
  ·subst c;go_enter func126,ntmps126;go_wp2_with (refine H.O.mono ?_;rintro e w2 ⟨rfl,b2⟩;simp only[gS,fQ]);refine ax (v:=ai true) (by simp[aV,results126,go_sem]) rfl ⟨dt,b.trans (b2.mono b.size)⟩
  ·have j:(k==0)=false:=by simpa using c
   go_enter func126,ntmps126;go_wp2_with (refine H.O.mono ?_;rintro e w2 ⟨rfl,b2⟩;simp only[gS,fQ]);refine ax (v:=ai false) (by simp[aV,results126,go_sem,c]) rfl ⟨by simp[c],b.trans (b2.mono b.size)⟩
def wS(bk:Bk)(s:Int)(id:Nat)(f:Int):Bk:=if bk s id=Z 0 then M.set bk s (M.set (bk s) id (Z f)) else bk
def FL(g m N:Nat)(bk:Bk)(s:Int)(id:Nat)(f:Int)(w:aw)(h:eD w g m bk N)(l:-1000000000000<=s/\s<=1000000000000)(n:id<=1000000)(o:1<=f/\f<=8)(p:N<1000000) :
  aF af 114 #[Qv g,J V s,J V id,J V f] w λe w'=>e=av (aB #[])/\eD w' g m (wS bk s id f) N/\cS (One m) w w':=by
 have h2:=h.below ((ao _ w).alloc (aj _) (.cells #[aq (Z ⟨g,0,I⟩)] 50));have b:=DO g m N bk s id _ h2 l n;have j:=(ao w.heap.size w).alloc (aj _) (.cells #[aq (Z ⟨g,0,I⟩)] 50);have a:bk s id=Z 0->∀W,eD W g m bk N->aF af 167 #[aq (Z ⟨g,0,I⟩),pv (s,(id:Int)),J V f] W λe w'=>e=av (J V 0)/\eD w' g m (M.set bk s (M.set (bk s) id (Z f))) N/\cS (One m) W w':=λq W c=>Ad g m N bk s id f W c l n q o p;have b4:=aK.new w 50 #[aq (Z ⟨g,0,I⟩)];unfold wS;by_cases d:bk s id=Z 0
 ·have i:decide (bk s id=Z 0)=true:=by simpa using d
  rw[i]at b;rw[if_pos d];have H:=au b;have HS:=au (a d);have k:=au h2;have r:=au b4;clear b a h2 h i b4;go_enter func114,ntmps114;go_wp2_with (first
   |(refine H.O.mono ?_;rintro e w2 ⟨rfl,b2⟩;have c4:=(r.O.kept b2).cell 0;simp at c4;have c:=k.O.below b2)
   |(refine(HS.O w2 c).mono ?_;rintro e w3 ⟨rfl,h3,u3⟩))
  first
   |refine dq (bT results114 _ _ _) rfl ?_
   |refine ax (v:=aB #[]) (by simp[aV,results114,go_sem]) rfl ?_
  exact⟨rfl,h3,(cS.bn (j.trans (b2.mono j.size))).trans u3⟩
 ·have i:decide (bk s id=Z 0)=false:=by simpa using d
  rw[i]at b;rw[if_neg d];obtain⟨H,k⟩:=bu b h2;clear b a h2 h i b4;go_enter func114,ntmps114;go_wp2_with (refine H.O.mono ?_;rintro e w2 ⟨rfl,b2⟩;have c:=k.O.below b2);first
   |refine dq (bT results114 _ _ _) rfl ?_
   |refine ax (v:=aB #[]) (by simp[aV,results114,go_sem]) rfl ?_
  exact⟨rfl,c,.bn (j.trans (b2.mono j.size))⟩
def LM{x:M.yy}{n:Int}(b:Bi x.high)(a:Bi n):Bi (x.mark n).high:=by
 unfold M.yy.mark;split
 ·exact a
 split
 ·exact a
 split<;>exact b
def uL(r:Nat)(W:aw)(a b c:Value):cS (One r) W (((W.setCell ⟨r,0,I⟩ a).setCell ⟨r,1,I⟩ b).setCell ⟨r,2,I⟩ c):=
 (((cS.refl (One r) W).setCell (p:=⟨r,0,I⟩) (aJ rfl) a).setCell (p:=⟨r,1,I⟩) (aJ rfl) b).setCell (p:=⟨r,2,I⟩) (aJ rfl) c
def Bn(B:vi)(aG cX:Int)(b:M.mf)(a:M.js)(r:List M.js)(w:aw)(D:gC w B aG cX b)(hh:b.bD=a::r) :
  aF af 168 #[aq (Z ⟨B.g,0,I⟩)] w λe w'=>∃B',e=av (ug a)/\gC w' B' aG cX b.least/\B'.g=B.g/\cS B.own w w'/\∀i,B'.own i->B.own i:=by
 have f:=D.row;rw[hh]at f;have SO:(a::r).length=r.length+1:=dt;rw[SO]at f;obtain⟨A,c,Q⟩:=bA f;rw[Q]at f;obtain⟨gr,rfl,Th,hc⟩:=sX f z;obtain⟨d0,d1,d2⟩:=hc 0 a dt;simp only[qA,Nat.zero_add]at d0 d1 d2;have SP:gr≠B.g:=D.ne gr (by rw[Q];rfl);have N:=(D.et a (by rw[hh];simp)).1;have E:∀W,aF af 221 #[yB b.out,J V a.bO] W λe w'=>e=av (yB (b.out.mark a.bO))/\aC W w':=λW=>D0 b.out a.bO W D.out N;have h:=D.cw;have SY:=h.lt;have SQ:=uc d0;have G:Bi b.least.out.high:=by
  unfold M.mf.least;rw[hh];simp only;split
  ·exact LM D.out N
  ·exact N
 have u:b.least=⟨r,true,if b.begun then b.out.mark a.bO else⟨a.bO,1⟩⟩:=by unfold M.mf.least;rw[hh]
 have H:∀x∈r,Bi x.bO/\Bi x.jv:=λx hx=>D.et x (by rw[hh];simp[hx]);have SZ:r.length<=8:=by have:=D.small;rw[hh]at this;simp at this;omega
 have R:∀W,W.ownsRow 0 326 3 (ae (Z ⟨gr,0,I⟩) (r.length+1) c) (r.length+1) (sa a++jh r)->aF af 220 #[ae (Z ⟨gr,0,I⟩) (r.length+1) c,J V 0,J V 1] W λe w'=>∃v',e=av v'/\w'.ownsRow 0 326 3 v' r.length (jh r)/\cS (λi=>(ae (Z ⟨gr,0,I⟩) (r.length+1) c).ownBlock=Z i) W w'/\v'.ownBlock=(ae (Z ⟨gr,0,I⟩) (r.length+1) c).ownBlock:=
  λW o=>EA r.length _ (sa a) (jh r) W rfl o (Bz r)
 rw[u]at G ⊢;have U:=D.aG;have aI:=D.cX;obtain⟨SU,SV,S,SW,T,df,HV⟩:=lV h (show w.ownsRow 0 326 3 (ae (Z ⟨gr,0,I⟩) (r.length+1) c) (r.length+1) (sa a++jh r) from f) R E G H Q;have c2:=h.cell 2;have c3:=h.cell 3;have c4:=h.cell 4;have c5:=h.cell 5;simp[Q]at c2 c3 c4 c5;have Ta:(0:Int)<(r.length:Int)+1:=z;clear D f hc u E h R G H hh SO;go_enter func168,ntmps168;go_upto_region 2 with fail;obtain⟨r2,eI⟩:=dH w.heap.size;obtain⟨r3,gX⟩:=dH (w.heap.size+1);rw[<-gX,<-eI];refine aW (λW=>aK W r2 326 #[J V 0,J V 0,J V 0]/\aK W r3 326 #[J V a.bO,J V a.jv,J V a.id]/\aK W B.g 201 (Ks B aG cX b)/\W.ownsRow 0 326 3 (ae (Z ⟨gr,0,I⟩) (r.length+1) c) (r.length+1) (sa a++jh r)/\cS cr w W)
  ⟨(aK.newAt _ _ _ _ eI).alloc _,aK.newAt _ _ _ _ (by rw[gX];simp),(SU.O.alloc _).alloc _,(SV.O.alloc _).alloc _,((cS.refl _ w).alloc _).alloc _⟩ ?_
 rintro W ⟨b2,b3,bg,o1,u1⟩;have e2:r2≠gr:=z;have e3:r3≠gr:=z;have e4:r2≠B.g:=z;have e5:r3≠B.g:=z;have e6:r3≠r2:=z;have e7:w.heap.size<=r2:=z;have e8:r2≠r3:=z;have e9:B.g≠r2:=z;have Ti:B.g≠r3:=z;have Tj:B.g≠gr:=λe=>SP e.symm;clear eI gX SU SV c2 c3 c4 c5 d0 d1 d2 SY SQ;have c2:=bg.cell 2;have f2:=bg.frozen 2;simp[Q]at c2;obtain⟨W2,W3,WG,WO,WU⟩:=gY b2 b3 bg o1 u1;clear b2 b3 bg o1 u1;go_upto_region 3 with fail;refine(S.O W WO.O).mono ?_;rintro e w3 ⟨v',rfl,o3,u3,mK⟩;obtain⟨n,s,rfl⟩:=bA o3;have g3:=WG.O.dW u3 (λq=>by simp[eR]at q;exact SP q);have P:=W2.O.dW u3 (λq=>by simp[eR]at q;exact e2 q.symm);have k3:=W3.O.dW u3 (λq=>by simp[eR]at q;exact e3 q.symm);have uu:cS B.own w w3:=(WU.O.mono λi _ q=>q.elim).trans (u3.mono λi _ q=>aZ (by rw[Q];exact q));clear WG W2 W3 WU WO u3 S c2 f2;have c2:=g3.cell 2;have f2:=g3.frozen 2;simp[Q]at c2;have SG:∀i,(ae n r.length s).ownBlock=Z i->i≠B.g:=λi j e=>by
  rw[mK]at j;simp[eR]at j;omega
 have G4:=g3.bC 2 (ae n r.length s);have K2:=P.dS (p:=⟨B.g,2,I⟩) e4 (ae n r.length s);have K3:=k3.dS (p:=⟨B.g,2,I⟩) e5 (ae n r.length s);have O4:=du o3 (cS.setCell (F:=One B.g) (p:=⟨B.g,2,I⟩) (cS.refl _ _) (aJ rfl) (ae n r.length s)) (λi j q=>SG i j q);have U4:=uu.setCell (p:=⟨B.g,2,I⟩) (aJ (aJ rfl)) (ae n r.length s);simp at G4;obtain⟨l,K,t,SH,SI,SJ,SK⟩:=lV G4 K2 K3 O4 U4 mK SG;clear G4 K2 K3 O4 U4 g3 P k3 uu o3 mK SG;go_upto_region 3 with fail;clear c2 f2;generalize w3.setCell ⟨B.g,2,I⟩ (ae n r.length s)=X at l K t SH SI ⊢;have c3:=l.O.cell 3;simp at c3;have fin:∀(y:M.yy) (Y:aw),aK Y B.g 201 #[J V aG,J V cX,ae n r.length s,ai true,J V y.high,J .u64 y.bits]->Y.ownsRow 0 326 3 (ae n r.length s) r.length (jh r)->cS B.own w Y->Bi y.high ->
   gC Y ⟨B.g,ae n r.length s⟩ aG cX ⟨r,true,y⟩/\cS B.own w Y/\∀i,(⟨B.g,ae n r.length s⟩:vi).own i->B.own i:=λy Y hB hO hU hy =>
  ⟨⟨hB,hO,df.O,hy,SZ,U,aI⟩,hU,λi j=>by
   rcases j with rfl|j
   ·exact aJ rfl
   ·rw[SJ.O]at j;exact aZ (by rw[Q];exact j)⟩
 have SX:=au fin;clear fin;cases SL:b.begun<;>rw[SL]at c3
 ·have x0:=t.O.cell 0;simp at x0;have Tb:=t.O.lt;have Tc:=l.O.lt;have Td:=K.O.lt;go_wp2_with (refine(vn a.bO X).mono ?_;rintro e w5 ⟨rfl,b5⟩;have k:=l.O.kept b5;have d:=K.O.kept b5;have C:=t.O.kept b5;have O5:=du SH.O (cS.bn (F:=cr) b5) (λ_ _ q=>q);have U5:=SI.O.trans (cS.bn b5);have g3:=k.cell 3;have g4:=k.cell 4;have g5:=k.cell 5;have h3:=k.frozen 3;have h4:=k.frozen 4;have h5:=k.frozen 5;have t0:=C.cell 0;have t1:=C.cell 1;have t2:=C.cell 2;have k0:=d.cell 0;have k1:=d.cell 1;have P:=d.cell 2;have j0:=d.frozen 0;have j1:=d.frozen 1;have j2:=d.frozen 2;simp at g3 g4 g5 t0 t1 t2 k0 k1 P);all_goals
   have YR:=(((((((d.dS (p:=⟨B.g,4,I⟩) e4 (J V a.bO)).dS (p:=⟨B.g,5,I⟩) e4 (J .u64 1)).dS (p:=⟨B.g,3,I⟩) e4 (ai true)).bC 0 (J V a.bO)).bC 1 (J V a.jv)).bC 2 (J V a.id)));have YG:=(((((((k.bC 4 (J V a.bO)).bC 5 (J .u64 1)).bC 3 (ai true)).dS (p:=⟨r2,0,I⟩) e9 (J V a.bO)).dS (p:=⟨r2,1,I⟩) e9 (J V a.jv)).dS (p:=⟨r2,2,I⟩) e9 (J V a.id)));simp at YG;have s4:=((cS.refl (One B.g) w5).setCell (p:=⟨B.g,4,I⟩) (aJ rfl) (J V a.bO)).setCell (p:=⟨B.g,5,I⟩) (aJ rfl) (J .u64 1);have s5:=s4.setCell (p:=⟨B.g,3,I⟩) (aJ rfl) (ai true);have YO:=du (du O5 s5 (λi j q=>SK.O i j q)) (uL r2 _ (J V a.bO) (J V a.jv) (J V a.id)) (λi j q=>by have q':i=r2:=q;rw[SJ.O]at j;simp[eR]at j;omega);have YU:=(U5.trans (s5.mono λi _ q=>aJ q)).step (uL r2 _ (J V a.bO) (J V a.jv) (J V a.id)) (λi q=>aZ (by rw[show i=r2 from q];exact e7));have L0:=YR.cell 0;have L1:=YR.cell 1;have L2:=YR.cell 2;simp at L0 L1 L2;refine ax (v:=ug a) (by simp[aV,results168,go_sem,L0,L1,L2]) rfl ?_;obtain⟨q1,q2,q3⟩:=SX.O ⟨a.bO,1⟩ _ YG YO YU N;exact⟨rfl,⟨B.g,ae n r.length s⟩,q1,rfl,q2,q3⟩
 ·have SM:=SW.O;have L:=T.O;rw[SL]at L;simp only[if_true]at L ⊢;generalize hy:b.out.mark a.bO=y at SM L;obtain⟨yh,yb⟩:=y;have HY:=au hy;clear hy;obtain⟨HM,Te⟩:=bu SM L;clear SM L SW T;have x0:=t.O.cell 0;have Tf:=l.O.cell 4;have Tg:=l.O.cell 5;simp at x0 Tf Tg;have Tb:=t.O.lt;have Tc:=l.O.lt;have Td:=K.O.lt;go_wp2_with fail;go_region_with (refine(HM.O _).mono ?_;rintro e w5 ⟨rfl,SN⟩;have b5:aC X w5:=(by first|exact SN|exact(cd (ao _ X) 1).trans SN);have k:=l.O.kept b5;have d:=K.O.kept b5;have C:=t.O.kept b5;have O5:=du SH.O (cS.bn (F:=cr) b5) (λ_ _ q=>q);have U5:=SI.O.trans (cS.bn b5);have g3:=k.cell 3;have g4:=k.cell 4;have g5:=k.cell 5;have h3:=k.frozen 3;have h4:=k.frozen 4;have h5:=k.frozen 5;have t0:=C.cell 0;have t1:=C.cell 1;have t2:=C.cell 2;have k0:=d.cell 0;have k1:=d.cell 1;have P:=d.cell 2;have j0:=d.frozen 0;have j1:=d.frozen 1;have j2:=d.frozen 2;simp at g3 g4 g5 t0 t1 t2 k0 k1 P);all_goals
   refine gN (λY=>aK Y B.g 201 #[J V aG,J V cX,ae n r.length s,ai true,J V yh,J .u64 yb]/\aK Y r2 326 #[J V 0,J V 0,J V 0]/\aK Y r3 326 #[J V a.bO,J V a.jv,J V a.id]/\Y.ownsRow 0 326 3 (ae n r.length s) r.length (jh r)/\cS B.own w Y) ⟨?a1,?a2,?a3,?a4,?a5⟩ ?_;case a1 =>
    have m:=(k.bC 4 (J V yh)).bC 5 (J .u64 yb);rw[SL]at m;simp at m;first|exact m|exact m.drew
   case a2 =>
    have m:=(d.dS (p:=⟨B.g,4,I⟩) e4 (J V yh)).dS (p:=⟨B.g,5,I⟩) e4 (J .u64 yb);first|exact m|exact m.drew
   case a3 =>
    have m:=(C.dS (p:=⟨B.g,4,I⟩) e5 (J V yh)).dS (p:=⟨B.g,5,I⟩) e5 (J .u64 yb);first|exact m|exact m.drew
   case a4 =>
    have m:=du O5 (((cS.refl (One B.g) w5).setCell (p:=⟨B.g,4,I⟩) (aJ rfl) (J V yh)).setCell (p:=⟨B.g,5,I⟩) (aJ rfl) (J .u64 yb)) (λi j q=>SK.O i j q);first|exact m|exact du m ((cS.refl cr _).drew) (λ_ _ q=>q)
   case a5 =>
    have m:=(U5.setCell (p:=⟨B.g,4,I⟩) (aJ (aJ rfl)) (J V yh)).setCell (p:=⟨B.g,5,I⟩) (aJ (aJ rfl)) (J .u64 yb);first|exact m|exact m.drew
   clear k d C O5 U5 b5 SN g3 g4 g5 h3 h4 h5 t0 t1 t2 k0 k1 P j0 j1 j2;rintro Y ⟨k,d,C,O5,U5⟩;have g3:=k.cell 3;have h3:=k.frozen 3;have t0:=C.cell 0;have t1:=C.cell 1;have t2:=C.cell 2;have k0:=d.cell 0;have k1:=d.cell 1;have P:=d.cell 2;have j0:=d.frozen 0;have j1:=d.frozen 1;have j2:=d.frozen 2;simp at g3 t0 t1 t2 k0 k1 P;go_wp2_with fail;have YR:=((((d.dS (p:=⟨B.g,3,I⟩) e4 (ai true)).bC 0 (J V a.bO)).bC 1 (J V a.jv)).bC 2 (J V a.id));have YG:=((((k.bC 3 (ai true)).dS (p:=⟨r2,0,I⟩) e9 (J V a.bO)).dS (p:=⟨r2,1,I⟩) e9 (J V a.jv)).dS (p:=⟨r2,2,I⟩) e9 (J V a.id));simp at YG;have s5:=(cS.refl (One B.g) Y).setCell (p:=⟨B.g,3,I⟩) (aJ rfl) (ai true);have YO:=du (du O5 s5 (λi j q=>SK.O i j q)) (uL r2 _ (J V a.bO) (J V a.jv) (J V a.id)) (λi j q=>by have q':i=r2:=q;rw[SJ.O]at j;simp[eR]at j;omega);have YU:=(U5.trans (s5.mono λi _ q=>aJ q)).step (uL r2 _ (J V a.bO) (J V a.jv) (J V a.id)) (λi q=>aZ (by rw[show i=r2 from q];exact e7));have L0:=YR.cell 0;have L1:=YR.cell 1;have L2:=YR.cell 2;simp at L0 L1 L2;refine ax (v:=ug a) (by simp[aV,results168,go_sem,L0,L1,L2]) rfl ?_;obtain⟨q1,q2,q3⟩:=SX.O ⟨yh,yb⟩ _ YG YO YU Te.O;rw[HY.O];exact⟨rfl,⟨B.g,ae n r.length s⟩,q1,rfl,q2,q3⟩
def Bd(B:vi)(aG cX now:Int)(b:M.mf)(w:aw)(j:gC w B aG cX b)(hn:Bi now) :
  aF af 162 #[aq (Z ⟨B.g,0,I⟩),J V now] w λe w'=>e=av (ai (b.ready aG cX now))/\aC w w':=by
 obtain⟨A,c,u⟩:=bA j.row;have o:∀(r2 m:Nat) (W:aw),aK W m 2 #[J V now]->aK W r2 114 #[aq (Z ⟨B.g,0,I⟩)]->gC W B aG cX b->aF af 216 #[B.bD,.func (.func 214) #[] #[aq (Z ⟨m,0,I⟩),aq (Z ⟨r2,0,I⟩)]] W λe w'=>e=av (ai (b.bD.any λh=>decide (cX<=now-h.jv)))/\aC W w':=
  λr2 m W h3 h2 x=>xH ⟨m,0,I⟩ ⟨r2,0,I⟩ (λh=>decide (cX<=now-h.jv)) (λw=>aK w m 2 #[J V now]/\aK w r2 114 #[aq (Z ⟨B.g,0,I⟩)]/\gC w B aG cX b) (λw w' bl q=>⟨q.1.kept bl,q.2.1.kept bl,q.2.2.below bl⟩) b.bD.length B.bD b.bD W
   (λh hh W2 q=>FV m r2 B.g now _ cX h W2 q.1 q.2.1 q.2.2.cw rfl hn (j.et h hh).2) x.row ⟨h3,h2,x⟩ (lE j.small)
 have y:∀W,gC W B aG cX b->aF af 215 #[aq (Z ⟨B.g,0,I⟩)] W λe w'=>e=av (aB #[J V (if b.begun then b.out.high+1 else 0),ai b.begun])/\w'=W:=λW h=>yw B aG cX b W h;have lt:=j.cw.lt;have C:b.ready aG cX now=match b.bD with | []=>false | h::_=>!b.begun||h.bO==b.out.high+1||decide (aG<=b.bD.length)||b.bD.any (λh=>decide (cX<=now-h.jv)):=rfl
 obtain⟨HB,T,H,K⟩:=cA j o y C;clear o y C;cases hh:b.bD with
 |nil =>
  have hr:b.ready aG cX now=false:=by rw[K.O,hh]
  have c2:=j.cw.cell 2;simp[u,hh]at c2;have L:=au hr;clear hr j;go_enter func162,ntmps162;go_wp2_with fail;go_ret;exact⟨by rw[L.O];rfl,((ao _ w).alloc (aj _) _).alloc dt _⟩
 |cons h r =>
  have hlen:b.bD.length=r.length+1:=by rw[hh];simp
  have k:=j.row;rw[u]at k;obtain⟨gr,rfl,df,U⟩:=sX k z;obtain⟨d0,_,_⟩:=U 0 h (by rw[hh];rfl);simp only[qA]at d0;have N:=uc d0;have c2:=j.cw.cell 2;have P:=j.cw.cell 0;simp[u]at c2 P;rw[hlen]at c2;have eI:((r.length:Int)+1==0)=false:=dZ;have gX:¬((r.length:Int)+1=0):=z;have mK:(0:Int)<(r.length:Int)+1:=z;have D:B.bD=ae (Z ⟨gr,0,I⟩) (r.length+1) c:=by rw[u,hlen]
  have b2:=aK.new w 114 #[aq (Z ⟨B.g,0,I⟩)];have d:=au K.O;rw[hh]at d;simp only at d;have HV:=au D;clear u k U K hlen D;go_enter func162,ntmps162;go_upto_region 1 with fail;obtain⟨r2,p⟩:=dH w.heap.size;obtain⟨m,s⟩:=dH (w.heap.size+1);rw[<-s,<-p];refine aW (λW=>aK W r2 114 #[aq (Z ⟨B.g,0,I⟩)]/\aK W m 2 #[J V now]/\gC W B aG cX b/\aC w W/\W.cell? ⟨gr,0,I⟩=Z (J V h.bO)/\W.cell? ⟨B.g,2,I⟩=Z (ae (Z ⟨gr,0,I⟩) (r.length+1) c)/\W.cell? ⟨B.g,0,I⟩=Z (J V aG))
   ⟨(aK.newAt _ _ _ _ p).alloc _,aK.newAt _ _ _ _ (by rw[s];simp),j.below (((ao _ w).alloc (aj _) _).alloc dt _),((ao _ w).alloc (aj _) _).alloc dt _,aM (((ao _ w).alloc (aj _) _).alloc dt _) d0,aM (((ao _ w).alloc (aj _) _).alloc dt _) c2,aM (((ao _ w).alloc (aj _) _).alloc dt _) P⟩ ?_
  rintro W ⟨b2,b3,x,bl,d0,c2,P⟩;have x2:=b2.cell 0;have x3:=b3.cell 0;simp at x2 x3;obtain⟨X,Y,t,E⟩:=cA b2 b3 x bl;clear b2 b3 x bl p s j HB lt N;cases l:b.begun<;>rw[l]at d
  ·have a:=au d;clear d;go_wp2_with (refine(H.O W t.O).mono ?_;rintro e w2 ⟨rfl,i⟩;have f:=i.symm;subst f;rw[l];simp only[Bool.false_eq_true,if_false]);go_quiet (fail);all_goals
    go_wp2_with fail;go_ret;exact⟨by rw[a.O];rfl,cd E.O _⟩
  ·by_cases Q:h.bO=b.out.high+1
   ·have hr:b.ready aG cX now=true:=by rw[d];simp[Q]
    have a:=au hr;clear d hr;rw[Q]at d0;go_wp2_with (refine(H.O W t.O).mono ?_;rintro e w2 ⟨rfl,i⟩;have f:=i.symm;subst f;rw[l];simp only[if_true]);go_quiet (fail);all_goals
     go_wp2_with fail;go_ret;exact⟨by rw[a.O];rfl,cd E.O _⟩
   ·have e2:(h.bO==b.out.high+1)=false:=by simpa using Q
    by_cases R:aG<=(r.length:Int)+1
    ·have hr:b.ready aG cX now=true:=by rw[d];simp[R]
     have a:=au hr;clear d hr;go_wp2_with (refine(H.O W t.O).mono ?_;rintro e w2 ⟨rfl,i⟩;have f:=i.symm;subst f;rw[l];simp only[if_true]);go_quiet (fail);all_goals
      go_wp2_with fail;go_ret;exact⟨by rw[a.O];rfl,cd E.O _⟩
    ·have e4:decide (aG<=(r.length:Int)+1)=false:=by simpa using R
     have hr:b.ready aG cX now=b.bD.any (λh=>decide (cX<=now-h.jv)):=by rw[d,e2,hh];simp[R]
     have a:=au hr;clear d hr;have n:=T.O r2 m;rw[HV.O]at n;generalize b.bD.any (λh=>decide (cX<=now-h.jv))=res at n a;have S:=au n;clear n T;go_wp2_with (refine(H.O W t.O).mono ?_;rintro e w2 ⟨rfl,i⟩;have f:=i.symm;subst f;rw[l];simp only[if_true]);go_region_with (refine(S.O _ (by first|exact Y.O.drew|exact Y.O) (by first|exact X.O.drew|exact X.O) (by first|exact t.O.dW (F:=cr) (cS.refl cr W).drew (λ_ _ q=>q)|exact t.O)).mono ?_;rintro e w5 ⟨rfl,G⟩;have b5:aC W w5:=(by first|exact G|exact(cd (ao _ W) 1).trans G));all_goals
      go_wp2_with fail;refine ax (v:=ai res) (by simp[aV,results162,go_sem,Act.put]) rfl ⟨by rw[a.O],?_⟩;have aI:=E.O.trans (b5.mono E.O.size);first|exact aI|exact cd aI _
def Hm(B:vi)(aG cX now:Int)(b:M.mf)(h:M.js)(r:List M.js)(w:aw)(d:gC w B aG cX b)(j:Bi now)(hh:b.bD=h::r)(hr:b.ready aG cX now=true) :
  aF af 125 #[aq (Z ⟨B.g,0,I⟩),J V now] w λe w'=>e=av (aB #[J V h.bO,J V h.id,ai true])/\∃B',gC w' B' aG cX b.least/\B'.g=B.g/\cS B.own w w'/\∀i,B'.own i->B.own i:=by
 have h1:=Bd B aG cX now b w d j;rw[hr]at h1;have k:=au d;have H1:=au h1;have l:=au hh;clear d h1 hh hr;go_enter func125,ntmps125;go_wp2_with (first
  |(refine H1.O.mono ?_;rintro e w2 ⟨rfl,b2⟩;have a:=k.O.below b2)
  |(refine(Bn B aG cX b h r _ a l.O).mono ?_;rintro e w3 ⟨B',rfl,c,g3,u3,m⟩;have b8:=aK.new w3 326 #[J V h.bO,J V h.jv,J V h.id];have n:=b8.cell 0;have o:=b8.cell 2;simp at n o))
 have z0:=b8.drew.cell 0;have z2:=b8.drew.cell 2;simp at z0 z2;obtain⟨f,u4⟩:=bu (c.below ((ao _ w3).alloc (aj _) (.cells #[J V h.bO,J V h.jv,J V h.id] 326))) (((cS.bn (F:=B.own) b2).trans u3).alloc (.cells #[J V h.bO,J V h.jv,J V h.id] 326));clear a c;go_quiet (fail);all_goals
  go_wp2_with fail;refine ax (v:=aB #[J V h.bO,J V h.id,ai true]) (by simp[aV,results125,go_sem]) rfl ⟨rfl,B',f.O.dW (F:=cr) ((cS.refl cr _).drewN _) (λ_ _ q=>q),g3,u4.O.drewN _,m⟩
def wE:(af.info? 3).map (λi=>(i.zero,i.size,i.bytes))=Z (Z (J V 0),1,8):=cC
def GF(n s i:Int)(w:aw):(Instr.field 326 (cg #[J V n,J V s,J V i]) 2).run af w=.ok (J V i) w:=cC
def ua(b:M.mf):∀k,k<=b.bD.length->(M.mf.iu k b).bD=b.bD.drop k:=by
 intro k;induction k generalizing b with
 |zero=>intro _;rfl
 |succ k d =>
  intro a;cases hh:b.bD with
  |nil=>rw[hh]at a;simp at a
  |cons h r =>
   have c:b.least.bD=r:=by unfold M.mf.least;rw[hh]
   rw[show M.mf.iu (k+1) b=M.mf.iu k b.least from rfl,d b.least (by rw[c];rw[hh]at a;simpa using a),c];rfl
def CQ(b:M.mf):∀k,M.mf.iu (k+1) b=(M.mf.iu k b).least:=by
 intro k;induction k generalizing b with
 |zero=>rfl
 |succ k a=>rw[show M.mf.iu (k+1+1) b=M.mf.iu (k+1) b.least from rfl,a b.least];rfl
def Da(B:vi)(aG cX:Int)(b:M.mf)(w:aw)(K:gC w B aG cX b) :
  aF af 117 #[aq (Z ⟨B.g,0,I⟩)] w λe w'=>∃v,e=av v/\w'.ownsRow w.heap.size 3 1 v b.bD.length (b.bD.map λh=>J V h.id)/\∃B',gC w' B' aG cX (M.mf.iu b.bD.length b)/\B'.g=B.g/\cS B.own w w'/\∀i,B'.own i->B.own i:=by
 obtain⟨i0,m,u,y,C⟩:=cY wE;obtain⟨HI,N,P,Q⟩:=cA m u y C;clear m u y C;have df:=K.small;have a:=K.lt;have o:w.ownsRow w.heap.size 3 1 (ae I 0 0) 0 []:=⟨dt,aJ ⟨rfl,rfl⟩⟩;obtain⟨HB,D⟩:=bu K a;clear K a;go_enter func117,ntmps117;go_wp2_with fail;go_loopw [3] (λv wr=>∃(k:Nat) (B':vi),k<=b.bD.length/\wr.ownsRow w.heap.size 3 1 v k ((b.bD.map λh=>J V h.id).take k)/\gC wr B' aG cX (M.mf.iu k b)/\B'.g=B.g/\cS B.own w wr/\∀i,B'.own i->B.own i) (λv _=>b.bD.length-(match v with | ae _ n _=>n | _=>0));case atStart=>exact⟨0,B,z,o,HB.O,rfl,cS.refl _ w,λi q=>q⟩
 case round =>
  clear o;obtain⟨k,B',X,own,t,hg,hu,R⟩:=hrel;have hlen:(M.mf.iu k b).bD.length=b.bD.length-k:=by rw[ua b k X,List.length_drop]
  obtain⟨A',c',f⟩:=bA t.row;rw[hlen]at f;have c2:=t.cw.cell 2;simp[f,hg]at c2;by_cases a:k<b.bD.length
  ·obtain⟨x,E⟩:∃x,b.bD[k]? = Z x:=⟨_,ay a⟩;have Y:(M.mf.iu k b).bD=x::b.bD.drop (k+1):=by
    rw[ua b k X,List.drop_eq_getElem_cons a];rw[ay a]at E;simp only[bf]at E;rw[E]
   have F:(b.bD.map λh=>J V h.id).take (k+1)=(b.bD.map λh=>J V h.id).take k++[J V x.id]:=by rw[List.take_add_one,List.getElem?_map,E];rfl
   have hle:∀W,gC W B' aG cX (M.mf.iu k b)->aF af 168 #[aq (Z ⟨B.g,0,I⟩)] W λe w'=>∃r,e=av (ug x)/\gC w' r aG cX (M.mf.iu (k+1) b)/\r.g=B'.g/\cS B'.own W w'/\∀i,r.own i->B'.own i:=λW hW=>by
    have q:=Bn B' aG cX (M.mf.iu k b) x _ W hW Y;rw[hg,<-CQ]at q;rw[hg];exact q
   obtain⟨A,c,rfl⟩:=bA own;have q1:(0:Int)<((b.bD.length-k:Nat):Int):=z;have HT:=au F;have S:=au hle;have L:=au own;have s:=au t;have T:=au hu;have j:=au R;have sz:=hu.size;have aI:=GF x.bO x.jv x.id;clear F hle own t hu R Y E f hlen;go_wp2_with (first
    |(refine(S.O wr s.O).mono ?_;rintro e w3 ⟨B3,rfl,G,g3,u3,o3⟩;have l:=du L.O u3 (λi m q=>by have h1:=(L.O.lt i m).1;have h2:=D.O i (j.O i q);omega))
    |(at_builtin;go_loud (refine dV _ rfl _ _ 36 rfl w.heap.size 3 i0 (J V 0) 1 8 underlying36 HI.O N.O P.O Q.O rfl aR _ _ _ rfl (l.alloc _) ⟨w3.heap.size,0,I⟩ 1 1 [J V x.id] rfl rfl (fB w3 3 #[J V x.id]) tk ui z (by have:=u3.size;simp;omega) ?_)))
   intro v5 w5 d g5 _;have u5:=eT g5;have p:∀i,B3.own i->¬(ae A k c).ownBlock=Z i:=λi m q=>by
    have h1:=((l.alloc (.cells #[J V x.id] 3)).lt i q).1;have h2:=D.O i (j.O i (o3 i m));omega
   have H:=(G.below ((ao _ w3).alloc (aj _) (.cells #[J V x.id] 3))).dW u5 p;have uu:=((T.O.trans (u3.mono λi _ q=>j.O i q)).alloc (.cells #[J V x.id] 3)).step u5 (λi q=>aZ ((l.alloc (.cells #[J V x.id] 3)).lt i q).1);obtain⟨A5,c5,rfl⟩:=bA d;obtain⟨K1,K2,K3⟩:=bU d H uu;clear d H uu u5 g5 p G u3 l;go_wp2_with fail;go_roundw;case rel=>exact⟨k+1,B3,z,by rw[HT.O];exact K1.O,K2.O,by rw[g3,hg],K3.O,λi m=>j.O i (o3 i m)⟩
   case measure=>simp;omega
  ·have U:k=b.bD.length:=z;subst U;rw[List.take_of_length_le dt]at own;obtain⟨A,c,rfl⟩:=bA own;rw[Nat.sub_self]at c2;obtain⟨L,s,T⟩:=bU own t hu;clear own t hu f hlen;go_wp2_with fail;go_ret;exact⟨_,rfl,L.O,B',s.O,hg,T.O,R⟩
def lK(v:Int×Int->Int)(sub:Int)(done:List (Int×Int)):List Int:=(done.filter λx=>decide (x.1=sub)&&decide (v x=0)).map (·.2)
def DK(v:Int×Int->Int)(sub:Int)(done:List (Int×Int))(x:Int×Int):lK v sub (done++[x])=lK v sub done++if x.1=sub/\v x=0 then[x.2] else[]:=by
 unfold lK;rw[ju,List.map_append];congr 1;by_cases h1:x.1=sub<;>by_cases h2:v x=0<;>simp[h1,h2]
def zu(v:Int×Int->Int)(sub:Int)(done:List (Int×Int)):(lK v sub done).length<=done.length:=by unfold lK;rw[gP];exact eE _ _
def rV(g m N:Nat)(bk:Bk)(sub:Int)(w:aw)(h:eD w g m bk N)(hN:N<=1000000) :
  aF af 102 #[aq (Z ⟨g,0,I⟩),J V sub] w λe w'=>∃(v:Value) (zs:List Int),e=av v/\w'.ownsRow w.heap.size 3 1 v zs.length (zs.map (J V))/\aC w w'/\zs.Pairwise (· < ·)/\∀x:Int,x∈zs↔∃id:Nat,x=id/\bk sub id=Z 0:=by
 obtain⟨ds,v,M,Y,hR⟩:=h;obtain⟨i0,t,P,Q,R⟩:=cY wE;obtain⟨HI,aI,df,eI⟩:=cA t P Q R;clear t P Q R;have c0:=M.cell 0;simp at c0;have mg:=Y.ki M;have lm:=Y.lt;have lg:=M.lt;have gX:=hR.small;have u:w.ownsRow w.heap.size 3 1 (ae I 0 0) 0 []:=⟨dt,aJ ⟨rfl,rfl⟩⟩;obtain⟨HM,HG,HR⟩:=bU Y M hR;clear Y M hR;go_enter func102,ntmps102;go_wp2_with (at_range;go_loud (refine uK _ nV rfl _ rfl m ds _ rfl HM.O ?_));intro w1 r1 u1 s1;have o1:=du u u1 (λi t=>by cases t);have G1:=HG.O.dW u1 (λq=>q);have B1:aC w w1:=u1.below (aj _) (λ_ q=>q.elim);obtain⟨r,n⟩:=dH w.heap.size;rw[<-n]at r1 ⊢;have mK:w.heap.size<=r:=Nat.le_of_eq n.symm;have rm:r≠m:=z;clear n;obtain⟨SG,SH,SI,SP⟩:=cA r1 o1 B1 G1;clear u HM HG c0 u1 o1 r1 B1 G1 s1;go_wp2_with fail;go_loopw [5] (λpv wr=>∃done,kY KB wr m r ds (λx=>J V (v x)) done/\wr.ownsRow w.heap.size 3 1 pv (lK v sub done).length ((lK v sub done).map (J V))/\aC w wr/\(∀i,pv.ownBlock=Z i->i≠r)) (λ_ wr=>wr.rangeLeft m r);case atStart=>exact⟨[],SG.O,by simpa[lK]using SH.O,SI.O,λi t=>by cases t⟩
 case round =>
  obtain⟨done,hr,own,bl,fr⟩:=hrel;obtain⟨A,c,rfl⟩:=bA own;go_wp2_with (at_next;go_loud (refine vR _ ue rfl _ rfl m r ds _ done rfl hr ?d ?q));case d =>
   intro B;have f:=hr.sub;have hn:(lK v sub done).length<=1000000:=aP (zu v sub done) (aP (dX f.1 f.2) (aP gX hN));have C:∀x:Int,x∈sorted (lK v sub done)↔∃id:Nat,x=id/\bk sub id=Z 0:=λx=>by
    rw[List.mem_mergeSort];unfold lK;rw[eU];constructor
    ·rintro⟨⟨a,b⟩,hm,rfl⟩;rw[eL]at hm;simp only[cM,decide_eq_true_eq]at hm;have hd:=f.2 _ hm.1;have D:=HR.O.wb _ hd;refine⟨b.toNat,by simp only at D ⊢;omega,?_⟩;rw[HR.O.at_ sub b.toNat,show((b.toNat:Nat):Int)=b from by simp only at D;omega,<-hm.2.1,if_pos hd,hm.2.2]
    ·rintro⟨id,rfl,S⟩;rw[HR.O.at_ sub id]at S;split at S
     ·rename_i hd;refine⟨(sub,(id:Int)),?_,rfl⟩;rw[eL];simp only[bf]at S;simp[B _ _ hd,S]
     ·cases S
   have T:(sorted (lK v sub done)).Pairwise (· < ·):=by
    have h1:(sorted (lK v sub done)).Pairwise (λa b=>decide (a<=b)=true):=List.pairwise_mergeSort (λa b c h1 h2=>by simp at *;omega) (λa b=>dZ) _;have U:(lK v sub done).Nodup:=by
     unfold lK List.Nodup;rw[sw];refine nt ?_ (kP (λx=>decide (x.1=sub)&&decide (v x=0)) f.1);intro x y hx hy SJ e;have h1:=(eL.1 hx).2;have h2:=(eL.1 hy).2;simp only[cM,decide_eq_true_eq]at h1 h2;exact SJ (Prod.ext (h1.1.trans h2.1.symm) e)
    have h2:(sorted (lK v sub done)).Nodup:=(List.mergeSort_perm _ _).nodup_iff.2 U;exact(List.pairwise_and_iff.2 ⟨h1,h2⟩).imp (λ{a b} q=>by have:=q.1;have:=q.2;simp at *;omega)
   have hs:=ze wr own hn;obtain⟨HS,SK,SL,BL,k,OL⟩:=lH hs C T bl fr own.lt;clear hs C T own bl fr hr B f;go_wp2_with (refine HS.O.mono ?_;rintro e w5 ⟨rfl,o5,g5⟩);go_ret;refine⟨_,sorted (lK v sub done),rfl,by rw[List.length_mergeSort];exact o5,?_,SL.O,SK.O⟩;exact BL.O.trans ((eT g5).below BL.O.size (λi q=>(OL.O i q).1))
  case q =>
   intro a b w2 SQ U G H u2 SM E;have SN:(sF (aq (Z ⟨r,0,I⟩))).run af w2=.ok (aB #[cg #[J V a,J V b],J V (v (a,b))]) w2:=E;clear E;have K:=DK v sub done (a,b);simp only at K;have o2:=du own u2 (λi t q=>fr i t q);have b2:=bl.trans (u2.below bl.size (λi q=>by rw[show i=r from q];exact mK));have rl:=G.lt;obtain⟨p,l,j,s,k⟩:=gY o2 b2 G K fr;clear o2 b2 G K own bl hr fr SM;generalize W:v (a,b)=fv at SN s;have SU:=au W;clear W;by_cases ha:a=sub
   ·subst ha;by_cases hf:fv=0
    ·subst hf;have L:=p.O.alloc (.cells #[J V a,J V b] 210);have hlen:(lK v a done).length<=1000000:=aP (zu v a done) (by have q:=(j.O).sub;have q2:=dX q.1 q.2;simp at q2;omega);have OW:=au L;clear L;go_wp2_with (at_builtin;go_loud (refine dV _ rfl _ _ 36 rfl w.heap.size 3 i0 (J V 0) 1 8 underlying36 HI.O aI.O df.O eI.O rfl aR _ _ _ rfl (OW.O.alloc _) ⟨w2.heap.size+1,0,I⟩ 1 1 [J V b] rfl rfl ?c1 ?c2 ?c3 ?c4 ?c5 ?_));all_goals first
      |exact rfl
      |(unfold maxLen;omega)
      |omega
      |(have:=l.O.size;simp;omega)
      |intro v5 w5 o g5 X
     have u5:=eT g5;have hA:∀i,(ae A (lK v a done).length c).ownBlock=Z i->w.heap.size<=i:=λi q=>(p.O.lt i q).1;have R5:=(j.O.dW (F:=cr) (((cS.refl _ _).alloc (.cells #[J V a,J V b] 210)).alloc (.cells #[J V b] 3)) id id);have R6:=R5.dW u5 (λq=>by have:=hA _ q;omega) (λq=>k.O _ q rfl);have uu:=(((cS.bn (F:=λi=>w.heap.size<=i) (l.O)).alloc (.cells #[J V a,J V b] 210)).alloc (.cells #[J V b] 3)).trans (u5.mono λi _ q=>hA i q);have B5:=uu.below (aj _) (λi q=>q);have L5:=R5.kj u5 (λq=>by have:=hA _ q;omega) (λq=>k.O _ q rfl);have L6:=j.O.kj (F:=cr) (((cS.refl _ _).alloc (.cells #[J V a,J V b] 210)).alloc (.cells #[J V b] 3)) id id;have F5:∀i,v5.ownBlock=Z i->i≠r:=λi q=>by
      rcases X i q with q|q
      ·exact k.O i q
      ·have:=j.O.lt;omega
     obtain⟨A5,c5,rfl⟩:=bA o;obtain⟨K1,K2,K3,K4⟩:=cA o R6 B5 F5;have K5:w5.rangeLeft m r<wr.rangeLeft m r:=by rw[L5,L6];exact H
     clear o R6 B5 F5 R5 uu u5 g5 X L5 L6 hA;go_wp2_with fail;go_roundw;case rel =>
      refine⟨done++[(a,b)],K2.O,?_,K3.O,?_⟩
      ·rw[s.O];simpa using K1.O
      ·exact K4.O
     case measure=>exact K5
    ·have SO:(fv==0)=false:=by simpa using hf
     go_wp2_with fail;go_roundw;case rel =>
      have L:=p.O.alloc (.cells #[J V a,J V b] 210);refine⟨done++[(a,b)],j.O.dW (F:=cr) ((cS.refl _ _).alloc _) id id,by rw[s.O];simpa[hf]using L,l.O.alloc l.O.size _,k.O⟩
     case measure=>rw[j.O.kj (F:=cr) ((cS.refl _ _).alloc _) id id];exact H
   ·have SO:(a==sub)=false:=by simpa using ha
    go_wp2_with fail;go_roundw;case rel =>
     have L:=p.O.alloc (.cells #[J V a,J V b] 210);refine⟨done++[(a,b)],j.O.dW (F:=cr) ((cS.refl _ _).alloc _) id id,by rw[s.O];simpa[ha]using L,l.O.alloc l.O.size _,k.O⟩
    case measure=>rw[j.O.kj (F:=cr) ((cS.refl _ _).alloc _) id id];exact H
def eD.cw{w:aw}{g m N:Nat}{bk:Bk}(h:eD w g m bk N):aK w g 204 #[.map (Z m)]:=by obtain⟨ds,v,h1,_⟩:=h;exact h1
def eD.congr{w:aw}{g m N:Nat}{bk a:Bk}(h:eD w g m bk N)(e:∀s id,bk s id=a s id):eD w g m a N:=by
 have:bk=a:=by funext s id;exact e s id
 subst this;exact h
def eD.nX{w:aw}{g m N:Nat}{bk:Bk}(h:eD w g m bk N)(n:N<1000000){s:Int}{id:Nat}(c:(bk s id).isSome=true){f:Int}(j:0<=f/\f<=8) :
  ∃a,(eF 202 (.map (Z m)) (cg #[J V s,J V id]) (J V f)).run af w=.ok () a/\eD a g m (M.set bk s (M.set (bk s) id (Z f))) N/\cS (One m) w a:=by
 obtain⟨ds,v,d,e,hR⟩:=h;have hlen:ds.length<1000000:=by have:=hR.small;omega
 have b:=hR.at_ s id;have hy:((s,(id:Int)):Int×Int)∈ds:=by
  by_cases q:((s,(id:Int)):Int×Int)∈ds
  ·exact q
  ·rw[b,if_neg q]at c;cases c
 obtain⟨a,k,l,i⟩:=gE.nX w ue nV m ds _ e ui (s,(id:Int)) (J V f) hy;refine⟨a,k,⟨ds,λx=>if x=(s,(id:Int)) then f else v x,d.dW i (λq=>(e.ki d) q.symm),?_,hR.bC hy j⟩,i⟩;exact l.congr (λx _=>by
  show _=J V (if x=(s,(id:Int)) then f else v x)
  split<;>rfl)
def xn{w:aw}{base n k:Nat}{e:TypeId}{A:Option Addr}{c:Nat}{xs:List Value}{x:Value}(h:w.ownsRow base e 1 (ae A n c) n xs)(a:xs[k]? = Z x):∃r,A=Z ⟨r,0,I⟩/\w.cell? ⟨r,k,I⟩=Z x/\base<=r/\n<=maxLen:=by
 rcases h.2 with⟨h1,h2⟩ | ⟨r,cap,dx,h1,h2,h3,h4,h5,h6,h7⟩
 ·have:=h.1;rw[h2]at this;have:xs=[]:=cU.1 z;subst this;simp at a
 ·injection h1 with h1 f b
  subst h1;refine⟨r,rfl,?_,h2,z⟩;have d:=h.cells (g:=r) rfl k x a;have i:(⟨r,0,I⟩:Addr).add k=⟨r,k,I⟩:=by unfold Addr.add;split<;>simp_all
  rw[i]at d;exact d
def BN(bk:Bk)(s f:Int):Bk:=M.set bk s λid=>if bk s id=Z 0 then Z f else bk s id
def vO(bk:Bk)(s f:Int)(l:List Int):Bk:=λs' id=>if s'=s/\(id:Int)∈l then Z f else bk s' id
def yx(g m N:Nat)(bk:Bk)(s f:Int)(w:aw)(h:eD w g m bk N)(hf:1<=f/\f<=8)(hN:N<1000000) :
  aF af 93 #[aq (Z ⟨g,0,I⟩),J V s,J V f] w λe w'=>(∃v,e=av v)/\eD w' g m (BN bk s f) N/\cS (One m) w w':=by
 have hp:=rV g m N bk s w h z;have HP:=au hp;have H:=au h;have lm:=h.lt;clear hp h;go_enter func93,ntmps93;go_wp2_with (first
  |(refine(xR f w hf).mono ?_;rintro e w2 ⟨rfl,G⟩;have u:=G.symm;subst u)
  |(refine HP.O.mono ?_;rintro e w2 ⟨v,zs,rfl,own,b2,K,l⟩;obtain⟨A,c,rfl⟩:=bA own;have L:=au own;have HB:=au b2;have E:=au l;have P:=au (H.O.below b2);clear own b2 l))
 have hA:=au (λi (q:(ae A zs.length c).ownBlock=Z i)=>(L.O.lt i q).1);go_loopw [18] (λQ wr=>∃k:Nat,Q=J V k/\k<=zs.length/\wr.ownsRow w.heap.size 3 1 (ae A zs.length c) zs.length (zs.map (J V))/\eD wr g m (vO bk s f (zs.take k)) N/\cS (One m) w wr) (λQ _=>zs.length-(match Q with | J _ n=>n.toNat | _=>0));case atStart=>exact⟨0,rfl,z,L.O,P.O.congr (λs' id=>by simp[vO]),.bn HB.O⟩
 case round =>
  obtain⟨k,rfl,hk,own,a,F⟩:=hrel;by_cases b:k<zs.length
  ·have hx:(zs.map (J V))[k]? = Z (J V zs[k]):=by simp[ay b]
   obtain⟨r,rfl,hc,hr,R⟩:=xn own hx;have S:=R;unfold maxLen at S;obtain⟨id,hid,o⟩:=(E.O zs[k]).1 (List.getElem_mem b);have c0:=a.cw.cell 0;simp at c0;rw[hid]at hc;have x:¬((id:Int)∈zs.take k):=λq=>by
    obtain⟨j,hj,T⟩:=ed q;rw[List.length_take]at hj;rw[List.getElem_take,<-hid]at T;have:=List.pairwise_iff_getElem.1 K j k z b z;omega
   have t:((vO bk s f (zs.take k)) s id).isSome=true:=by simp[vO,x,o]
   obtain⟨aI,hZ,y,U⟩:=a.nX hN t (f:=f) ⟨z,hf.2⟩;have p:eD aI g m (vO bk s f (zs.take (k+1))) N:=y.congr λs' d=>by
    have ht:zs.take (k+1)=zs.take k++[(id:Int)]:=by rw[List.take_succ_eq_append_getElem b,hid]
    rw[ht];unfold M.set vO;by_cases B:s'=s
    ·subst B;by_cases e2:d=id
     ·subst e2;simp
     ·have e3:¬((d:Int)=(id:Int)):=z;simp[e2,e3]
    ·simp[B]
   have oZ:=du own U (λi q q2=>by
    have:=L.O.lt i q
    have h1:=(hA.O i q)
    rw[show i=m from q2]at h1;omega)
   have C:=F.trans U;obtain⟨K1,W,X⟩:=bU oZ p C;clear oZ p C y U F a own hx t x o;go_wp2_with fail;go_roundw;case rel=>exact⟨k+1,dt,z,K1.O,W.O,X.O⟩
   case measure=>simp;omega
  ·have Y:k=zs.length:=z;subst Y;rw[List.take_length]at a;have D:eD wr g m (BN bk s f) N:=a.congr λs' id=>by
    unfold vO BN M.set;by_cases B:s'=s
    ·subst B;have:=E.O (id:Int);by_cases t:bk s' id=Z 0
     ·have hm:(id:Int)∈zs:=(E.O _).2 ⟨id,rfl,t⟩;simp[t,hm]
     ·have hm:¬(id:Int)∈zs:=λq=>by
       obtain⟨d,h1,h2⟩:=(E.O _).1 q;have:id=d:=z;subst this;exact t h2
      simp[t,hm]
    ·simp[B]
   obtain⟨W,X⟩:=bu D F;clear a D F;go_wp2_with fail;go_ret;exact⟨⟨_,rfl⟩,W.O,X.O⟩
def nk(v:Int×Int->Int)(s:Int)(done:List (Int×Int))(f:Nat):Nat:=(done.filter λx=>decide (x.1=s)&&decide (v x=(f:Int))).length
def zT(v:Int×Int->Int)(s:Int)(done:List (Int×Int))(x:Int×Int)(f:Nat):nk v s (done++[x]) f=nk v s done f+if x.1=s/\v x=(f:Int) then 1 else 0:=by
 unfold nk;rw[ju,cG];congr 1;by_cases h1:x.1=s<;>by_cases h2:v x=(f:Int)<;>simp[h1,h2]
def iF(v:Int×Int->Int)(s:Int)(done:List (Int×Int)):Array Value:=#[J V (nk v s done 0),J V (nk v s done 1),J V (nk v s done 2),J V (nk v s done 3),J V (nk v s done 4),J V (nk v s done 5),J V (nk v s done 6),J V (nk v s done 7),J V (nk v s done 8)]
def MR(v:Int×Int->Int)(s:Int)(done:List (Int×Int))(f:Nat):nk v s done f<=done.length:=eE _ _
def yo(v:Int×Int->Int)(s:Int)(done:List (Int×Int))(f:Nat)(a:f<9):(iF v s done)[f]? = Z (J V (nk v s done f)):=by
 unfold iF;have:f=0\/f=1\/f=2\/f=3\/f=4\/f=5\/f=6\/f=7\/f=8:=z;rcases this with h|h|h|h|h|h|h|h|h<;>subst h<;>rfl
def AB(v:Int×Int->Int)(s:Int)(done:List (Int×Int))(x:Int×Int)(f:Nat)(c:f<9)(a:v x=(f:Int))(b:x.1=s):(iF v s done).setIfInBounds f (J V ((nk v s done f:Int)+1))=iF v s (done++[x]):=by
 unfold iF;have:f=0\/f=1\/f=2\/f=3\/f=4\/f=5\/f=6\/f=7\/f=8:=z;rcases this with h|h|h|h|h|h|h|h|h<;>subst h<;>simp[zT,a,b]
def AD(v:Int×Int->Int)(s:Int)(done:List (Int×Int))(x:Int×Int)(a:x.1≠s):iF v s (done++[x])=iF v s done:=by
 unfold iF;simp[zT,a]
def mq(bk:Bk)(P:Nat)(s:Int)(f:Nat):Nat:=((kq P).filter λid=>decide (bk s id=Z (f:Int))).length
def Kd{ds done:List (Int×Int)}{v:Int×Int->Int}{bk:Bk}{N P:Nat}(h:PZ ds v bk N)(l:∀s id,P<=id->bk s id=I)(o:done.Nodup)(h1:∀x∈done,x∈ds)(h2:∀x∈ds,x∈done)(s:Int)(f:Nat):nk v s done f=mq bk P s f:=by
 unfold nk mq;have e:(done.filter λx=>decide (x.1=s)&&decide (v x=(f:Int))).length=((done.filter λx=>decide (x.1=s)&&decide (v x=(f:Int))).map (λx=>x.2)).length:=by rw[gP]
 have p:((kq P).filter λid=>decide (bk s id=Z (f:Int))).length=(((kq P).filter λid=>decide (bk s id=Z (f:Int))).map (λ(n:Nat)=>(n:Int))).length:=by rw[gP]
 rw[e,p];have n1:((done.filter λx=>decide (x.1=s)&&decide (v x=(f:Int))).map (λx=>x.2)).Nodup:=by
  unfold List.Nodup;rw[sw];refine nt ?_ (kP _ o);intro x y k hy d e;have h1:=(eL.1 k).2;have h2:=(eL.1 hy).2;simp only[cM,decide_eq_true_eq]at h1 h2;exact d (Prod.ext (h1.1.trans h2.1.symm) e)
 have r:(((kq P).filter λid=>decide (bk s id=Z (f:Int))).map (λ(n:Nat)=>(n:Int))).Nodup:=by
  unfold List.Nodup;rw[sw];refine nt ?_ (kP _ List.nodup_range);intro x y k hy d e;exact d z
 have m:∀g:Int,g∈((done.filter λx=>decide (x.1=s)&&decide (v x=(f:Int))).map (λx=>x.2))↔g∈(((kq P).filter λid=>decide (bk s id=Z (f:Int))).map (λ(n:Nat)=>(n:Int))):=by
  intro g;constructor
  ·intro i;obtain⟨⟨a,b⟩,hm,rfl⟩:=eU.1 i;rw[eL]at hm;simp only[cM,decide_eq_true_eq]at hm;have j:=h1 _ hm.1;have hr:=h.wb _ j;simp only at hr;have c:bk s b.toNat=Z (f:Int):=by
    rw[h.at_ s b.toNat,show ((b.toNat:Nat):Int)=b from z,<-hm.2.1,if_pos j,hm.2.2]
   refine eU.2 ⟨b.toNat,eL.2 ⟨List.mem_range.2 ?_,by simpa using c⟩,by show((b.toNat:Nat):Int)=b;omega⟩;rcases Nat.lt_or_ge b.toNat P with q|q
   ·exact q
   ·rw[l s _ q]at c;cases c
  ·intro i;obtain⟨id,hm,rfl⟩:=eU.1 i;rw[eL]at hm;have c:bk s id=Z (f:Int):=by simpa using hm.2
   have t:=c;rw[h.at_ s id]at c;split at c
   ·rename_i q;refine eU.2 ⟨(s,(id:Int)),eL.2 ⟨h2 _ q,?_⟩,rfl⟩;simp only[bf]at c;simp[c]
   ·cases c
 exact Nat.le_antisymm (dX n1 λg i=>(m g).1 i) (dX r λg i=>(m g).2 i)
def pX(bk:Bk)(P:Nat)(s:Int):Array Value:=#[J V (mq bk P s 0),J V (mq bk P s 1),J V (mq bk P s 2),J V (mq bk P s 3),J V (mq bk P s 4),J V (mq bk P s 5),J V (mq bk P s 6),J V (mq bk P s 7),J V (mq bk P s 8)]
def CT{ds done:List (Int×Int)}{v:Int×Int->Int}{bk:Bk}{N P:Nat}(h:PZ ds v bk N)(a:∀s id,P<=id->bk s id=I)(b:done.Nodup)(h1:∀x∈done,x∈ds)(h2:∀x∈ds,x∈done)(s:Int):iF v s done=pX bk P s:=by
 unfold iF pX;simp only[Kd h a b h1 h2]
def Le:(af.info? 46).map (·.size)=Z 9:=cC
def GP(g m N P:Nat)(bk:Bk)(sub:Int)(w:aw)(h:eD w g m bk N)(hN:N<=1000000)(hP:∀s id,P<=id->bk s id=I) :
  aF af 35 #[aq (Z ⟨g,0,I⟩),J V sub] w λe w'=>e=av (cg (pX bk P sub))/\aC w w':=by
 obtain⟨ds,v,H,hM,hR⟩:=h;have c0:=H.cell 0;simp at c0;have mg:=hM.ki H;have lm:=hM.lt;have lg:=H.lt;have SQ:=hR.small;obtain⟨HM,HG,HR⟩:=bU hM H hR;clear hM H hR;go_enter func35,ntmps35;go_upto_region 2 with fail;obtain⟨r4,h4⟩:=dH w.heap.size;obtain⟨r5,h5⟩:=dH (w.heap.size+1);rw[<-h5,<-h4];refine aW (λW=>aK W r4 46 (iF v sub [])/\aK W r5 46 (iF v sub [])/\aK W g 204 #[.map (Z m)]/\gE KB W m ds (λx=>J V (v x))/\aC w W) ⟨(aK.newAt _ _ _ _ h4).alloc _,aK.newAt _ _ _ _ (by simp[h5]),(HG.O.alloc _).alloc _,(HM.O.alloc _).alloc _,((ao _ w).alloc (aj _) _).alloc dt _⟩ ?_;rintro W ⟨b4,b5,bG,bM,al⟩;have eI:r4≠r5:=z;have gX:w.heap.size<=r4:=z;have mK:w.heap.size<=r5:=z;have SU:r4≠m:=z;have K:r5≠m:=z;clear h4 h5 HM HG c0;have c0:=bG.cell 0;simp at c0;obtain⟨H4,H5,AL,BM⟩:=cA b4 b5 al bM;have l4:=b4.lt;have l5:=b5.lt;clear b4 b5 bG al bM;go_wp2_with (at_range;go_loud (refine uK _ nV rfl _ rfl m ds _ rfl BM.O ?_));intro w1 r1 u1 s1;obtain⟨r,l⟩:=dH W.heap.size;rw[<-l]at r1 ⊢;have B1:=AL.O.trans (u1.below AL.O.size (λ_ q=>q.elim));have X4:=H4.O.dW u1 (λq=>q);have X5:=H5.O.dW u1 (λq=>q);have SG:w.heap.size<=r:=by rw[l];exact AL.O.size
 have SH:r4≠r:=z;have C:r5≠r:=z;clear l;obtain⟨SI,SJ,k,n⟩:=cA r1 B1 X4 X5;clear X4 X5 r1 B1 u1 s1 H4 H5 AL BM l4 l5;go_wp2_with fail;go_loopw [13] (λ_ wr=>∃done,kY KB wr m r ds (λx=>J V (v x)) done/\aK wr r4 46 (iF v sub [])/\aK wr r5 46 (iF v sub done)/\aC w wr) (λ_ wr=>wr.rangeLeft m r);case atStart=>exact⟨[],SI.O,k.O,n.O,SJ.O⟩
 case round =>
  obtain⟨done,hr,b4,b5,bl⟩:=hrel;go_wp2_with (at_next;go_loud (refine vR _ ue rfl _ rfl m r ds _ done rfl hr ?d ?q));case d =>
   intro A;have o:=hr.sub;have he:=CT HR.O hP o.1 o.2 (λx hx=>A x.1 x.2 hx) sub;rw[he]at b5;have k0:=b5.cell 0;have k1:=b5.cell 1;have k2:=b5.cell 2;have k3:=b5.cell 3;have k4:=b5.cell 4;have k5:=b5.cell 5;have k6:=b5.cell 6;have k7:=b5.cell 7;have k8:=b5.cell 8;simp[pX]at k0 k1 k2 k3 k4 k5 k6 k7 k8;obtain⟨k,n,HB⟩:=bU b4 b5 bl;clear hr A o he b4 b5 bl;have L:∀u∈(pX bk P sub).toList,u.oneCell'=true:=by intro u hu;simp[pX]at hu;rcases hu with h|h|h|h|h|h|h|h|h<;>subst h<;>rfl
   go_wp2_with (refine jb _ rfl (.tmp 4) (.tmp 27) 46 rfl r4 0 46 (iF v sub []) rfl (pX bk P sub) rfl Le k.O (aj _) L ?_;intro w6 c v6);have e6:de (iF v sub []) 0 (pX bk P sub).toList=pX bk P sub:=rfl;rw[e6]at c;go_wp2_with fail;have q0:=c.cell 0;have q1:=c.cell 1;have q2:=c.cell 2;have q3:=c.cell 3;have q4:=c.cell 4;have q5:=c.cell 5;have q6:=c.cell 6;have q7:=c.cell 7;have q8:=c.cell 8;simp[pX]at q0 q1 q2 q3 q4 q5 q6 q7 q8;clear k0 k1 k2 k3 k4 k5 k6 k7 k8;refine ax (v:=cg (pX bk P sub)) (by simp[aV,results35,go_sem,q0,q1,q2,q3,q4,q5,q6,q7,q8,pX]) rfl ⟨rfl,?_⟩;exact HB.O.trans (v6.below HB.O.size (λi q=>by rw[show i=r4 from q];exact gX))
  case q =>
   intro a b w2 SK SV D M u2 SL B;have Q:(sF (aq (Z ⟨r,0,I⟩))).run af w2=.ok (aB #[cg #[J V a,J V b],J V (v (a,b))]) w2:=B;clear B;have x4:=b4.dW u2 SH;have x5:=b5.dW u2 C;have b2:=bl.trans (u2.below bl.size (λi q=>by rw[show i=r from q];exact SG));have SM:=HR.O.sJ _ SK;have hle:=λf=>MR v sub done f;have SW:done.length<=1000000:=by have q:=D.sub;have q2:=dX q.1 q.2;simp at q2;omega
   obtain⟨j,R,E⟩:∃j:Nat,v (a,b)=(j:Int)/\j<9:=⟨(v (a,b)).toNat,z,z⟩;rw[R]at Q;have S:=yo v sub done j E;have c5:=x5.cell j;rw[S]at c5;have hlen:=hle j;obtain⟨k,n,t,y⟩:=cA x4 x5 b2 D;have SN:=x5.frozen j;clear x4 x5 b2 D b4 b5 bl hr SL hle S SM;by_cases ha:a=sub
   ·subst ha;go_upto_region 6 with fail;have L6:=y.O.kj (F:=cr) ((cS.refl _ _).alloc (.cells #[J V a,J V b] 210)) id id;refine aW (λY=>kY KB Y m r ds (λx=>J V (v x)) (done++[(a,b)])/\aK Y r4 46 (iF v a [])/\aK Y r5 46 (iF v a done)/\aC w Y/\Y.rangeLeft m r<wr.rangeLeft m r) ⟨y.O.dW (F:=cr) ((cS.refl _ _).alloc _) id id,k.O.alloc _,n.O.alloc _,t.O.alloc t.O.size _,by rw[L6];exact M⟩ ?_;rintro Y ⟨rY,b4,b5,bY,T⟩;have SO:=b5.cell j;rw[yo v a done j E]at SO;have SP:=b5.frozen j;have U:=b4.dS (p:=⟨r5,j,I⟩) eI (J V ((nk v a done j:Int)+1));have G:=b5.bC j (J V ((nk v a done j:Int)+1));rw[AB v a done (a,b) j E R rfl]at G;have uY:cS (One r5) Y (Y.setCell ⟨r5,j,I⟩ (J V ((nk v a done j:Int)+1))):=(cS.refl (One r5) Y).setCell (p:=⟨r5,j,I⟩) (aJ rfl) _;have X:=rY.dW uY (λq=>K q.symm) (λq=>C q.symm);have aI:=rY.kj uY (λq=>K q.symm) (λq=>C q.symm);have df:=bY.trans (uY.below bY.size (λi q=>by rw[show i=r5 from q];exact mK));obtain⟨K1,K2,K3,K4,K5⟩:=gY U G X df (show(Y.setCell ⟨r5,j,I⟩ (J V ((nk v a done j:Int)+1))).rangeLeft m r<wr.rangeLeft m r by rw[aI];exact T);clear b4 b5 rY uY bY T U G X aI df L6 SN c5 Q;go_wp2_with fail;go_roundw;case rel=>exact⟨done++[(a,b)],K3.O,K1.O,K2.O,K4.O⟩
    case measure=>exact K5.O
   ·have SX:(a==sub)=false:=by simpa using ha
    go_wp2_with fail;go_roundw;case rel=>exact⟨done++[(a,b)],y.O.dW (F:=cr) ((cS.refl _ _).alloc _) id id,k.O.alloc _,by rw[AD v sub done (a,b) ha];exact n.O.alloc _,t.O.alloc t.O.size _⟩
    case measure=>rw[y.O.kj (F:=cr) ((cS.refl _ _).alloc _) id id];exact M
def CA{w:aw}{B b:Nat}{e:TypeId}{size n:Nat}{v:Value}{xs:List Value}(h:w.ownsRow B e size v n xs)(a:b<=B):w.ownsRow b e size v n xs:=by
 refine⟨h.1,?_⟩;rcases h.2 with q | ⟨r,cap,dx,h1,h2,h3⟩
 ·exact aJ q
 ·exact aZ ⟨r,cap,dx,h1,aP a h2,h3⟩
def wB(g m N P:Nat)(bk:Bk)(sub:Int)(w:aw)(h:eD w g m bk N)(B:N<=1000000)(C:∀s id,P<=id->bk s id=I) :
  aF af 12 #[Qv g,J V sub] w λe w'=>e=av (cg (pX bk P sub))/\aC w w':=by
 go_enter func12,ntmps12;have H:Array Value:=#[];go_upto_region 1 with fail;obtain⟨r4,h4⟩:=dH (w.heap.size+1);obtain⟨r2,h2⟩:=dH w.heap.size;rw[<-h4,<-h2];refine aW (λW=>aK W r2 50 #[aq (Z ⟨g,0,I⟩)]/\aK W r4 46 (iF (λ_=>0) 0 [])/\eD W g m bk N/\aC w W) ⟨(aK.newAt _ _ _ _ h2).alloc _,aK.newAt _ _ _ _ (by simp[h4]),((h.below ((ao _ w).alloc (aj _) _))).below ((ao _ _).alloc (aj _) _),((ao _ w).alloc (aj _) _).alloc dt _⟩ ?_;rintro W ⟨b2,b4,d,f⟩;have c:w.heap.size<=r4:=z;clear h2 h4 h;have c2:=b2.cell 0;simp at c2;have b:∀u∈(pX bk P sub).toList,u.oneCell'=true:=by intro u hu;simp[pX]at hu;rcases hu with h|h|h|h|h|h|h|h|h<;>subst h<;>rfl
 have D:=au (GP g m N P bk sub W d B C);have E:=au b4;have j:=au f;clear b2 b4 d f;go_wp2_with (first
  |(refine D.O.mono ?_;rintro e w2 ⟨rfl,b3⟩;have F:=E.O.kept b3)
  |(refine jb _ rfl (.tmp 4) (.tmp 8) 46 rfl r4 0 46 (iF (λ_=>0) 0 []) rfl (pX bk P sub) rfl Le F (aj _) b ?_;intro w6 a v6))
 have G:de (iF (λ_=>0) 0 []) 0 (pX bk P sub).toList=pX bk P sub:=rfl;rw[G]at a;have k:=a.cell 0;have l:=a.cell 1;have n:=a.cell 2;have o:=a.cell 3;have p:=a.cell 4;have r:=a.cell 5;have t:=a.cell 6;have x:=a.cell 7;have y:=a.cell 8;simp[pX]at k l n o p r t x y;go_wp2_with fail;refine ax (v:=cg (pX bk P sub)) (by simp[aV,results12,go_sem,k,l,n,o,p,r,t,x,y,pX]) rfl ⟨rfl,?_⟩;have A:=j.O.trans (b3.mono j.O.size);exact A.trans (v6.below A.size (λi q=>by rw[show i=r4 from q];exact c))
def Fu(A:Option Addr)(n c:Nat)(xs:List Int)(w:aw)(h:TB w A n xs)(hm:n<=100000)(s:n<=c) :
  aF af 299 #[ae A n c] w λe w'=>(match M.pg xs with | none=>e=av (aB #[ae I 0 0,ai false]) | some k=>e=av (aB #[ae A k.length c,ai true])/\TB w A k.length k)/\w'=w:=by
 have g:=h.len;by_cases t:n=0
 ·have p:xs=[]:=cU.1 z;have he:M.pg xs=I:=by rw[p];rfl
  rw[he];subst t;clear he g h p;go_enter func299,ntmps299;go_wp2_with fail;refine ax (v:=aB #[ae I 0 0,ai false]) (by simp[aV,results299,go_sem]) rfl ⟨rfl,rfl⟩
 ·have u:((n:Int)==0)=false:=dZ;obtain⟨b,off,rfl,G,i⟩:=h.cell z;have x:=i (n-1) z;have hy:=h.wA _ (nQ (l:=xs) (k:=n-1) z);have a:=wI (l:=xs) z;rw[g]at a;generalize xs.getD (n-1) 0=y at x hy a;have d:M.pg xs=if y=0\/y % 4≠0\/(xs.length:Int)<y then I else Z (xs.take (xs.length-y.toNat)):=by unfold M.pg;rw[a]
  rw[g]at d;have B:((n:Int)-1).toNat=n-1:=z;by_cases j:y=0
  ·rw[if_pos (aJ j)]at d;rw[d];subst j;clear d a g i h;go_enter func299,ntmps299;go_wp2_with fail;refine ax (v:=aB #[ae I 0 0,ai false]) (by simp[aV,results299,go_sem]) rfl ⟨rfl,rfl⟩
  ·have C:(y==0)=false:=by simpa using j
   obtain⟨f,rfl⟩:∃f:Nat,y=f:=⟨y.toNat,z⟩;by_cases D:(f:Int) % 4=0
   ·have m:((f:Int) % 4 !=0)=false:=dZ;by_cases E:(n:Int)<f
    ·rw[if_pos (aZ (aZ E))]at d;rw[d];clear d a g i h;go_enter func299,ntmps299;go_wp2_with fail;refine ax (v:=aB #[ae I 0 0,ai false]) (by simp[aV,results299,go_sem]) rfl ⟨rfl,rfl⟩
    ·rw[if_neg z]at d;have q:(xs.take (n-(f:Int).toNat)).length=n-f:=by simp[g]
     have r:TB w (Z ⟨b,off,I⟩) (n-f) (xs.take (n-(f:Int).toNat)):=by
      have:=h.pre (n-f) z;simpa using this
     rw[d];simp only[q];have o:(n:Int)-(f:Int)=((n-f:Nat):Int):=z;have F:=au r;clear d a g i h q r;go_enter func299,ntmps299;go_wp2_with fail;refine ax (v:=aB #[ae (Z ⟨b,off,I⟩) (n-f) c,ai true]) (by simp[aV,results299,go_sem]) rfl ⟨⟨rfl,F.O⟩,rfl⟩
   ·have m:((f:Int) % 4 !=0)=true:=dZ;rw[if_pos (aZ (aJ D))]at d;rw[d];clear d a g i h;go_enter func299,ntmps299;go_wp2_with fail;refine ax (v:=aB #[ae I 0 0,ai false]) (by simp[aV,results299,go_sem]) rfl ⟨rfl,rfl⟩
def rj(count type:Int)(A:Option Addr)(n c:Nat)(xs:List Int)(w:aw)(h:xs.length=n)(b:n<=100000) :
  aF af 259 #[cg #[J bI count,J bI type,ae A n c]] w λe w'=>e=av (ai (M.Chunk.right ⟨count,type,xs⟩))/\aC w w':=by
 have hR:M.Chunk.right ⟨count,type,xs⟩=(decide (count<=31)&&(n % 4==0&&decide (4+n<=200))):=by unfold M.Chunk.right;simp only[h]
 rw[hR];clear hR h;by_cases h1:count<=31
 ·by_cases h2:n % 4=0
  ·have d2:((n:Int) % 4==0)=true:=dZ;go_enter func259,ntmps259;by_cases h3:4+n<=200
   ·have d3:decide (4+(n:Int)<=200)=true:=dZ;have a:4+(n:Int)<=200:=z;go_wp2_with fail;go_ret;exact⟨by simp[h1,h2,h3],(ao _ w).alloc (aj _) _⟩
   ·have d3:decide (4+(n:Int)<=200)=false:=dZ;have a:¬(4+(n:Int)<=200):=z;go_wp2_with fail;go_ret;exact⟨by simp[h1,h2,h3],(ao _ w).alloc (aj _) _⟩
  ·have d2:((n:Int) % 4==0)=false:=dZ;go_enter func259,ntmps259;go_wp2_with fail;go_ret;exact⟨by simp[h1,h2],(ao _ w).alloc (aj _) _⟩
 ·go_enter func259,ntmps259;go_wp2_with fail;go_ret;exact⟨by rw[decide_eq_false (z:¬count<=31)];rfl,(ao _ w).alloc (aj _) _⟩
end Go.Proofs.YtkfblammcilfhaaGreatDoor
