import Derived.Lib.SmallJoins
import Derived.Laws.AppendOwnNone
import Derived.Maps.RangeWalk
import Derived.DeepKeys4
import Derived.Maps.Range
import Derived.Test.YtkfblammcilfhaaGreatDoorP0
set_option linter.all false
set_option maxRecDepth 100000
set_option maxHeartbeats 100000000
open Go.ChangeShapes Go.WideShapes Go.ChangeAt Go.RowKit Go.Proofs.Tryz
open Go renaming World->aw,IntKind->jC,Calls->aF,bodyPost_end->dq,results_none->bT,bodyPost_ret->ax,info_parts->cY,wpList_append_own->dM,results->aV,Oper->mJ,Operand->oN,wpList->oD,wpList_plain->oB
open Go.IntKind renaming min->jI,max->jJ,signed->fR,bits->gM,u64->nS,i64->V,u16->aN,wrap_u16->mX,u32->ar,u8->bI
open Go.Proofs.Tryz renaming prog->af
open List renaming length_eq_zero_iff->cU,take_of_length_le->dC,getElem?_eq_none->fx,getElem?_eq_getElem->ay,getD_eq_getElem?_getD->bE,length_cons->ft,mem_of_mem_take->eZ,mem_append->bt,length_append->cG,flatMap_cons->kO,flatMap_append->jR,append_assoc->dL,nodup_append->jj
open Nat renaming add_zero->iw,lt_or_ge->iL,le_refl->aj,eq_zero_or_pos->iV,le_trans->aP,le_of_lt->lN
open Go.Value renaming int->J,slice->ae,bool->ai,pointer->aq,tuple->aB,agg->cg
open Option.some renaming injEq->bf
open Go.RowKit.Below renaming refl->ao
open Int renaming lt_of_lt_of_le->nI,tdiv_eq_ediv_of_nonneg->rE
open Go.RowKit renaming intOf->bS,Below->iQ
open Array renaming size_setIfInBounds->dh,getElem?_setIfInBounds_self_of_lt->fV,getElem?_setIfInBounds_ne->gi
open Bool renaming and_eq_true->cM,not_eq_true'->oP,or_eq_false_iff->mM,and_eq_false_iff->oV
open Go.Result renaming andThen->jH
open Go.Maps renaming has->tF,has_put_other->nJ
open List.Nodup renaming mem_erase_iff->iH
open Go.Ending renaming returned->av
open Or renaming inl->aJ,inr->aZ
open Option renaming none->I,some->Z
namespace Go.Proofs.YtkfblammcilfhaaGreatDoor
def cS.cell{a b:aw}{g:Nat}(h:cS (One g) a b)(i:Nat)(v:Value):cS (One g) a (b.setCell ⟨g,i,I⟩ v):=h.setCell (p:=⟨g,i,I⟩) (aJ rfl) v
def TL.bC{t a:TypeId}{k:jC}{w:aw}{A:Option Addr}{n:Nat}{xs:List Int}{g:Nat}{cs:Array Value}(h:TL t k w A n xs)(d:aK w g a cs)(ht:t≠a)(i:Nat)(u:Value):TL t k (w.setCell ⟨g,i,I⟩ u) A n xs:=
 h.map λb e c=>c.dS (p:=⟨g,i,I⟩) (aK.jf c d ht) u
def TL.wA{t:TypeId}{w:aw}{A:Option Addr}{n:Nat}{xs:List Int}(h:TL t bI w A n xs):∀x∈xs,0<=x/\x<=255:=λx a=>by
 have:=h.wf x a;simp[Lit.wf,jI,jJ,fR,gM]at this;omega
def lr(g:Nat)(r:M.Rd)(w:aw)(h:iG w g r):aF af 53 #[aq (Z ⟨g,0,I⟩)] w λe w'=>e=av (J V r.left.length)/\w'=w:=by
 obtain⟨A,n,c,d,a,h1,h2,h3⟩:=h;clear h3;have b:=a.len;have f:=d.cell 0;simp at f;have i:=au b;clear a b;go_enter func53,ntmps53;go_wp2_with fail;go_ret;exact⟨by rw[i.O];rfl,rfl⟩
def qy(g:Nat)(r:M.Rd)(w:aw)(h:iG w g r):aF af 55 #[aq (Z ⟨g,0,I⟩)] w λe w'=>e=av (J V r.end_)/\w'=w:=by
 obtain⟨A,n,c,d,f,h1,h2,h3⟩:=h;clear h3;have b:=f.len;have i:=d.cell 0;have c1:=d.cell 1;obtain⟨left,nc⟩:=r;simp at i c1;simp only at b;clear f;by_cases hw:nc=0
 ·subst hw;by_cases j:0<n
  ·have he:M.Rd.end_ ⟨left,0⟩=4:=by
    have:0<left.length:=z;simp[M.Rd.end_,this]
   have a:=au he;clear he b;go_enter func55,ntmps55;go_wp2_with fail;go_ret;exact⟨by rw[a.O];rfl,rfl⟩
  ·have he:M.Rd.end_ ⟨left,0⟩=0:=by simp[M.Rd.end_];exact cU.1 z
   have a:=au he;clear he b;go_enter func55,ntmps55;go_wp2_with fail;go_ret;exact⟨by rw[a.O];rfl,rfl⟩
 ·have he:M.Rd.end_ ⟨left,nc⟩=nc:=by simp[M.Rd.end_,hw]
  have a:=au he;clear he b;have k:(nc==0)=false:=by simpa using hw
  go_enter func55,ntmps55;go_wp2_with fail;go_ret;exact⟨by rw[a.O];rfl,rfl⟩
def mP(g:Nat)(r:M.Rd)(x:Int)(w:aw)(h:iG w g r):aF af 51 #[aq (Z ⟨g,0,I⟩),J V x] w λe w'=>e=av (aB #[])/\iG w' g (r.fail x)/\cS (One g) w w':=by
 obtain⟨A,n,c,a,b,h1,h2,h3⟩:=h;obtain⟨left,nc⟩:=r;have k:=a.cell 0;have c1:=a.cell 1;have f0:=a.frozen 0;have f1:=a.frozen 1;simp at k c1;simp only at a b;by_cases f:x=0
 ·have he:M.Rd.fail ⟨left,nc⟩ x=⟨left,nc⟩:=by simp[M.Rd.fail,f]
  obtain⟨i,d⟩:=bu (show iG w g ⟨left,nc⟩ from⟨A,n,c,a,b,h1,h2,h3⟩) he;clear he b h3;subst f;go_enter func51,ntmps51;go_wp2_with fail;first|refine dq (bT results51 _ _ _) rfl ?_|refine ax (bT results51 _ _ _) rfl ?_
  exact⟨rfl,by rw[d.O];exact i.O,cS.refl _ _⟩
 ·have m:(x==0)=false:=by simpa using f
  by_cases hw:nc=0
  ·subst hw;have he:M.Rd.fail ⟨left,0⟩ x=⟨[],x⟩:=by simp[M.Rd.fail,f]
   have j:=(a.bC 1 (J V x)).bC 0 (ae I 0 0);simp at j;have d:=au he;clear he b h3;go_enter func51,ntmps51;go_wp2_with fail;first|refine dq (bT results51 _ _ _) rfl ?_|refine ax (bT results51 _ _ _) rfl ?_
   exact⟨rfl,by rw[d.O];exact⟨I,0,0,j,TL.empty,z,ui,λq=>absurd q z⟩,((cS.refl _ _).cell _ _).cell _ _⟩
  ·have he:M.Rd.fail ⟨left,nc⟩ x=⟨left,nc⟩:=by simp[M.Rd.fail,hw]
   obtain⟨i,d⟩:=bu (show iG w g ⟨left,nc⟩ from⟨A,n,c,a,b,h1,h2,h3⟩) he;clear he b;have l:(nc !=0)=true:=by simpa using hw
   go_enter func51,ntmps51;go_wp2_with fail;first|refine dq (bT results51 _ _ _) rfl ?_|refine ax (bT results51 _ _ _) rfl ?_
   exact⟨rfl,by rw[d.O];exact i.O,cS.refl _ _⟩
def add_lit(b off j:Nat):(⟨b,off,I⟩:Addr).add j=⟨b,off+j,I⟩:=by
 unfold Addr.add;split
 ·rename_i a;rw[a];rfl
 ·rfl
def qQ(g:Nat)(r:M.Rd)(x:Int)(w:aw)(h:iG w g r)(S:-1000000000<=x/\x<=1000000000):aF af 98 #[aq (Z ⟨g,0,I⟩),J V x] w λe w'=>(∃A m c,e=av (ae A m c)/\TB w' A m (r.take x).1/\(m=0->A=I/\c=0)/\m<=c/\m<=r.left.length)/\iG w' g (r.take x).2/\cS (One g) w w':=by
 by_cases h0:x<=0
 ·have he:r.take x=([],r):=by simp[M.Rd.take,h0]
  have f:=au he;clear he;have p:=au h;clear h;go_enter func98,ntmps98;go_wp2_with fail;go_ret;rw[f.O];exact⟨⟨I,0,0,rfl,TL.empty,λ_=>⟨rfl,rfl⟩,z,z⟩,p.O,cS.refl _ _⟩
 ·obtain⟨A,n,c,a,d,h1,h2,h3⟩:=h;have K:=a.cell 0;have f0:=a.frozen 0;simp at K;have s:=d.len;by_cases T:(n:Int)<x
  ·have he:r.take x=([],r.fail 3):=by
    have:(r.left.length:Int)<x:=z;simp[M.Rd.take,h0,this]
   have f:=au he;clear he;have p:=au (show iG w g r from⟨A,n,c,a,d,h1,h2,h3⟩);clear d s h3;go_enter func98,ntmps98;go_wp2_with fail;refine(mP g r 3 _ p.O).mono ?_;rintro e w1 ⟨rfl,F,u1⟩;have t:=au F;clear F;go_wp2_with fail;go_ret;rw[f.O];exact⟨⟨I,0,0,rfl,TL.empty,λ_=>⟨rfl,rfl⟩,z,z⟩,t.O,u1⟩
  ·obtain⟨m,rfl⟩:∃m:Nat,x=m:=⟨x.toNat,z⟩;have L:m<=n:=z;obtain⟨b,off,cs,rfl,N,i⟩:=d.2.2 z;have P:=au (h3 z b off rfl);clear h3;have he:r.take m=(r.left.take m,⟨r.left.drop m,r.nc⟩):=by
    unfold M.Rd.take;rw[if_neg h0,if_neg z,Int.toNat_natCast]
   have f:=au he;clear he;have p1:=d.part 0 m z;have p2:=d.part m (n-m) z;rw[iw,List.drop_zero]at p1;rw[dC dZ]at p2;have j:¬m=0:=z;by_cases u:c=m
   ·have v:n=m:=z;subst u;subst v;have k:=p1.bC a aR 0 (ae (Z ⟨b,off,I⟩) 0 0);have l:=a.bC 0 (ae (Z ⟨b,off,I⟩) 0 0);have o:r.left.drop n=[]:=List.drop_of_length_le z;have y:n<=r.left.length:=z;obtain⟨Q,B,C⟩:=bU k l o;clear p1 p2 k d s i l o;go_enter func98,ntmps98;go_wp2_with fail;go_ret;rw[f.O];refine⟨⟨_,n,n,rfl,Q.O,λq=>absurd q j,z,z⟩,⟨_,0,0,B.O,?_,z,z,λq=>absurd q z⟩,(cS.refl _ _).cell _ _⟩;rw[C.O];exact TL.empty
   ·have k:=p1.bC a aR 0 (ae (Z ⟨b,off+m,I⟩) (n-m) (c-m));have G:=p2.bC a aR 0 (ae (Z ⟨b,off+m,I⟩) (n-m) (c-m));have l:=a.bC 0 (ae (Z ⟨b,off+m,I⟩) (n-m) (c-m));have y:m<=r.left.length:=z;obtain⟨D,E,B⟩:=bU k G l;clear p1 p2 k G d s i l;go_enter func98,ntmps98;go_wp2_with fail;go_ret;rw[f.O];exact⟨⟨_,m,m,rfl,D.O,λq=>absurd q j,z,z⟩,⟨_,n-m,c-m,B.O,E.O,z,z,λq U H R=>by cases R;exact P.O⟩,(cS.refl _ _).cell _ _⟩
def sZ{w:aw}{g base:Nat}{e:TypeId}{size:Nat}(h:aK w g e #[])(a:base<=g):w.ownsRow base e size (ae (Z ⟨g,0,I⟩) 0 0) 0 []:=
 ⟨dt,aZ ⟨g,0,#[],rfl,a,h,z,ui,dt,dt⟩⟩
def bA{w:aw}{base:Nat}{e:TypeId}{size n:Nat}{v:Value}{xs:List Value}(h:w.ownsRow base e size v n xs):∃A c,v=ae A n c:=by
 rcases h.2 with⟨rfl,rfl⟩ | ⟨g,cap,dx,rfl,_⟩
 ·exact⟨I,0,rfl⟩
 ·exact⟨_,cap,rfl⟩
def wo{w:aw}{base:Nat}{e:TypeId}{size n m c:Nat}{A:Option Addr}{xs:List Value}(h:w.ownsRow base e size (ae A m c) n xs):A=I->c=0:=by
 rintro rfl;rcases h.2 with⟨a,_⟩ | ⟨g,cap,dx,a,_⟩
 ·simp at a;omega
 ·simp at a
def qS{w:aw}{base a:Nat}{e:TypeId}{size n:Nat}{v:Value}{xs:List Value}(h:w.ownsRow base e size v n xs)(d:a<=base):w.ownsRow a e size v n xs:=by
 obtain⟨h1,h2⟩:=h;refine⟨h1,h2.imp id ?_⟩;rintro⟨g,cap,dx,b,f,c⟩;exact⟨g,cap,dx,b,z,c⟩
def TL.iX{t:TypeId}{k:jC}{w:aw}{a:Addr}{n:Nat}{xs:List Int}(h:TL t k w (Z a) n xs):∀j u,(xs.map (J k))[j]? = Z u->w.cell? (a.add j)=Z u:=by
 intro j u hu;obtain⟨h1,h2,h3⟩:=h;rw[List.getElem?_map]at hu;have b:j<xs.length:=by
  rcases iL j xs.length with h|h
  ·exact h
  ·rw[fx h]at hu;simp at hu
 obtain⟨f,c,cs,he,d,e⟩:=h3 z;simp only[bf]at he;subst he;rw[ay b]at hu;rw[add_lit,d.cell,e j z,bE,ay b];simpa using hu
def uQ{k:jC}{xs:List Int}:∀u∈xs.map (J k),u.oneCell'=true:=by
 intro u hu;obtain⟨x,_,rfl⟩:=List.mem_map.1 hu;rfl
def Tryz.zL:(af.info? 5).map (λi=>(i.zero,i.size,i.bytes))=Z (Z (J bI 0),1,1):=cC
def EI(a:Addr)(n c:Nat)(xs:List Int)(w:aw)(h:TL 5 bI w (Z a) n xs)(hm:n<=100000) :
  aF af 57 #[ae (Z a) n c] w λe w'=>(∃l k,e=av (ae l n k)/\TL 5 bI w' l n xs/\n<=k/\k<=maxLen/\(l=I->k=0))/\aC w w':=by
 obtain⟨i0,r,f,g,i⟩:=cY Tryz.zL;obtain⟨B,m,o,p⟩:=cA r f g i;clear r f g i;have own:=sZ (aK.new w 5 #[]) (base:=w.heap.size) (e:=5) (size:=1) (aj _);have q:=((ao w.heap.size w).alloc (aj _) (.cells #[] 5));have s:=(h.below q).iX;have hw:=h.wf;have t:=h.len;have he:∀W:aw,(binOp .eql 38 (ae (Z a) n c) (ae I 0 0)).run af W=.ok (ai false) W:=λ_=>rfl;obtain⟨C,D,E⟩:=bU s hw t;clear s hw t h;go_enter func57,ntmps57;go_wp2_with (at_builtin;go_loud (refine dM _ rfl _ _ 38 rfl w.heap.size 5 i0 (J bI 0) 1 1 underlying38 B.O m.O o.O p.O rfl aR _ _ _ rfl own a n c (xs.map (J bI)) rfl (by simp[E.O]) C.O uQ ?c3 ?c4 ?c5 ?_));case c3=>unfold maxLen;omega
 case c4=>omega
 case c5=>simp
 intro v5 w5 d g5 _;have b:w5.ownsRow w.heap.size 5 1 v5 n (xs.map (J bI)):=by simpa using d
 obtain⟨u,c5,rfl,v,x,y⟩:=TL.own b D.O;have A:u=I->c5=0:=wo b;obtain⟨F,G,H,K⟩:=cA v x y A;have L:aC w w5:=q.grown g5 dt (λj M=>by have:=(own.lt j M).1;omega);clear own d b g5 v x y q A;go_wp2_with fail;go_ret;exact⟨⟨u,c5,rfl,H.O,F.O,G.O,K.O⟩,L⟩
def mC(A:Option Addr)(n c:Nat)(xs:List Int)(w:aw)(h:TL 5 bI w A n xs)(hm:n<=100000)(g:A=I->c=0) :
  aF af 57 #[ae A n c] w λe w'=>(∃f d,e=av (ae f n d)/\TL 5 bI w' f n xs/\n<=d/\d<=maxLen/\(f=I->d=0))/\aC w w':=by
 cases A with
 |some a=>exact EI a n c xs w h hm
 |none =>
  have i:n=0:=by
   rcases iV n with q|q
   ·exact q
   ·obtain⟨b,off,cs,e,_⟩:=h.2.2 q;cases e
  have j:=g rfl;subst i;subst j;have k:=au h;clear h g;have he:∀W:aw,(binOp .eql 38 (ae I 0 0) (ae I 0 0)).run af W=.ok (ai true) W:=λ_=>rfl;go_enter func57,ntmps57;go_wp2_with fail;go_ret;exact⟨⟨I,0,rfl,k.O,z,ui,λ_=>rfl⟩,ao _ _⟩
def Tryz.CN:(af.info? 41).map (λi=>(i.zero,i.size,i.bytes))=Z (Z (J ar 0),1,4):=cC
def EG(a:Addr)(n c:Nat)(xs:List Int)(w:aw)(h:TL 41 ar w (Z a) n xs)(hm:n<=100000) :
  aF af 61 #[ae (Z a) n c] w λe w'=>(∃l k,e=av (ae l n k)/\TL 41 ar w' l n xs/\n<=k/\k<=maxLen/\(l=I->k=0))/\aC w w':=by
 obtain⟨i0,r,f,g,i⟩:=cY Tryz.CN;obtain⟨B,m,o,p⟩:=cA r f g i;clear r f g i;have own:=sZ (aK.new w 41 #[]) (base:=w.heap.size) (e:=41) (size:=1) (aj _);have q:=((ao w.heap.size w).alloc (aj _) (.cells #[] 41));have s:=(h.below q).iX;have hw:=h.wf;have t:=h.len;have he:∀W:aw,(binOp .eql 74 (ae (Z a) n c) (ae I 0 0)).run af W=.ok (ai false) W:=λ_=>rfl;obtain⟨C,D,E⟩:=bU s hw t;clear s hw t h;go_enter func61,ntmps61;go_wp2_with (at_builtin;go_loud (refine dM _ rfl _ _ 74 rfl w.heap.size 41 i0 (J ar 0) 1 4 underlying74 B.O m.O o.O p.O rfl aR _ _ _ rfl own a n c (xs.map (J ar)) rfl (by simp[E.O]) C.O uQ ?c3 ?c4 ?c5 ?_));case c3=>unfold maxLen;omega
 case c4=>omega
 case c5=>simp
 intro v5 w5 d g5 _;have b:w5.ownsRow w.heap.size 41 1 v5 n (xs.map (J ar)):=by simpa using d
 obtain⟨u,c5,rfl,v,x,y⟩:=TL.own b D.O;have A:u=I->c5=0:=wo b;obtain⟨F,G,H,K⟩:=cA v x y A;have L:aC w w5:=q.grown g5 dt (λj M=>by have:=(own.lt j M).1;omega);clear own d b g5 v x y q A;go_wp2_with fail;go_ret;exact⟨⟨u,c5,rfl,H.O,F.O,G.O,K.O⟩,L⟩
def GU(A:Option Addr)(n c:Nat)(xs:List Int)(w:aw)(h:TL 41 ar w A n xs)(hm:n<=100000)(g:A=I->c=0) :
  aF af 61 #[ae A n c] w λe w'=>(∃f d,e=av (ae f n d)/\TL 41 ar w' f n xs/\n<=d/\d<=maxLen/\(f=I->d=0))/\aC w w':=by
 cases A with
 |some a=>exact EG a n c xs w h hm
 |none =>
  have i:n=0:=by
   rcases iV n with q|q
   ·exact q
   ·obtain⟨b,off,cs,e,_⟩:=h.2.2 q;cases e
  have j:=g rfl;subst i;subst j;have k:=au h;clear h g;have he:∀W:aw,(binOp .eql 74 (ae I 0 0) (ae I 0 0)).run af W=.ok (ai true) W:=λ_=>rfl;go_enter func61,ntmps61;go_wp2_with fail;go_ret;exact⟨⟨I,0,rfl,k.O,z,ui,λ_=>rfl⟩,ao _ _⟩
def qO{l:List Int}{k:Nat}(a:k<l.length):l.take (k+1)=l.take k++[l.getD k 0]:=by
 rw[List.take_succ_eq_append_getElem a,bE,ay a];rfl
def nQ{l:List Int}{k:Nat}(a:k<l.length):l.getD k 0∈l:=by
 rw[bE,ay a];exact List.getElem_mem a
def Gm(l:List Int)(x:Int):M.bO (l++[x])=M.bO l*256+x:=by simp[M.bO]
def tV:∀(l:List Int),(∀x∈l,0<=x/\x<=255)->0<=M.bO l/\M.bO l<256 ^ l.length:=by
 intro l h;suffices H:∀(l:List Int) (a:Int),0<=a->(∀x∈l,0<=x/\x<=255)->0<=l.foldl (λn x=>n*256+x) a/\l.foldl (λn x=>n*256+x) a<(a+1)*256 ^ l.length by
  have:=H l 0 z h;simpa[M.bO]using this
 intro l;induction l with
 |nil=>intro a c _;simp;omega
 |cons x r d =>
  intro a c b;have e:=b x dt;have:=d (a*256+x) z (λy hy=>b y (by simp[hy]));simp only[List.foldl_cons,ft];refine⟨this.1,nI this.2 ?_⟩;rw[Int.pow_succ,show(a+1)*(256 ^ r.length*256)=((a+1)*256)*256 ^ r.length from by rw[Int.mul_comm (256 ^ r.length) 256,Int.mul_assoc]];exact Int.mul_le_mul_of_nonneg_right z (Int.pow_nonneg z)
def IS(n:Int)(a:0<=n)(b:n<2 ^ 64):nS.wrap n=n:=by rw[IntKind.wrap_u64];omega
def NQ{a y:Int}(h0:0<=a)(h1:a<16777216)(h2:0<=y)(h3:y<=255):bits .or .u64 (a*256) y=a*256+y:=
 bits_join .u64 64 aR IS 8 (a*256) y z z z h2 z z
def tW(A:Option Addr)(n c:Nat)(xs:List Int)(w:aw)(h:TB w A n xs)(hm:n<=4)(j:n=0->A=I/\c=0)(D:n<=c) :
  aF af 157 #[ae A n c] w λe w'=>e=av (J .u64 (M.bO xs))/\w'=w:=by
 have a:=h.wA;have g:=h.len;have E:(0:Int)>=(n:Int)-8:=z;by_cases u:n=0
 ·obtain⟨rfl,rfl⟩:=j u;subst u;have m:xs=[]:=cU.1 g;subst m;clear a g h j;go_enter func157,ntmps157;go_wp2_with fail;go_loopw [4,14] (λv i wr=>v=J .u64 0/\i=J V 0/\wr=w) (λ_ i _=>0);case atStart=>exact⟨rfl,rfl,rfl⟩
  case round =>
   obtain⟨rfl,rfl,rfl⟩:=hrel;go_wp2_with fail;go_ret;exact⟨rfl,rfl⟩
 ·obtain⟨b,off,rfl,N,B⟩:=h.cell z;obtain⟨F,C,o⟩:=bU B a g;clear B a g h j;have G:¬c=0:=z;go_enter func157,ntmps157;go_wp2_with fail;go_loopw [4,14] (λv i wr=>∃k:Nat,i=J V k/\k<=n/\v=J .u64 (M.bO (xs.take k))/\wr=w) (λ_ i _=>n-(bS i).toNat);case atStart=>exact⟨0,rfl,z,rfl,rfl⟩
  case round =>
   obtain⟨k,rfl,P,rfl,rfl⟩:=hrel;by_cases a:k<n
   ·have H:=F.O k a;have hy:=C.O _ (nQ (l:=xs) (k:=k) (lE o.O));have f:=qO (l:=xs) (k:=k) (lE o.O);have d:=tV (xs.take k) (λx m=>C.O x (eZ m));generalize xs.getD k 0=y at H hy f;have p:M.bO (xs.take (k+1))=M.bO (xs.take k)*256+y:=by rw[f,Gm]
    generalize M.bO (xs.take k)=K at d p;have L:=au p;have r:K<16777216:=by
     refine nI d.2 ?_;have:(xs.take k).length<=3:=dZ;rcases Q:(xs.take k).length with _|_|_|_|q
     ·decide
     ·decide
     ·decide
     ·decide
     ·omega
    have s:=d.1;clear p d f;go_wp2_with fail;go_roundw;case rel=>exact⟨k+1,by go_num,z,by rw[L.O,NQ s r hy.1 hy.2],(by first|rfl|trivial)⟩
    case measure=>simp[bS];omega
   ·have t:k=n:=z;subst t;rw[dC (lE o.O)];go_wp2_with fail;go_ret;exact⟨rfl,rfl⟩
def iG.below{w w':aw}{g:Nat}{r:M.Rd}(h:iG w g r)(b:aC w w'):iG w' g r:=by
 obtain⟨A,n,c,a,d,h1,h2,h3⟩:=h;exact⟨A,n,c,a.kept b,d.below b,h1,h2,h3⟩
def qP(r:M.Rd)(s:Nat):(r.take s).1.length<=s:=by
 unfold M.Rd.take;split
 ·simp
 ·split
  ·simp
  ·simp;omega
def Dn(r:M.Rd)(s:Int):∀x∈(r.take s).1,x∈r.left:=by
 unfold M.Rd.take;split
 ·simp
 ·split
  ·simp
  ·exactλx a=>eZ a
def iG.wA{w:aw}{g:Nat}{r:M.Rd}(h:iG w g r):∀x∈r.left,0<=x/\x<=255:=by
 obtain⟨A,n,c,_,a,_⟩:=h;exact a.wA
def Lq{a b:Nat}(h:a<=b):(256:Int) ^ a<=256 ^ b:=by
 obtain⟨k,rfl⟩:=Nat.exists_eq_add_of_le h;rw[Int.pow_add];have h1:(0:Int)<256 ^ k:=Int.pow_pos aR;have h2:(0:Int)<=256 ^ a:=Int.pow_nonneg aR;have:=Int.mul_le_mul_of_nonneg_left (show(1:Int)<=256 ^ k from h1) h2;rwa [Int.mul_one]at this
def ev{w:aw}{g:Nat}{r:M.Rd}(h:iG w g r)(s:Nat)(b:s<=4):0<=(r.num s).1/\(r.num s).1<=256 ^ s-1:=by
 have:=tV (r.take s).1 (λx a=>h.wA x (Dn r s x a));refine⟨this.1,?_⟩;have h2:(256:Int) ^ (r.take s).1.length<=256 ^ s:=Lq (qP r s);have h3:M.bO (r.take s).1<256 ^ s:=nI this.2 h2;show M.bO (r.take s).1<=256 ^ s-1;omega
def lW(g:Nat)(r:M.Rd)(w:aw)(h:iG w g r):aF af 48 #[aq (Z ⟨g,0,I⟩)] w λe w'=>e=av (J bI (r.num 1).1)/\iG w' g (r.num 1).2/\cS (One g) w w':=by
 have k:=au h;clear h;go_enter func48,ntmps48;go_wp2_with (first|(go_at_call 97;go_in));refine(qQ g r 1 w k.O z).mono ?_;rintro e w1 ⟨⟨A,m,c,rfl,d,o,p,t⟩,l,u1⟩;have f:0<=(r.num 1).1/\(r.num 1).1<=255:=ev k.O 1 z;have i:m<=4:=by have:(r.take 1).1.length<=1:=qP r 1;have:=d.len;omega
 have a:(r.num 1).1=M.bO (r.take 1).1:=rfl;have b:(r.num 1).2=(r.take 1).2:=rfl;rw[a]at f;obtain⟨q,j,n,s⟩:=cA d l a b;clear d l a b;go_wp2_with fail;refine(tW A m c _ w1 q.O i o p).mono ?_;generalize M.bO (r.take 1).1=u at f n ⊢;obtain⟨b1,b2⟩:=f;rintro e w2 ⟨rfl,rfl⟩;go_wp2_with fail;go_ret;exact⟨by rw[n.O];rfl,by rw[s.O];exact j.O,u1⟩
def qH(g:Nat)(r:M.Rd)(w:aw)(h:iG w g r):aF af 49 #[aq (Z ⟨g,0,I⟩)] w λe w'=>e=av (J aN (r.num 2).1)/\iG w' g (r.num 2).2/\cS (One g) w w':=by
 have k:=au h;clear h;go_enter func49,ntmps49;go_wp2_with (first|(go_at_call 99;go_in));refine(qQ g r 2 w k.O z).mono ?_;rintro e w1 ⟨⟨A,m,c,rfl,d,o,p,t⟩,l,u1⟩;have f:0<=(r.num 2).1/\(r.num 2).1<=65535:=ev k.O 2 z;have i:m<=4:=by have:(r.take 2).1.length<=2:=qP r 2;have:=d.len;omega
 have a:(r.num 2).1=M.bO (r.take 2).1:=rfl;have b:(r.num 2).2=(r.take 2).2:=rfl;rw[a]at f;obtain⟨q,j,n,s⟩:=cA d l a b;clear d l a b;go_wp2_with fail;refine(tW A m c _ w1 q.O i o p).mono ?_;generalize M.bO (r.take 2).1=u at f n ⊢;obtain⟨b1,b2⟩:=f;rintro e w2 ⟨rfl,rfl⟩;go_wp2_with fail;go_ret;exact⟨by rw[n.O];rfl,by rw[s.O];exact j.O,u1⟩
def kK(g:Nat)(r:M.Rd)(w:aw)(h:iG w g r):aF af 50 #[aq (Z ⟨g,0,I⟩)] w λe w'=>e=av (J ar (r.num 4).1)/\iG w' g (r.num 4).2/\cS (One g) w w':=by
 have k:=au h;clear h;go_enter func50,ntmps50;go_wp2_with (first|(go_at_call 100;go_in));refine(qQ g r 4 w k.O z).mono ?_;rintro e w1 ⟨⟨A,m,c,rfl,d,o,p,t⟩,l,u1⟩;have f:0<=(r.num 4).1/\(r.num 4).1<=4294967295:=ev k.O 4 z;have i:m<=4:=by have:(r.take 4).1.length<=4:=qP r 4;have:=d.len;omega
 have a:(r.num 4).1=M.bO (r.take 4).1:=rfl;have b:(r.num 4).2=(r.take 4).2:=rfl;rw[a]at f;obtain⟨q,j,n,s⟩:=cA d l a b;clear d l a b;go_wp2_with fail;refine(tW A m c _ w1 q.O i o p).mono ?_;generalize M.bO (r.take 4).1=u at f n ⊢;obtain⟨b1,b2⟩:=f;rintro e w2 ⟨rfl,rfl⟩;go_wp2_with fail;go_ret;exact⟨by rw[n.O];rfl,by rw[s.O];exact j.O,u1⟩
def Cu(g:Nat)(r:M.Rd)(x:Int)(w:aw)(h:iG w g r)(p:-1000000000<=x/\x<=1000000000)(hr:r.left.length<=100000):aF af 52 #[aq (Z ⟨g,0,I⟩),J V x] w λe w'=>(∃A m c,e=av (ae A m c)/\TB w' A m (r.take x).1/\m<=c/\c<=maxLen/\(A=I->c=0))/\iG w' g (r.take x).2/\cS (One g) w w':=by
 have s:=au h;clear h;go_enter func52,ntmps52;go_wp2_with fail;refine(qQ g r x w s.O p).mono ?_;rintro e w1 ⟨⟨A,m,c,rfl,i,t,C,D⟩,j,u1⟩;obtain⟨k,a⟩:=bu i j;clear i j;go_wp2_with fail;refine(mC A m c _ w1 k.O z (λe=>?_)).mono ?_
 ·rcases iV m with q|q
  ·exact(t q).2
  ·obtain⟨b,off,l,_⟩:=k.O.cell q;rw[e]at l;cases l
 rintro e w2 ⟨⟨u,c2,rfl,n,v,y,B⟩,b2⟩;have o:=iG.below a.O b2;obtain⟨d,f⟩:=bu n o;clear n o;go_wp2_with fail;go_ret;exact⟨⟨u,m,c2,rfl,d.O,v,y,B⟩,f.O,u1.then b2⟩
def wz(A:Option Addr)(n c:Nat)(xs:List Int)(w:aw)(h:TB w A n xs)(hm:n<=100000)(o:A=I->c=0) :
  aF af 47 #[ae A n c] w λe w'=>(∃g,e=av (aq (Z ⟨g,0,I⟩))/\w.heap.size<=g/\iG w' g ⟨xs,0⟩)/\aC w w':=by
 have p:=au h;clear h;go_enter func47,ntmps47;go_wp2_with fail;refine(mC A n c xs w p.O hm o).mono ?_;rintro e w1 ⟨⟨a,c1,rfl,d,r,s,x⟩,b1⟩;have h3:0<n->∀b off,a=Z ⟨b,off,I⟩->b<w1.heap.size:=λq b off e=>by
  obtain⟨y,j,cs,k,f,_⟩:=d.2.2 q;rw[e]at k;cases k;exact f.lt
 have t:=au h3;clear h3;have l:=d.below ((ao w1.heap.size w1).alloc (aj _) (.cells #[ae a n c1,J V 0] 231));have m:=aK.new w1 231 #[ae a n c1,J V 0];have u:=b1.size;obtain⟨i,v⟩:=bu l m;clear d l m;go_wp2_with fail;go_ret;exact⟨⟨w1.heap.size,rfl,u,a,n,c1,v.O,i.O,r,s,t.O⟩,b1.alloc b1.size _⟩
def wI{l:List Int}(h:0<l.length):l.getLast? = Z (l.getD (l.length-1) 0):=by
 rw[List.getLast?_eq_getElem?,bE,ay z];rfl
def pT(A:Option Addr)(c:Nat)(xs:List Int):Value:=match M.sS xs with
 |some k=>aB #[ae A k.length c,ai true]
 |none=>aB #[ae I 0 0,ai false]
def IV(A:Option Addr)(n c:Nat)(xs:List Int)(w:aw)(h:TB w A n xs)(hm:n<=100000)(q:n<=c) :
  aF af 54 #[ae A n c] w λe w'=>e=av (pT A c xs)/\w'=w:=by
 have f:=h.len;by_cases r:n=0
 ·have p:xs=[]:=cU.1 z;have he:pT A c xs=aB #[ae I 0 0,ai false]:=by rw[p];rfl
  have g:=au he;subst r;clear he f h p;go_enter func54,ntmps54;go_wp2_with fail;refine ax (v:=aB #[ae I 0 0,ai false]) (by simp[aV,results54,go_sem]) rfl ⟨by rw[g.O],rfl⟩
 ·have s:((n:Int)==0)=false:=dZ;obtain⟨b,off,rfl,C,j⟩:=h.cell z;have t:=j (n-1) z;have hy:=h.wA _ (nQ (l:=xs) (k:=n-1) z);have a:=wI (l:=xs) z;rw[f]at a;generalize xs.getD (n-1) 0=y at t hy a;have d:M.sS xs=if y=0\/(xs.length:Int)<y then I else Z (xs.take (xs.length-y.toNat)):=by unfold M.sS;rw[a]
  rw[f]at d;have u:((n:Int)-1).toNat=n-1:=z;by_cases m:y=0
  ·have he:pT (Z ⟨b,off,I⟩) c xs=aB #[ae I 0 0,ai false]:=by unfold pT;rw[d,if_pos (aJ m)]
   have g:=au he;subst m;clear he d a f j h;go_enter func54,ntmps54;go_wp2_with fail;refine ax (v:=aB #[ae I 0 0,ai false]) (by simp[aV,results54,go_sem]) rfl ⟨by rw[g.O],rfl⟩
  ·have x:(y==0)=false:=by simpa using m
   by_cases B:(n:Int)<y
   ·have he:pT (Z ⟨b,off,I⟩) c xs=aB #[ae I 0 0,ai false]:=by unfold pT;rw[d,if_pos (aZ B)]
    have g:=au he;clear he d a f j h;go_enter func54,ntmps54;go_wp2_with fail;refine ax (v:=aB #[ae I 0 0,ai false]) (by simp[aV,results54,go_sem]) rfl ⟨by rw[g.O],rfl⟩
   ·obtain⟨i,rfl⟩:∃i:Nat,y=i:=⟨y.toNat,z⟩;have he:pT (Z ⟨b,off,I⟩) c xs=aB #[ae (Z ⟨b,off,I⟩) (n-i) c,ai true]:=by
     unfold pT;rw[d,if_neg z];simp only[Int.toNat_natCast,List.length_take,f];rw[Nat.min_eq_left z]
    have g:=au he;have o:(n:Int)-(i:Int)=((n-i:Nat):Int):=z;clear he d a f j h;go_enter func54,ntmps54;go_wp2_with fail;refine ax (v:=aB #[ae (Z ⟨b,off,I⟩) (n-i) c,ai true]) (by simp[aV,results54,go_sem]) rfl ⟨by rw[g.O],rfl⟩
def ED(xs:List Int)(h:2<=xs.length):M.control xs=(decide (192<=xs.getD 1 0)&&decide (xs.getD 1 0<=223)):=by simp[M.control,h]
def EE(A:Option Addr)(n c:Nat)(xs:List Int)(w:aw)(h:TB w A n xs) :
  aF af 121 #[ae A n c] w λe w'=>e=av (ai (M.control xs))/\∃j,w'=w.drewN j:=by
 have d:=h.len;by_cases i:2<=n
 ·obtain⟨b,off,rfl,m,f⟩:=h.cell z;have g:=f 1 z;have hu:=ED xs z;have hy:=h.wA _ (nQ (l:=xs) (k:=1) z);generalize xs.getD 1 0=y at g hu hy;by_cases h1:192<=y
  ·by_cases h2:y<=223
   ·have hr:M.control xs=true:=by rw[hu];simp[h1,h2]
    have a:=au hr;clear hr hu d f h;go_enter func121,ntmps121;go_wp2_with fail;go_ret;exact⟨by rw[a.O];rfl,0,rfl⟩
   ·have hr:M.control xs=false:=by rw[hu];simp;omega
    have a:=au hr;clear hr hu d f h;go_enter func121,ntmps121;go_wp2_with fail;go_ret;exact⟨by rw[a.O];rfl,0,rfl⟩
  ·have hr:M.control xs=false:=by rw[hu];simp;omega
   have a:=au hr;clear hr hu d f h;go_enter func121,ntmps121;go_wp2_with fail;go_ret;exact⟨by rw[a.O];rfl,0,rfl⟩
 ·have hr:M.control xs=false:=by simp[M.control];omega
  have a:=au hr;clear hr d h;go_enter func121,ntmps121;go_wp2_with fail;go_ret;exact⟨by rw[a.O];rfl,0,rfl⟩
structure Sl where
 a:Option Addr
 n:Nat
 c:Nat
def Sl.nil:Sl:=⟨I,0,0⟩
structure Sl.At(t:TypeId)(k:jC)(w:aw)(s:Sl)(xs:List Int):Prop where
 tl:TL t k w s.a s.n xs
 le:s.n<=s.c
 max:s.c<=maxLen
 zero:s.a=I->s.c=0
abbrev Sl.B:=Sl.At 5 bI
abbrev Sl.U:=Sl.At 41 ar
def Sl.At.map{t:TypeId}{k:jC}{w w':aw}{s:Sl}{xs:List Int}(h:s.At t k w xs)(f:TL t k w s.a s.n xs->TL t k w' s.a s.n xs):s.At t k w' xs:=⟨f h.tl,h.le,h.max,h.zero⟩
def Sl.vG{t:TypeId}{k:jC}{w:aw}:Sl.nil.At t k w []:=⟨TL.empty,aj _,by simp[Sl.nil],λ_=>rfl⟩
def Sl.At.below{t:TypeId}{k:jC}{w w':aw}{s:Sl}{xs:List Int}(h:s.At t k w xs)(b:aC w w'):s.At t k w' xs:=h.map λq=>q.below b
def Sl.At.typed{t:TypeId}{k:jC}{w w':aw}{s:Sl}{xs:List Int}{F:Nat->Prop}{ts:List TypeId}(h:s.At t k w xs)(u:cS F w w')(T:Typed w F ts)(ht:t∉ts):s.At t k w' xs:=h.map λq=>q.typed u T ht
abbrev uA(p:M.cR)(s e y:Sl):Array Value:=#[ai p.dR,J bI p.type,J aN p.dQ,J ar p.aU,J ar p.bJ,ae s.a s.n s.c,ai p.has,J aN p.bV,ae e.a e.n e.c,ae y.a y.n y.c]
abbrev Pq(p:M.cR)(s e y:Sl):Value:=cg (uA p s e y)
structure iT(w:aw)(p:M.cR)(s e y:Sl):Prop where
 s:s.U w p.aQ
 e:e.B w p.fp
 y:y.B w p.cF
 type:0<=p.type/\p.type<=255
 dQ:0<=p.dQ/\p.dQ<=65535
 aU:0<=p.aU/\p.aU<=4294967295
 bJ:0<=p.bJ/\p.bJ<=4294967295
 bV:0<=p.bV/\p.bV<=65535
 small:p.aQ.length<=400/\p.fp.length<=400/\p.cF.length<=400
def iT.map{w w':aw}{p:M.cR}{s e y:Sl}(h:iT w p s e y)(f:s.U w p.aQ->s.U w' p.aQ)(g:∀{x:Sl} {l:List Int},x.B w l->x.B w' l):iT w' p s e y:=
 ⟨f h.s,g h.e,g h.y,h.type,h.dQ,h.aU,h.bJ,h.bV,h.small⟩
def iT.below{w w':aw}{p:M.cR}{s e y:Sl}(h:iT w p s e y)(b:aC w w'):iT w' p s e y:=h.map (·.below b) (·.below b)
def iT.typed{w w':aw}{p:M.cR}{s e y:Sl}{F:Nat->Prop}{ts:List TypeId}(h:iT w p s e y)(u:cS F w w')(T:Typed w F ts)(h5:5∉ts)(a:41∉ts):iT w' p s e y:=h.map (·.typed u T a) (·.typed u T h5)
def vX(p:M.cR)(s e y:Sl)(w:aw)(h:iT w p s e y) :
  aF af 237 #[Pq p s e y] w λf w'=>f=av (J V p.size)/\w'=w.alloc (.cells (uA p s e y) 76):=by
 have l1:=h.s.tl.len;have l2:=h.e.tl.len;have l3:=h.y.tl.len;obtain⟨b,c,d⟩:=h.small;clear h;cases hh:p.has
 ·have a:(p.size:Int)=12+4*(s.n:Int)+(y.n:Int):=by unfold M.cR.size;rw[hh];simp only[Bool.false_eq_true,if_false];omega
  have HS:=au a;have g:=hh;have b1:(s.n:Int)<=400:=z;have b3:(y.n:Int)<=400:=z;clear a l1 l2 l3 b c d;go_enter func237,ntmps237;go_wp2_with fail;go_ret;exact⟨by rw[HS.O];rfl,by simp[hh]⟩
 ·have a:(p.size:Int)=12+4*(s.n:Int)+(y.n:Int)+(4+(e.n:Int)):=by unfold M.cR.size;rw[hh];simp only[if_true];omega
  have HS:=au a;have b1:(s.n:Int)<=400:=z;have b2:(e.n:Int)<=400:=z;have b3:(y.n:Int)<=400:=z;clear a l1 l2 l3 b c d;go_enter func237,ntmps237;go_wp2_with fail;go_ret;exact⟨by rw[HS.O];rfl,by simp[hh]⟩
def xj(p:M.cR)(s e y:Sl)(w:aw)(h:iT w p s e y) :
  aF af 186 #[Pq p s e y] w λd w'=>d=av (ai p.right)/\aC w w':=by
 have l1:=h.s.tl.len;have l2:=h.e.tl.len;have l3:=h.y.tl.len;obtain⟨dR,type,dQ,aU,bJ,aQ,has,bV,fp,cF⟩:=p;simp only at l1 l2 l3;by_cases h1:127<type
 ·have m1:127<type:=h1;have hr:M.cR.right ⟨dR,type,dQ,aU,bJ,aQ,has,bV,fp,cF⟩=false:=by simp[M.cR.right,m1]
  have a:=au hr;clear hr l1 l2 l3;go_enter func186,ntmps186;go_wp2_with fail;go_ret;exact⟨by rw[a.O];rfl,(ao _ _).alloc (aj _) _⟩
 have m1:¬127<type:=h1;by_cases h2:15<s.n
 ·have m2:15<aQ.length:=z;have hr:M.cR.right ⟨dR,type,dQ,aU,bJ,aQ,has,bV,fp,cF⟩=false:=by simp[M.cR.right,m1,m2]
  have a:=au hr;clear hr l1 l2 l3;go_enter func186,ntmps186;go_wp2_with fail;go_ret;exact⟨by rw[a.O];rfl,(ao _ _).alloc (aj _) _⟩
 have m2:¬15<aQ.length:=z;cases has
 ·by_cases h3:bV=0
  ·subst h3;by_cases i:0<e.n
   ·have m3:0<fp.length:=z;have hr:M.cR.right ⟨dR,type,dQ,aU,bJ,aQ,false,0,fp,cF⟩=false:=by simp[M.cR.right,m1,m2,m3]
    have a:=au hr;clear hr l1 l2 l3;go_enter func186,ntmps186;go_wp2_with fail;go_ret;exact⟨by rw[a.O];rfl,(ao _ _).alloc (aj _) _⟩
   ·have g:fp=[]:=cU.1 z;subst g;have h4:e.n % 4=0:=by simp at l2;omega
    have f:(e.n:Int) % 4=0:=z;by_cases h5:(M.cR.size ⟨dR,type,dQ,aU,bJ,aQ,false,0,[],cF⟩)<=200
    ·have b:((M.cR.size ⟨dR,type,dQ,aU,bJ,aQ,false,0,[],cF⟩):Int)<=200:=z;have hr:M.cR.right ⟨dR,type,dQ,aU,bJ,aQ,false,0,[],cF⟩=true:=by simp[M.cR.right,m1,m2,h5]
     have a:=au hr;clear hr l1 l2 l3;have c:=au h;clear h;go_enter func186,ntmps186;go_wp2_with fail;refine(vX ⟨dR,type,dQ,aU,bJ,aQ,false,0,[],cF⟩ s e y _ (c.O.below ((ao w.heap.size w).alloc (aj _) _))).mono ?_;rintro d w1 ⟨rfl,rfl⟩;go_wp2_with fail;go_ret;exact⟨by rw[a.O];first|rfl|(simp;omega),((ao _ _).alloc (aj _) _).alloc dt _⟩
    ·have b:¬((M.cR.size ⟨dR,type,dQ,aU,bJ,aQ,false,0,[],cF⟩):Int)<=200:=z;have hr:M.cR.right ⟨dR,type,dQ,aU,bJ,aQ,false,0,[],cF⟩=false:=by simp[M.cR.right,m1,m2,h5]
     have a:=au hr;clear hr l1 l2 l3;have c:=au h;clear h;go_enter func186,ntmps186;go_wp2_with fail;refine(vX ⟨dR,type,dQ,aU,bJ,aQ,false,0,[],cF⟩ s e y _ (c.O.below ((ao w.heap.size w).alloc (aj _) _))).mono ?_;rintro d w1 ⟨rfl,rfl⟩;go_wp2_with fail;go_ret;exact⟨by rw[a.O];first|rfl|(simp;omega),((ao _ _).alloc (aj _) _).alloc dt _⟩
  ·have j:(bV !=0)=true:=by simpa using h3
   have hr:M.cR.right ⟨dR,type,dQ,aU,bJ,aQ,false,bV,fp,cF⟩=false:=by simp[M.cR.right,m1,m2,h3]
   have a:=au hr;clear hr l1 l2 l3;go_enter func186,ntmps186;go_wp2_with fail;go_ret;exact⟨by rw[a.O];rfl,(ao _ _).alloc (aj _) _⟩
 ·by_cases h4:e.n % 4=0
  ·have f:(e.n:Int) % 4=0:=z;have m4:fp.length % 4=0:=z;by_cases h5:(M.cR.size ⟨dR,type,dQ,aU,bJ,aQ,true,bV,fp,cF⟩)<=200
   ·have b:((M.cR.size ⟨dR,type,dQ,aU,bJ,aQ,true,bV,fp,cF⟩):Int)<=200:=z;have hr:M.cR.right ⟨dR,type,dQ,aU,bJ,aQ,true,bV,fp,cF⟩=true:=by simp[M.cR.right,m1,m1,m2,m4,h5]
    have a:=au hr;clear hr l1 l2 l3;have c:=au h;clear h;go_enter func186,ntmps186;go_wp2_with fail;refine(vX ⟨dR,type,dQ,aU,bJ,aQ,true,bV,fp,cF⟩ s e y _ (c.O.below ((ao w.heap.size w).alloc (aj _) _))).mono ?_;rintro d w1 ⟨rfl,rfl⟩;go_wp2_with fail;go_ret;exact⟨by rw[a.O];first|rfl|(simp;omega),((ao _ _).alloc (aj _) _).alloc dt _⟩
   ·have b:¬((M.cR.size ⟨dR,type,dQ,aU,bJ,aQ,true,bV,fp,cF⟩):Int)<=200:=z;have hr:M.cR.right ⟨dR,type,dQ,aU,bJ,aQ,true,bV,fp,cF⟩=false:=by simp[M.cR.right,m1,m1,m2,m4,h5]
    have a:=au hr;clear hr l1 l2 l3;have c:=au h;clear h;go_enter func186,ntmps186;go_wp2_with fail;refine(vX ⟨dR,type,dQ,aU,bJ,aQ,true,bV,fp,cF⟩ s e y _ (c.O.below ((ao w.heap.size w).alloc (aj _) _))).mono ?_;rintro d w1 ⟨rfl,rfl⟩;go_wp2_with fail;go_ret;exact⟨by rw[a.O];first|rfl|(simp;omega),((ao _ _).alloc (aj _) _).alloc dt _⟩
  ·have f:((e.n:Int) % 4==0)=false:=dZ;have m4:¬fp.length % 4=0:=z;have hr:M.cR.right ⟨dR,type,dQ,aU,bJ,aQ,true,bV,fp,cF⟩=false:=by simp[M.cR.right,m1,m1,m2,m4]
   have a:=au hr;clear hr l1 l2 l3;go_enter func186,ntmps186;go_wp2_with fail;go_ret;exact⟨by rw[a.O];rfl,(ao _ _).alloc (aj _) _⟩
def cV:∀(k:Nat) (n:Int),(M.bK k n).length=k
 |0,_=>rfl
 |k+1,n=>by simp[M.bK,cV k]
def vL:∀(s:Nat) (n:Int) (j:Nat),j<s->(M.bK s n)[s-1-j]? = Z (n / 256 ^ j % 256)
 |0,_,_,h=>absurd h z
 |s+1,n,0,_=>by
  rw[M.bK,List.getElem?_append_right (by rw[cV];omega),cV];simp
 |s+1,n,j+1,h=>by
  rw[M.bK,List.getElem?_append_left (by rw[cV];omega),show s+1-1-(j+1)=s-1-j from z,vL s (n / 256) j z,Int.pow_succ,Int.mul_comm,Int.ediv_ediv_of_nonneg z]
def Kj(s:Nat)(n:Int):∀x∈M.bK s n,(Lit.int bI x).wf=true:=by
 intro x a;obtain⟨i,b,rfl⟩:=List.getElem_of_mem a;rw[cV]at b;have:=vL s n (s-1-i) z;rw[show s-1-(s-1-i)=i from z,ay (by rw[cV];omega)]at this;injection this with e
 rw[e];exact WalkArith.wf_u8 z
def BJ(n:Int)(s:Nat)(w:aw)(h0:0<=n)(h1:n<=4294967295)(L:1<=s/\s<=4) :
  aF af 306 #[J .u64 n,J V s] w λe w'=>(∃g,e=av (ae (Z ⟨g,0,I⟩) s s)/\TB w' (Z ⟨g,0,I⟩) s (M.bK s n)/\w.heap.size<=g)/\aC w w':=by
 obtain⟨i0,y,h,l,m⟩:=cY Tryz.zL;obtain⟨N,A,B,C⟩:=cA y h l m;clear y h l m;obtain⟨s1,s4⟩:=L;go_enter func306,ntmps306;go_wp2_with (at_make;go_loud (refine wpList_make_full _ rfl _ _ 38 rfl w.heap.size 5 i0 (J bI 0) 1 underlying38 N.O A.O B.O _ _ _ _ s rfl rfl rfl rfl ?b2 ?b3 ?b4 ?_));case b2=>rw[C.O];omega
 case b3=>unfold maxLen;omega
 case b4=>exact aj _
 intro w1 rO g1;have c:∃cs,aK w1 w.heap.size 5 cs/\cs.size=s:=by
  rcases rO.2 with⟨e,_⟩ | ⟨g,cap,dx,e,_,hh,_,_,P,_⟩
  ·cases e
  ·simp only[Value.slice.injEq,bf,Addr.mk.injEq]at e;obtain⟨⟨rfl,_⟩,_,rfl⟩:=e;exact⟨dx,hh,z⟩
 have d:aC w w1:=(ao _ w).grown g1 (aj _) (λj f=>by cases f);clear rO g1;obtain⟨D,o,p⟩:=c;go_wp2_with fail;go_loopw [16] (λi wr=>∃(k:Nat) (cs:Array Value),i=J V k/\k<=s/\aK wr w.heap.size 5 cs/\cs.size=s/\(∀j,j<k->cs[s-1-j]? = Z (J bI (n / 256 ^ j % 256)))/\aC w wr) (λi _=>s-(bS i).toNat);case atStart=>exact⟨0,D,rfl,z,o,p,λj f=>absurd f z,d⟩
 case round =>
  clear o p d;obtain⟨k,cs,rfl,T,c,q,r,d⟩:=hrel;by_cases Q:k<s
  ·have t:=au c;have u:∃v,aK wr w.heap.size 5 cs/\wr.cell? ⟨w.heap.size,s-1-k,I⟩=Z v:=⟨cs[s-1-k]'(z),c,by rw[c.cell,Array.getElem?_eq_getElem z]⟩;obtain⟨v0,_,u⟩:=u;have f0:=c.frozen (s-1-k);have R:((s:Int)-1-(k:Int)).toNat=s-1-k:=z;have F:0<=(s:Int)-1-(k:Int):=z;obtain⟨x,a⟩:=bu r q;clear r q c;have h4:k=0\/k=1\/k=2\/k=3:=z;rcases h4 with rfl|rfl|rfl|rfl
   ·simp only[Nat.sub_zero]at u f0;go_wp2_with fail;go_roundw;case rel =>
     refine⟨1,_,by go_num,z,t.O.bC (s-1-0) _,by rw[dh];exact a.O,λj f=>?_,d.setCell (aj _) _⟩;by_cases b:j=0
     ·subst b;rw[fV (lE a.O)];all_goals (first|rfl|(simp;done)|go_num)
     ·rw[gi z];exact x.O j z
    case measure=>simp[bS];omega
   ·go_wp2_with fail;go_roundw;case rel =>
     refine⟨2,_,by go_num,z,t.O.bC (s-1-1) _,by rw[dh];exact a.O,λj f=>?_,d.setCell (aj _) _⟩;by_cases b:j=1
     ·subst b;rw[fV (lE a.O)];all_goals (first|rfl|(simp;done)|go_num)
     ·rw[gi z];exact x.O j z
    case measure=>simp[bS];omega
   ·go_wp2_with fail;go_roundw;case rel =>
     refine⟨3,_,by go_num,z,t.O.bC (s-1-2) _,by rw[dh];exact a.O,λj f=>?_,d.setCell (aj _) _⟩;by_cases b:j=2
     ·subst b;rw[fV (lE a.O)];all_goals (first|rfl|(simp;done)|go_num)
     ·rw[gi z];exact x.O j z
    case measure=>simp[bS];omega
   ·obtain rfl:s=4:=z;simp at u f0;go_wp2_with fail;go_roundw;case rel =>
     refine⟨4,_,by go_num,z,t.O.bC (4-1-3) _,by rw[dh];exact a.O,λj f=>?_,d.setCell (aj _) _⟩;by_cases b:j=3
     ·subst b;rw[fV (lE a.O)];all_goals (first|rfl|(simp;done)|go_num)
     ·rw[gi z];exact x.O j z
    case measure=>simp[bS]
  ·have E:k=s:=z;subst E;have G:TB wr (Z ⟨w.heap.size,0,I⟩) k (M.bK k n):=by
    refine⟨cV k n,Kj k n,λ_=>⟨w.heap.size,0,cs,rfl,c,λi y=>?_⟩⟩;have H:=r (k-1-i) z;have K:=vL k n (k-1-i) z;rw[show k-1-(k-1-i)=i from by omega]at H K;rw[Nat.zero_add,H,bE,K];rfl
   have S:=au G;clear G r c;go_wp2_with fail;go_ret;exact⟨⟨_,rfl,S.O,aj _⟩,d⟩
def lM(w:aw)(B g:Nat)(xs:List Int):Prop:=B<=g/\∃v,aK w g 408 #[v]/\w.ownsRow B 5 1 v xs.length (xs.map (J bI))/\∀x∈xs,(Lit.int bI x).wf=true
def lM.lt{w:aw}{B g:Nat}{xs:List Int}(h:lM w B g xs):g<w.heap.size:=by obtain⟨_,v,a,_⟩:=h;exact a.lt
def kJ{w:aw}{base:Nat}{e:TypeId}{size n:Nat}{v:Value}{xs:List Value}(h:w.ownsRow base e size v n xs){g:Nat}(a:Z g≠v.ownBlock)(i:Nat)(u:Value):(w.setCell ⟨g,i,I⟩ u).ownsRow base e size v n xs:=
 h.kept (row:=Z g) ⟨rfl,rfl,rfl,dt,λk _ b=>Below.heap_setCell _ _ _ _ (λe=>b (congrArg Z e))⟩ (aZ (λq=>a q.symm))
def qN(g B:Nat)(xs o:List Int)(A:Option Addr)(n c:Nat)(w:aw)(h:lM w B g xs)(ht:TB w A n o)(E:A=I->c=0)(U:xs.length<=1000000)(hn:n<=1000000) :
  aF af 243 #[aq (Z ⟨g,0,I⟩),ae A n c] w λe w'=>e=av (aB #[])/\lM w' B g (xs++o)/\iQ B w w':=by
 obtain⟨i0,W,r,s,t⟩:=cY Tryz.zL;obtain⟨X,F,G,H⟩:=cA W r s t;clear W r s t;obtain⟨f,v,i,own,hw⟩:=h;have D:=ht.len;have Y:=i.cell 0;have f0:=i.frozen 0;simp at Y;have sz:B<=w.heap.size:=aP f (lN i.lt);have u:∀x∈xs++o,(Lit.int bI x).wf=true:=λx U=>by
  rcases bt.1 U with q|q
  ·exact hw x q
  ·exact ht.wf x q
 obtain⟨HW,HL⟩:=bu u D;clear u hw;cases A with
 |none =>
  have K:n=0:=by
   rcases iV n with q|q
   ·exact q
   ·obtain⟨b,off,e,_⟩:=ht.cell q;cases e
  have L:=E rfl;subst K;subst L;have hy:o=[]:=cU.1 D;subst hy;obtain⟨p,c1,rfl⟩:=bA own;have m:Z g≠(ae p xs.length c1).ownBlock:=ej own i aR;have ky:=kJ own m 0 (ae p xs.length c1);have B2:=i.bC 0 (ae p xs.length c1);obtain⟨M,HO,N⟩:=bU B2 ky own;clear i B2 ky own ht E D;go_enter func243,ntmps243;go_wp2_with (at_builtin;go_loud (refine wpList_append_own_none rfl _ _ 38 rfl B 5 i0 1 underlying38 X.O _ _ _ rfl N.O rfl ?_));first|refine dq (bT results243 _ _ _) rfl ?_|refine ax (bT results243 _ _ _) rfl ?_
  refine⟨rfl,⟨f,ae p xs.length c1,?_,?_,HW.O⟩,(ao _ _).setCell f _⟩
  ·simpa using M.O
  ·simpa using HO.O
 |some a =>
  have NW:=au ht.iX;obtain⟨p,c1,rfl⟩:=bA own;have m:Z g≠(ae p xs.length c1).ownBlock:=ej own i aR;clear ht E D;have M:=au i;clear i;go_enter func243,ntmps243;go_wp2_with (at_builtin;go_loud (refine dM _ rfl _ _ 38 rfl B 5 i0 (J bI 0) 1 1 underlying38 X.O F.O G.O H.O rfl aR _ _ _ rfl own a n c (o.map (J bI)) rfl (by simp[HL.O]) NW.O uQ ?c3 ?c4 ?c5 ?_));case c3=>unfold maxLen;omega
  case c4=>omega
  case c5=>omega
  intro v5 w5 k g5 _;have y:=M.O.grown g5 m;have P:iQ B w w5:=(ao _ _).grown g5 sz (λj hj=>(own.lt j hj).1);have d:w5.ownsRow B 5 1 v5 (xs.length+n) ((xs++o).map (J bI)):=by
   rw[List.map_append];exact k
  have c5:=y.cell 0;have f5:=y.frozen 0;simp at c5;obtain⟨Q,R,rfl⟩:=bA d;have C:=ej d y aR;have B6:=y.bC 0 (ae Q (xs.length+n) R);have l:=kJ d C 0 (ae Q (xs.length+n) R);obtain⟨S,T⟩:=bu B6 l;clear own k g5 y B6 Y f0 d l C;go_wp2_with fail;first|refine dq (bT results243 _ _ _) rfl ?_|refine ax (bT results243 _ _ _) rfl ?_
  exact⟨rfl,⟨f,ae Q (xs.length+n) R,by simpa using S.O,by rw[cG,HL.O];exact T.O,HW.O⟩,P.setCell f _⟩
def lM.below{w w':aw}{B g:Nat}{xs:List Int}(h:lM w B g xs)(b:aC w w'):lM w' B g xs:=by
 obtain⟨h1,v,a,own,hw⟩:=h;exact⟨h1,v,a.kept b,own.kept (row:=I) ⟨b.os,b.tape,b.output,b.size,λi c _=>b.block i c⟩ (Classical.em _),hw⟩
def uk(g B:Nat)(xs:List Int)(n:Int)(s:Nat)(w:aw)(h:lM w B g xs)(m:xs.length<=900000)(h0:0<=n)(h1:n<=4294967295)(i:1<=s/\s<=4) :
  aF af 278 #[aq (Z ⟨g,0,I⟩),J ar n,J V s] w λe w'=>e=av (aB #[])/\lM w' B g (xs++M.bK s n)/\iQ B w w':=by
 have c:=au h;have j:B<=w.heap.size:=aP h.1 (lN h.lt);clear h;go_enter func278,ntmps278;go_wp2_with fail;refine(BJ n s w h0 h1 i).mono ?_;rintro e w1 ⟨⟨g1,rfl,d,k⟩,b1⟩;obtain⟨a,l⟩:=bu (c.O.below b1) d;clear d c;go_wp2_with fail;refine(qN g B xs (M.bK s n) _ s s w1 a.O l.O (λe=>by cases e) z z).mono ?_;rintro e w2 ⟨rfl,f,b2⟩;have b:=au f;clear f;go_wp2_with fail;first|refine dq (bT results278 _ _ _) rfl ?_|refine ax (bT results278 _ _ _) rfl ?_
 exact⟨rfl,b.O,(b1.mono j).trans b2⟩
def nK(g B:Nat)(xs:List Int)(n:Int)(w:aw)(h:lM w B g xs)(c:xs.length<=900000)(h0:0<=n/\n<=255) :
  aF af 240 #[aq (Z ⟨g,0,I⟩),J bI n] w λe w'=>e=av (aB #[])/\lM w' B g (xs++M.bK 1 n)/\iQ B w w':=by
 have d:=au h;clear h;obtain⟨h0,h1⟩:=h0;go_enter func240,ntmps240;go_wp2_with fail;refine(uk g B xs n 1 w d.O c h0 z z).mono ?_;rintro e w1 ⟨rfl,b,b1⟩;have a:=au b;clear b;go_wp2_with fail;first|refine dq (bT results240 _ _ _) rfl ?_|refine ax (bT results240 _ _ _) rfl ?_
 exact⟨rfl,a.O,b1⟩
def mw(g B:Nat)(xs:List Int)(n:Int)(w:aw)(h:lM w B g xs)(c:xs.length<=900000)(h0:0<=n/\n<=65535) :
  aF af 241 #[aq (Z ⟨g,0,I⟩),J aN n] w λe w'=>e=av (aB #[])/\lM w' B g (xs++M.bK 2 n)/\iQ B w w':=by
 have d:=au h;clear h;obtain⟨h0,h1⟩:=h0;go_enter func241,ntmps241;go_wp2_with fail;refine(uk g B xs n 2 w d.O c h0 z z).mono ?_;rintro e w1 ⟨rfl,b,b1⟩;have a:=au b;clear b;go_wp2_with fail;first|refine dq (bT results241 _ _ _) rfl ?_|refine ax (bT results241 _ _ _) rfl ?_
 exact⟨rfl,a.O,b1⟩
def kH(g B:Nat)(xs:List Int)(n:Int)(w:aw)(h:lM w B g xs)(c:xs.length<=900000)(h0:0<=n/\n<=4294967295) :
  aF af 242 #[aq (Z ⟨g,0,I⟩),J ar n] w λe w'=>e=av (aB #[])/\lM w' B g (xs++M.bK 4 n)/\iQ B w w':=by
 have d:=au h;clear h;obtain⟨h0,h1⟩:=h0;go_enter func242,ntmps242;go_wp2_with fail;refine(uk g B xs n 4 w d.O c h0 z z).mono ?_;rintro e w1 ⟨rfl,b,b1⟩;have a:=au b;clear b;go_wp2_with fail;first|refine dq (bT results242 _ _ _) rfl ?_|refine ax (bT results242 _ _ _) rfl ?_
 exact⟨rfl,a.O,b1⟩
def oX(g B:Nat)(xs:List Int)(w:aw)(h:lM w B g xs)(j:xs.length<=100000) :
  aF af 244 #[aq (Z ⟨g,0,I⟩)] w λe w'=>(∃A c,e=av (ae A xs.length c)/\TB w' A xs.length xs/\xs.length<=c/\c<=maxLen/\(A=I->c=0))/\aC w w':=by
 obtain⟨k,v,b,own,hw⟩:=h;obtain⟨l,c1,rfl⟩:=bA own;have m:=b.cell 0;simp at m;have n:=wo own;obtain⟨s,c2,d,t,u,f⟩:=TL.own own hw;simp only[Value.slice.injEq]at d;obtain⟨rfl,_,rfl⟩:=d;have o:=au f;clear own f hw b;go_enter func244,ntmps244;go_wp2_with fail;refine(mC l xs.length c1 xs w o.O j n).mono ?_;rintro e w1 ⟨⟨p,q,rfl,i,r1,r2,r⟩,b1⟩;have a:=au i;clear i;go_wp2_with fail;go_ret;exact⟨⟨p,q,rfl,a.O,r1,r2,r⟩,b1⟩
def DD{p:M.cR}(h:p.right=true):p.type<=127/\p.aQ.length<=15/\(p.has=false->p.bV=0/\p.fp=[])/\p.fp.length % 4=0/\p.size<=200:=by
 simp only[M.cR.right,cM,oP,mM,decide_eq_false_iff_not,decide_eq_true_eq,beq_iff_eq,oV,Bool.not_eq_false',bne_eq_false_iff_eq]at h;obtain⟨⟨⟨h1,h2⟩,h3⟩,h4,h5⟩:=h;refine⟨z,z,λhh=>?_,h4,h5⟩;rcases h3 with h3|h3
 ·rw[hh]at h3;cases h3
 ·exact⟨h3.1,cU.1 z⟩
def wQ{B:Nat}{a w:aw}(h:iQ B a w):iQ B a w.drew:=⟨h.os,h.tape,h.output,h.size,h.block⟩
def wZ(w:aw):lM ((w.alloc (.cells #[ae I 0 0] 408)).drew) w.heap.size w.heap.size []:=
 ⟨aj _,ae I 0 0,(aK.new w 408 #[ae I 0 0]).drew,⟨rfl,aJ ⟨rfl,rfl⟩⟩,λx a=>absurd a dt⟩
def mR:∀l:List Int,(l.flatMap (M.bK 4)).length=l.length*4
 |[]=>rfl
 |x::r=>by simp[kO,cV,mR r];omega
def vw(p:M.cR)(s e y:Sl)(w:aw)(h:iT w p s e y) :
  aF af 193 #[Pq p s e y] w λf w'=>(∃sl:Sl,f=av (aB #[ae sl.a sl.n sl.c,J V (M.ic p).2])/\sl.B w' (M.ic p).1)/\aC w w':=by
 have hs:=h.s.tl.len;have he:=h.e.tl.len;have hy:=h.y.tl.len;obtain⟨dR,type,dQ,aU,bJ,aQ,has,bV,fp,cF⟩:=p;simp only at hs he hy;have HP:=au h;have SJ:aC w (w.alloc (.cells (uA ⟨dR,type,dQ,aU,bJ,aQ,has,bV,fp,cF⟩ s e y) 76)):=(ao _ w).alloc (aj _) _;have B1:=aK.new w 76 (uA ⟨dR,type,dQ,aU,bJ,aQ,has,bV,fp,cF⟩ s e y);have t1:=h.type;have t2:=h.dQ;have t3:=h.aU;have t4:=h.bJ;have t5:=h.bV;simp only at t1 t2 t3 t4 t5;obtain⟨SW,SX⟩:=t1;obtain⟨SQ,SU⟩:=t5;have k4:=h.small;obtain⟨_,SL,SM⟩:=k4;simp only at SL SM;rw[he]at SL;rw[hy]at SM;clear h;go_enter func193,ntmps193;go_wp2_with fail;refine(xj _ s e y _ (HP.O.below SJ)).mono ?_;rintro f w2 ⟨rfl,b2⟩;have F:=B1.kept b2;have mK:=sh SJ b2;have q:=au ((HP.O.below SJ).below b2);clear B1 SJ b2 HP;cases hr:M.cR.right ⟨dR,type,dQ,aU,bJ,aQ,has,bV,fp,cF⟩
 ·have hb:M.ic ⟨dR,type,dQ,aU,bJ,aQ,has,bV,fp,cF⟩=([],1):=by unfold M.ic;rw[hr];rfl
  have HB:=au hb;clear hb hr;go_wp2_with fail;refine ax (v:=aB #[ae I 0 0,J V 1]) (by simp[aV,results193,go_sem]) rfl ?_;rw[HB.O];exact⟨⟨Sl.nil,rfl,Sl.vG⟩,mK⟩
 ·obtain⟨r1,r2,r3,r4,r5⟩:=DD hr;simp only at r1 r2 r3 r4;have hb:M.ic ⟨dR,type,dQ,aU,bJ,aQ,has,bV,fp,cF⟩=(M.cR.bytes ⟨dR,type,dQ,aU,bJ,aQ,has,bV,fp,cF⟩,0):=by unfold M.ic;rw[hr];rfl
  obtain⟨HB,SY⟩:=bu hb r3;clear hb hr r3;have SV:s.n<=15:=z;have f0:=F.cell 0;have f1:=F.cell 1;have f2:=F.cell 2;have f3:=F.cell 3;have f4:=F.cell 4;have f5:=F.cell 5;have f6:=F.cell 6;have f7:=F.cell 7;have f8:=F.cell 8;have f9:=F.cell 9;simp at f0 f1 f2 f3 f4 f5 f6 f7 f8 f9;have SZ:V.wrap (128+(s.n:Int))=128+(s.n:Int):=by rw[IntKind.wrap_i64];omega
  have Ta:IntKind.u8.wrap (128+(s.n:Int))=128+(s.n:Int):=by rw[IntKind.wrap_u8];omega
  go_wp2_with fail;go_region;obtain⟨SK,HE,HY⟩:=bU q.O.s.tl q.O.e q.O.y;cases has<;>cases dR
  ·go_wp2_with fail;refine gu (λW=>aK W w.heap.size 76 (uA ⟨false,type,dQ,aU,bJ,aQ,false,bV,fp,cF⟩ s e y)/\lM W w2.heap.size w2.heap.size []/\aC w2 W) ⟨(F.alloc _).drew,wZ w2,wQ ((ao _ _).alloc (aj _) _)⟩ ?_;clear f0 f1 f2 f3 f4 f5 f6 f7 f8 f9;rintro W ⟨C,W0,d⟩;have hg:w.heap.size<w2.heap.size:=F.lt;have HQ:=au (q.O.below d);clear q F;have HW:=au W0;clear W0;refine(nK w2.heap.size w2.heap.size ([]) (128+(s.n:Int)) W HW.O dt z).mono ?_;rintro f v1 ⟨rfl,W1,b1⟩;have H1:=au W1;clear W1 HW;have D1:=b1;clear b1;go_wp2_with fail;refine(nK w2.heap.size w2.heap.size ([]++M.bK 1 (128+(s.n:Int))) type v1 H1.O (by simp[cV]) z).mono ?_;rintro f v2 ⟨rfl,W2,b2⟩;have H2:=au W2;clear W2 H1;have L:=D1.trans b2;clear b2 D1;have f2:=(C.below L hg).cell 2;simp at f2;go_wp2_with fail;refine(mw w2.heap.size w2.heap.size ([]++M.bK 1 (128+(s.n:Int))++M.bK 1 type) dQ v2 H2.O (by simp[cV]) t2).mono ?_;rintro f v3 ⟨rfl,W3,b3⟩;have H3:=au W3;clear W3 H2;have N:=L.trans b3;clear f2;clear b3 L;have f3:=(C.below N hg).cell 3;simp at f3;go_wp2_with fail;refine(kH w2.heap.size w2.heap.size ([]++M.bK 1 (128+(s.n:Int))++M.bK 1 type++M.bK 2 dQ) aU v3 H3.O (by simp[cV]) t3).mono ?_;rintro f v4 ⟨rfl,W4,b4⟩;have H4:=au W4;clear W4 H3;have P:=N.trans b4;clear f3;clear b4 N;have f4:=(C.below P hg).cell 4;simp at f4;go_wp2_with fail;refine(kH w2.heap.size w2.heap.size ([]++M.bK 1 (128+(s.n:Int))++M.bK 1 type++M.bK 2 dQ++M.bK 4 aU) bJ v4 H4.O (by simp[cV]) t4).mono ?_;rintro f v5 ⟨rfl,W5,b5⟩;have Q:=au W5;clear W5 H4;have R:=P.trans b5;clear f4;clear b5 P;have f5:=(C.below R hg).cell 5;simp at f5;go_wp2_with fail;generalize S:[]++M.bK 1 (128+(s.n:Int))++M.bK 1 type++M.bK 2 dQ++M.bK 4 aU++M.bK 4 bJ=G at Q;have r:G.length=12:=by rw[<-S];simp[cV]
   obtain⟨HL,t⟩:=bu S r;clear S r;go_loopw [48] (λi wr=>∃(k:Nat),i=J V k/\k<=s.n/\lM wr w2.heap.size w2.heap.size (G++(aQ.take k).flatMap (M.bK 4))/\iQ w2.heap.size W wr) (λi _=>s.n-(bS i).toNat);case atStart=>exact⟨0,rfl,z,by simpa using Q.O,R⟩
   case round =>
    clear Q R f5;obtain⟨k,rfl,hk,W6,m⟩:=hrel;have u:=au W6;clear W6;have H:TU _ s.a s.n aQ:=(SK.O.below (d.trans m));by_cases U:k<s.n
    ·obtain⟨b,off,X,SN,hc⟩:=H.cell z;have e1:=hc k U;have g:=qO (l:=aQ) (k:=k) z;have j:=H.wf _ (nQ (l:=aQ) (k:=k) z);generalize aQ.getD k 0=x at e1 g j;have hz:0<=x/\x<=4294967295:=by simp[Lit.wf,jI,jJ,fR,gM]at j;omega
     obtain⟨Y,HA,HZ⟩:=bU g X hz;clear g j hc H hz;rw[X];clear X;go_wp2_with fail;refine(kH w2.heap.size w2.heap.size _ x _ u.O (by have:=t.O;rw[cG,mR];simp;omega) HZ.O).mono ?_;rintro f v6 ⟨rfl,W7,b7⟩;have D7:=m.trans b7;have H7:=au W7;clear W7 b7;go_wp2_with fail;go_roundw;case rel=>exact⟨k+1,by go_num,z,by rw[Y.O,jR,<-dL];simpa using H7.O,D7⟩
     case measure=>simp[bS];omega
    ·have aI:k=s.n:=z;subst aI;rw[dC z]at u;have df:(G++aQ.flatMap (M.bK 4)).length<=80:=by rw[cG,mR,t.O];omega
     generalize D:G++aQ.flatMap (M.bK 4)=o at u df;have eI:=au D;clear D;have d6:=d.trans m;clear H;have f6:=(C.below m hg).cell 6;simp at f6;have f9:=(C.below m hg).cell 9;simp at f9;go_wp2_with fail;refine(qN w2.heap.size w2.heap.size (o) cF y.a y.n y.c _ u.O (HY.O.tl.below (d.trans m)) HY.O.zero z z).mono ?_;rintro f x1 ⟨rfl,X1,c1⟩;have E1:=m.trans c1;have K:=au X1;clear X1 c1 u;clear f9;go_wp2_with fail;refine(oX w2.heap.size w2.heap.size (o++cF) _ K.O (by simp[cV];omega)).mono ?_;rintro f x ⟨⟨A,c,rfl,T,q1,q2,q3⟩,bz⟩;have dz:aC w x:=mK.trans ((d.trans (E1.trans (bz.mono (by have:=E1.size;have:=d.size;omega)))).mono (lN hg));obtain⟨Y,SO,gX⟩:=bU T hy he;clear T hy he;go_wp2_with fail;refine ax (v:=aB #[ae A (o++cF).length c,J V 0]) (by simp[aV,results193,go_sem]) rfl ?_;rw[HB.O];have E:M.cR.bytes ⟨false,type,dQ,aU,bJ,aQ,false,bV,fp,cF⟩=o++cF:=by rw[<-eI.O,<-HL.O];simp[M.cR.bytes,dL,hs,gX.O]
     rw[E];exact⟨⟨⟨A,(o++cF).length,c⟩,rfl,⟨Y.O,q1,q2,q3⟩⟩,dz⟩
  ·go_wp2_with fail;refine gu (λW=>aK W w.heap.size 76 (uA ⟨true,type,dQ,aU,bJ,aQ,false,bV,fp,cF⟩ s e y)/\lM W w2.heap.size w2.heap.size []/\aC w2 W) ⟨(F.alloc _).drew,wZ w2,wQ ((ao _ _).alloc (aj _) _)⟩ ?_;clear f0 f1 f2 f3 f4 f5 f6 f7 f8 f9;rintro W ⟨C,W0,d⟩;have hg:w.heap.size<w2.heap.size:=F.lt;have HQ:=au (q.O.below d);clear q F;have HW:=au W0;clear W0;refine(nK w2.heap.size w2.heap.size ([]) (128+(s.n:Int)) W HW.O dt z).mono ?_;rintro f v1 ⟨rfl,W1,b1⟩;have H1:=au W1;clear W1 HW;have D1:=b1;clear b1;go_wp2_with fail;refine(nK w2.heap.size w2.heap.size ([]++M.bK 1 (128+(s.n:Int))) (type+128) v1 H1.O (by simp[cV]) z).mono ?_;rintro f v2 ⟨rfl,W2,b2⟩;have H2:=au W2;clear W2 H1;have L:=D1.trans b2;clear b2 D1;have f2:=(C.below L hg).cell 2;simp at f2;go_wp2_with fail;refine(mw w2.heap.size w2.heap.size ([]++M.bK 1 (128+(s.n:Int))++M.bK 1 (type+128)) dQ v2 H2.O (by simp[cV]) t2).mono ?_;rintro f v3 ⟨rfl,W3,b3⟩;have H3:=au W3;clear W3 H2;have N:=L.trans b3;clear f2;clear b3 L;have f3:=(C.below N hg).cell 3;simp at f3;go_wp2_with fail;refine(kH w2.heap.size w2.heap.size ([]++M.bK 1 (128+(s.n:Int))++M.bK 1 (type+128)++M.bK 2 dQ) aU v3 H3.O (by simp[cV]) t3).mono ?_;rintro f v4 ⟨rfl,W4,b4⟩;have H4:=au W4;clear W4 H3;have P:=N.trans b4;clear f3;clear b4 N;have f4:=(C.below P hg).cell 4;simp at f4;go_wp2_with fail;refine(kH w2.heap.size w2.heap.size ([]++M.bK 1 (128+(s.n:Int))++M.bK 1 (type+128)++M.bK 2 dQ++M.bK 4 aU) bJ v4 H4.O (by simp[cV]) t4).mono ?_;rintro f v5 ⟨rfl,W5,b5⟩;have Q:=au W5;clear W5 H4;have R:=P.trans b5;clear f4;clear b5 P;have f5:=(C.below R hg).cell 5;simp at f5;go_wp2_with fail;generalize S:[]++M.bK 1 (128+(s.n:Int))++M.bK 1 (type+128)++M.bK 2 dQ++M.bK 4 aU++M.bK 4 bJ=G at Q;have r:G.length=12:=by rw[<-S];simp[cV]
   obtain⟨HL,t⟩:=bu S r;clear S r;go_loopw [48] (λi wr=>∃(k:Nat),i=J V k/\k<=s.n/\lM wr w2.heap.size w2.heap.size (G++(aQ.take k).flatMap (M.bK 4))/\iQ w2.heap.size W wr) (λi _=>s.n-(bS i).toNat);case atStart=>exact⟨0,rfl,z,by simpa using Q.O,R⟩
   case round =>
    clear Q R f5;obtain⟨k,rfl,hk,W6,m⟩:=hrel;have u:=au W6;clear W6;have H:TU _ s.a s.n aQ:=(SK.O.below (d.trans m));by_cases U:k<s.n
    ·obtain⟨b,off,X,SN,hc⟩:=H.cell z;have e1:=hc k U;have g:=qO (l:=aQ) (k:=k) z;have j:=H.wf _ (nQ (l:=aQ) (k:=k) z);generalize aQ.getD k 0=x at e1 g j;have hz:0<=x/\x<=4294967295:=by simp[Lit.wf,jI,jJ,fR,gM]at j;omega
     obtain⟨Y,HA,HZ⟩:=bU g X hz;clear g j hc H hz;rw[X];clear X;go_wp2_with fail;refine(kH w2.heap.size w2.heap.size _ x _ u.O (by have:=t.O;rw[cG,mR];simp;omega) HZ.O).mono ?_;rintro f v6 ⟨rfl,W7,b7⟩;have D7:=m.trans b7;have H7:=au W7;clear W7 b7;go_wp2_with fail;go_roundw;case rel=>exact⟨k+1,by go_num,z,by rw[Y.O,jR,<-dL];simpa using H7.O,D7⟩
     case measure=>simp[bS];omega
    ·have aI:k=s.n:=z;subst aI;rw[dC z]at u;have df:(G++aQ.flatMap (M.bK 4)).length<=80:=by rw[cG,mR,t.O];omega
     generalize D:G++aQ.flatMap (M.bK 4)=o at u df;have eI:=au D;clear D;have d6:=d.trans m;clear H;have f6:=(C.below m hg).cell 6;simp at f6;have f9:=(C.below m hg).cell 9;simp at f9;go_wp2_with fail;refine(qN w2.heap.size w2.heap.size (o) cF y.a y.n y.c _ u.O (HY.O.tl.below (d.trans m)) HY.O.zero z z).mono ?_;rintro f x1 ⟨rfl,X1,c1⟩;have E1:=m.trans c1;have K:=au X1;clear X1 c1 u;clear f9;go_wp2_with fail;refine(oX w2.heap.size w2.heap.size (o++cF) _ K.O (by simp[cV];omega)).mono ?_;rintro f x ⟨⟨A,c,rfl,T,q1,q2,q3⟩,bz⟩;have dz:aC w x:=mK.trans ((d.trans (E1.trans (bz.mono (by have:=E1.size;have:=d.size;omega)))).mono (lN hg));obtain⟨Y,SO,gX⟩:=bU T hy he;clear T hy he;go_wp2_with fail;refine ax (v:=aB #[ae A (o++cF).length c,J V 0]) (by simp[aV,results193,go_sem]) rfl ?_;rw[HB.O];have E:M.cR.bytes ⟨true,type,dQ,aU,bJ,aQ,false,bV,fp,cF⟩=o++cF:=by rw[<-eI.O,<-HL.O];simp[M.cR.bytes,dL,hs,gX.O]
     rw[E];exact⟨⟨⟨A,(o++cF).length,c⟩,rfl,⟨Y.O,q1,q2,q3⟩⟩,dz⟩
  ·go_wp2_with fail;refine gu (λW=>aK W w.heap.size 76 (uA ⟨false,type,dQ,aU,bJ,aQ,true,bV,fp,cF⟩ s e y)/\lM W w2.heap.size w2.heap.size []/\aC w2 W) ⟨(F.alloc _).drew,wZ w2,wQ ((ao _ _).alloc (aj _) _)⟩ ?_;clear f0 f1 f2 f3 f4 f5 f6 f7 f8 f9;rintro W ⟨C,W0,d⟩;have hg:w.heap.size<w2.heap.size:=F.lt;have HQ:=au (q.O.below d);clear q F;have HW:=au W0;clear W0;refine(nK w2.heap.size w2.heap.size ([]) (128+(s.n:Int)+16) W HW.O dt z).mono ?_;rintro f v1 ⟨rfl,W1,b1⟩;have H1:=au W1;clear W1 HW;have D1:=b1;clear b1;go_wp2_with fail;refine(nK w2.heap.size w2.heap.size ([]++M.bK 1 (128+(s.n:Int)+16)) type v1 H1.O (by simp[cV]) z).mono ?_;rintro f v2 ⟨rfl,W2,b2⟩;have H2:=au W2;clear W2 H1;have L:=D1.trans b2;clear b2 D1;have f2:=(C.below L hg).cell 2;simp at f2;go_wp2_with fail;refine(mw w2.heap.size w2.heap.size ([]++M.bK 1 (128+(s.n:Int)+16)++M.bK 1 type) dQ v2 H2.O (by simp[cV]) t2).mono ?_;rintro f v3 ⟨rfl,W3,b3⟩;have H3:=au W3;clear W3 H2;have N:=L.trans b3;clear f2;clear b3 L;have f3:=(C.below N hg).cell 3;simp at f3;go_wp2_with fail;refine(kH w2.heap.size w2.heap.size ([]++M.bK 1 (128+(s.n:Int)+16)++M.bK 1 type++M.bK 2 dQ) aU v3 H3.O (by simp[cV]) t3).mono ?_;rintro f v4 ⟨rfl,W4,b4⟩;have H4:=au W4;clear W4 H3;have P:=N.trans b4;clear f3;clear b4 N;have f4:=(C.below P hg).cell 4;simp at f4;go_wp2_with fail;refine(kH w2.heap.size w2.heap.size ([]++M.bK 1 (128+(s.n:Int)+16)++M.bK 1 type++M.bK 2 dQ++M.bK 4 aU) bJ v4 H4.O (by simp[cV]) t4).mono ?_;rintro f v5 ⟨rfl,W5,b5⟩;have Q:=au W5;clear W5 H4;have R:=P.trans b5;clear f4;clear b5 P;have f5:=(C.below R hg).cell 5;simp at f5;go_wp2_with fail;generalize S:[]++M.bK 1 (128+(s.n:Int)+16)++M.bK 1 type++M.bK 2 dQ++M.bK 4 aU++M.bK 4 bJ=G at Q;have r:G.length=12:=by rw[<-S];simp[cV]
   obtain⟨HL,t⟩:=bu S r;clear S r;go_loopw [48] (λi wr=>∃(k:Nat),i=J V k/\k<=s.n/\lM wr w2.heap.size w2.heap.size (G++(aQ.take k).flatMap (M.bK 4))/\iQ w2.heap.size W wr) (λi _=>s.n-(bS i).toNat);case atStart=>exact⟨0,rfl,z,by simpa using Q.O,R⟩
   case round =>
    clear Q R f5;obtain⟨k,rfl,hk,W6,m⟩:=hrel;have u:=au W6;clear W6;have H:TU _ s.a s.n aQ:=(SK.O.below (d.trans m));by_cases U:k<s.n
    ·obtain⟨b,off,X,SN,hc⟩:=H.cell z;have e1:=hc k U;have g:=qO (l:=aQ) (k:=k) z;have j:=H.wf _ (nQ (l:=aQ) (k:=k) z);generalize aQ.getD k 0=x at e1 g j;have hz:0<=x/\x<=4294967295:=by simp[Lit.wf,jI,jJ,fR,gM]at j;omega
     obtain⟨Y,HA,HZ⟩:=bU g X hz;clear g j hc H hz;rw[X];clear X;go_wp2_with fail;refine(kH w2.heap.size w2.heap.size _ x _ u.O (by have:=t.O;rw[cG,mR];simp;omega) HZ.O).mono ?_;rintro f v6 ⟨rfl,W7,b7⟩;have D7:=m.trans b7;have H7:=au W7;clear W7 b7;go_wp2_with fail;go_roundw;case rel=>exact⟨k+1,by go_num,z,by rw[Y.O,jR,<-dL];simpa using H7.O,D7⟩
     case measure=>simp[bS];omega
    ·have aI:k=s.n:=z;subst aI;rw[dC z]at u;have df:(G++aQ.flatMap (M.bK 4)).length<=80:=by rw[cG,mR,t.O];omega
     generalize D:G++aQ.flatMap (M.bK 4)=o at u df;have eI:=au D;clear D;have d6:=d.trans m;clear H;have f6:=(C.below m hg).cell 6;simp at f6;have f7:=(C.below m hg).cell 7;simp at f7;go_wp2_with fail;refine(mw w2.heap.size w2.heap.size (o) bV _ u.O z ⟨SQ,SU⟩).mono ?_;rintro f x1 ⟨rfl,X1,c1⟩;have E1:=m.trans c1;have K:=au X1;clear X1 c1 u;clear f7;clear f6;have hdiv:Int.tdiv (e.n:Int) 4=((e.n / 4:Nat):Int):=by rw[rE z];omega
     have SG:aN.wrap ((e.n / 4:Nat):Int)=((e.n / 4:Nat):Int):=by rw[mX];omega
     have f8:=(C.below E1 hg).cell 8;simp at f8;go_wp2_with fail;refine(mw w2.heap.size w2.heap.size (o++M.bK 2 bV) ((e.n / 4:Nat):Int) _ K.O (by simp[cV];omega) z).mono ?_;rintro f x2 ⟨rfl,X2,c2⟩;have E2:=E1.trans c2;have SH:=au X2;clear X2 c2 K;clear f8;clear hdiv SG;have f8:=(C.below E2 hg).cell 8;simp at f8;go_wp2_with fail;refine(qN w2.heap.size w2.heap.size (o++M.bK 2 bV++M.bK 2 ((e.n / 4:Nat):Int)) fp e.a e.n e.c _ SH.O (HE.O.tl.below (d.trans E2)) HE.O.zero (by simp[cV];omega) z).mono ?_;rintro f x3 ⟨rfl,X3,c3⟩;have E3:=E2.trans c3;have SI:=au X3;clear X3 c3 SH;clear f8;have f9:=(C.below E3 hg).cell 9;simp at f9;go_wp2_with fail;refine(qN w2.heap.size w2.heap.size (o++M.bK 2 bV++M.bK 2 ((e.n / 4:Nat):Int)++fp) cF y.a y.n y.c _ SI.O (HY.O.tl.below (d.trans E3)) HY.O.zero (by simp[cV];omega) z).mono ?_;rintro f x4 ⟨rfl,X4,c4⟩;have E4:=E3.trans c4;have SP:=au X4;clear X4 c4 SI;clear f9;go_wp2_with fail;refine(oX w2.heap.size w2.heap.size (o++M.bK 2 bV++M.bK 2 ((e.n / 4:Nat):Int)++fp++cF) _ SP.O (by simp[cV];omega)).mono ?_;rintro f x ⟨⟨A,c,rfl,T,q1,q2,q3⟩,bz⟩;have dz:aC w x:=mK.trans ((d.trans (E4.trans (bz.mono (by have:=E4.size;have:=d.size;omega)))).mono (lN hg));obtain⟨Y,SO,gX⟩:=bU T hy he;clear T hy he;go_wp2_with fail;refine ax (v:=aB #[ae A (o++M.bK 2 bV++M.bK 2 ((e.n / 4:Nat):Int)++fp++cF).length c,J V 0]) (by simp[aV,results193,go_sem]) rfl ?_;rw[HB.O];have E:M.cR.bytes ⟨false,type,dQ,aU,bJ,aQ,true,bV,fp,cF⟩=o++M.bK 2 bV++M.bK 2 ((e.n / 4:Nat):Int)++fp++cF:=by rw[<-eI.O,<-HL.O];simp[M.cR.bytes,dL,hs,gX.O]
     rw[E];exact⟨⟨⟨A,(o++M.bK 2 bV++M.bK 2 ((e.n / 4:Nat):Int)++fp++cF).length,c⟩,rfl,⟨Y.O,q1,q2,q3⟩⟩,dz⟩
  ·go_wp2_with fail;refine gu (λW=>aK W w.heap.size 76 (uA ⟨true,type,dQ,aU,bJ,aQ,true,bV,fp,cF⟩ s e y)/\lM W w2.heap.size w2.heap.size []/\aC w2 W) ⟨(F.alloc _).drew,wZ w2,wQ ((ao _ _).alloc (aj _) _)⟩ ?_;clear f0 f1 f2 f3 f4 f5 f6 f7 f8 f9;rintro W ⟨C,W0,d⟩;have hg:w.heap.size<w2.heap.size:=F.lt;have HQ:=au (q.O.below d);clear q F;have HW:=au W0;clear W0;refine(nK w2.heap.size w2.heap.size ([]) (128+(s.n:Int)+16) W HW.O dt z).mono ?_;rintro f v1 ⟨rfl,W1,b1⟩;have H1:=au W1;clear W1 HW;have D1:=b1;clear b1;go_wp2_with fail;refine(nK w2.heap.size w2.heap.size ([]++M.bK 1 (128+(s.n:Int)+16)) (type+128) v1 H1.O (by simp[cV]) z).mono ?_;rintro f v2 ⟨rfl,W2,b2⟩;have H2:=au W2;clear W2 H1;have L:=D1.trans b2;clear b2 D1;have f2:=(C.below L hg).cell 2;simp at f2;go_wp2_with fail;refine(mw w2.heap.size w2.heap.size ([]++M.bK 1 (128+(s.n:Int)+16)++M.bK 1 (type+128)) dQ v2 H2.O (by simp[cV]) t2).mono ?_;rintro f v3 ⟨rfl,W3,b3⟩;have H3:=au W3;clear W3 H2;have N:=L.trans b3;clear f2;clear b3 L;have f3:=(C.below N hg).cell 3;simp at f3;go_wp2_with fail;refine(kH w2.heap.size w2.heap.size ([]++M.bK 1 (128+(s.n:Int)+16)++M.bK 1 (type+128)++M.bK 2 dQ) aU v3 H3.O (by simp[cV]) t3).mono ?_;rintro f v4 ⟨rfl,W4,b4⟩;have H4:=au W4;clear W4 H3;have P:=N.trans b4;clear f3;clear b4 N;have f4:=(C.below P hg).cell 4;simp at f4;go_wp2_with fail;refine(kH w2.heap.size w2.heap.size ([]++M.bK 1 (128+(s.n:Int)+16)++M.bK 1 (type+128)++M.bK 2 dQ++M.bK 4 aU) bJ v4 H4.O (by simp[cV]) t4).mono ?_;rintro f v5 ⟨rfl,W5,b5⟩;have Q:=au W5;clear W5 H4;have R:=P.trans b5;clear f4;clear b5 P;have f5:=(C.below R hg).cell 5;simp at f5;go_wp2_with fail;generalize S:[]++M.bK 1 (128+(s.n:Int)+16)++M.bK 1 (type+128)++M.bK 2 dQ++M.bK 4 aU++M.bK 4 bJ=G at Q;have r:G.length=12:=by rw[<-S];simp[cV]
   obtain⟨HL,t⟩:=bu S r;clear S r;go_loopw [48] (λi wr=>∃(k:Nat),i=J V k/\k<=s.n/\lM wr w2.heap.size w2.heap.size (G++(aQ.take k).flatMap (M.bK 4))/\iQ w2.heap.size W wr) (λi _=>s.n-(bS i).toNat);case atStart=>exact⟨0,rfl,z,by simpa using Q.O,R⟩
   case round =>
    clear Q R f5;obtain⟨k,rfl,hk,W6,m⟩:=hrel;have u:=au W6;clear W6;have H:TU _ s.a s.n aQ:=(SK.O.below (d.trans m));by_cases U:k<s.n
    ·obtain⟨b,off,X,SN,hc⟩:=H.cell z;have e1:=hc k U;have g:=qO (l:=aQ) (k:=k) z;have j:=H.wf _ (nQ (l:=aQ) (k:=k) z);generalize aQ.getD k 0=x at e1 g j;have hz:0<=x/\x<=4294967295:=by simp[Lit.wf,jI,jJ,fR,gM]at j;omega
     obtain⟨Y,HA,HZ⟩:=bU g X hz;clear g j hc H hz;rw[X];clear X;go_wp2_with fail;refine(kH w2.heap.size w2.heap.size _ x _ u.O (by have:=t.O;rw[cG,mR];simp;omega) HZ.O).mono ?_;rintro f v6 ⟨rfl,W7,b7⟩;have D7:=m.trans b7;have H7:=au W7;clear W7 b7;go_wp2_with fail;go_roundw;case rel=>exact⟨k+1,by go_num,z,by rw[Y.O,jR,<-dL];simpa using H7.O,D7⟩
     case measure=>simp[bS];omega
    ·have aI:k=s.n:=z;subst aI;rw[dC z]at u;have df:(G++aQ.flatMap (M.bK 4)).length<=80:=by rw[cG,mR,t.O];omega
     generalize D:G++aQ.flatMap (M.bK 4)=o at u df;have eI:=au D;clear D;have d6:=d.trans m;clear H;have f6:=(C.below m hg).cell 6;simp at f6;have f7:=(C.below m hg).cell 7;simp at f7;go_wp2_with fail;refine(mw w2.heap.size w2.heap.size (o) bV _ u.O z ⟨SQ,SU⟩).mono ?_;rintro f x1 ⟨rfl,X1,c1⟩;have E1:=m.trans c1;have K:=au X1;clear X1 c1 u;clear f7;clear f6;have hdiv:Int.tdiv (e.n:Int) 4=((e.n / 4:Nat):Int):=by rw[rE z];omega
     have SG:aN.wrap ((e.n / 4:Nat):Int)=((e.n / 4:Nat):Int):=by rw[mX];omega
     have f8:=(C.below E1 hg).cell 8;simp at f8;go_wp2_with fail;refine(mw w2.heap.size w2.heap.size (o++M.bK 2 bV) ((e.n / 4:Nat):Int) _ K.O (by simp[cV];omega) z).mono ?_;rintro f x2 ⟨rfl,X2,c2⟩;have E2:=E1.trans c2;have SH:=au X2;clear X2 c2 K;clear f8;clear hdiv SG;have f8:=(C.below E2 hg).cell 8;simp at f8;go_wp2_with fail;refine(qN w2.heap.size w2.heap.size (o++M.bK 2 bV++M.bK 2 ((e.n / 4:Nat):Int)) fp e.a e.n e.c _ SH.O (HE.O.tl.below (d.trans E2)) HE.O.zero (by simp[cV];omega) z).mono ?_;rintro f x3 ⟨rfl,X3,c3⟩;have E3:=E2.trans c3;have SI:=au X3;clear X3 c3 SH;clear f8;have f9:=(C.below E3 hg).cell 9;simp at f9;go_wp2_with fail;refine(qN w2.heap.size w2.heap.size (o++M.bK 2 bV++M.bK 2 ((e.n / 4:Nat):Int)++fp) cF y.a y.n y.c _ SI.O (HY.O.tl.below (d.trans E3)) HY.O.zero (by simp[cV];omega) z).mono ?_;rintro f x4 ⟨rfl,X4,c4⟩;have E4:=E3.trans c4;have SP:=au X4;clear X4 c4 SI;clear f9;go_wp2_with fail;refine(oX w2.heap.size w2.heap.size (o++M.bK 2 bV++M.bK 2 ((e.n / 4:Nat):Int)++fp++cF) _ SP.O (by simp[cV];omega)).mono ?_;rintro f x ⟨⟨A,c,rfl,T,q1,q2,q3⟩,bz⟩;have dz:aC w x:=mK.trans ((d.trans (E4.trans (bz.mono (by have:=E4.size;have:=d.size;omega)))).mono (lN hg));obtain⟨Y,SO,gX⟩:=bU T hy he;clear T hy he;go_wp2_with fail;refine ax (v:=aB #[ae A (o++M.bK 2 bV++M.bK 2 ((e.n / 4:Nat):Int)++fp++cF).length c,J V 0]) (by simp[aV,results193,go_sem]) rfl ?_;rw[HB.O];have E:M.cR.bytes ⟨true,type,dQ,aU,bJ,aQ,true,bV,fp,cF⟩=o++M.bK 2 bV++M.bK 2 ((e.n / 4:Nat):Int)++fp++cF:=by rw[<-eI.O,<-HL.O];simp[M.cR.bytes,dL,hs,gX.O]
     rw[E];exact⟨⟨⟨A,(o++M.bK 2 bV++M.bK 2 ((e.n / 4:Nat):Int)++fp++cF).length,c⟩,rfl,⟨Y.O,q1,q2,q3⟩⟩,dz⟩
section
def fW(w:aw)(g:Nat)(cs:Array Value):cS (One g) w (w.setRow g cs):=
 ⟨rfl,rfl,rfl,by simp[World.setRow],λi a hF=>by
  unfold World.setRow
  simp only
  rw[Array.getElem?_modify,if_neg (λe=>hF e.symm)]⟩
def JT{P:Program}{t:TypeId}{a:Array Field}(h:P.underlying t=Z (.struct a))(w:aw):(isAgg t).run P w=.ok true w:=by
 simp[isAgg,run_underlying h]
section
variable {P:Program} (w:aw) {ops:Array mJ} {rest:List mJ} {o:mJ} {a:Act} {Q:Exit->Act->aw->Prop}
def jb(hg:o.guard=I)(x v:oN)(t:TypeId)(e:o.op=Op.store t x v)(g off:Nat)(te:TypeId)(dx:Array Value)(k:a.eval x=aq (Z ⟨g,off,I⟩))
  (cs:Array Value) (l:(a.eval v).cells=cs) (b:(P.info? t).map (·.size)=Z cs.size) (j:aK w g te dx) (m:off+cs.size<=dx.size) (h1:∀v∈cs.toList,v.oneCell'=true)
  (n:∀w',aK w' g te (de dx off cs.toList)->cS (One g) w w'->oD P ops Q rest (a.put o.dst undef) w'):oD P ops Q (o::rest) a w:=by
 refine oB hg λq f=>?_;have c:=run_storeCells_at P g off te cs.toList 0 dx w j (by simpa using m) h1;rw[iw]at c;have d:(storeCells ⟨g,off,I⟩ cs.toList).run P w=.ok () (w.setRow g (de dx off cs.toList)):=c;cases h:P.info? t with
 |none=>simp[h]at b
 |some i =>
  have p:i.size=cs.size:=by simpa[h]using b
  unfold Oper.wp;simp[execOp,e,Instr.storeAt,storeVar,k,l,sizeOf,typeInfo,h,p,d,jH,Instr.sureAddr,asAddr];exact f _ _ (n _ (setRow_heap w g dx _ te (0,0) j) (fW w g _))
def lI(hg:o.guard=I)(x:oN)(t:TypeId)(d:o.op=Op.load t x)(g off:Nat)(te:TypeId)(dx:Array Value)(n:a.eval x=aq (Z ⟨g,off,I⟩))
  (cs:Array Value) (p:Array Field) (hu:P.underlying t=Z (.struct p)) (b:(P.info? t).map (·.size)=Z cs.size) (q:aK w g te dx) (r:∀j,j<cs.size->dx[off+j]? = cs[j]?)
  (s:oD P ops Q rest (a.put o.dst (cg cs)) w):oD P ops Q (o::rest) a w:=by
 refine oB hg λA f=>?_;have c:=run_loadCells_list (P:=P) w ⟨g,off,I⟩ cs.toList (λj v k=>by
  have u:j<cs.size:=by
   rcases iL j cs.size with h|h
   ·exact h
   ·rw[fx (by simpa using h)]at k;cases k
  have e:(⟨g,off,I⟩:Addr).add j=⟨g,off+j,I⟩:=by unfold Addr.add;split<;>simp_all
  rw[e,q.cell,r j u]
  simpa using k)
 cases l:P.info? t with
 |none=>simp[l]at b
 |some i =>
  have y:i.size=cs.size:=by simpa[l]using b
  have m:=JT hu w;unfold Oper.wp;simp only[Array.length_toList]at c;simp[execOp,d,Instr.loadAt,loadVar,n,sizeOf,typeInfo,l,y,c,m,jH,Instr.sureAddr,asAddr];exact f _ _ s
end
end
section
open Go.Maps (Keyed)
theorem eT{w w':aw}{row:Option Nat}(g:w.grownBy w' row):cS (λi=>row=Z i) w w':=
 ⟨g.os,g.tape,g.output,g.size,λi a hF=>g.block i a (λe=>hF e.symm)⟩
theorem tH{w w':aw}{b:Nat}(g:w.grownBy w' (Z b)):cS (One b) w w':=(eT g).mono λi _ h=>by cases h;rfl
structure Keys(κ:Type) where
 k:TypeId
 K:Keyed af k
 enc:κ->Value
 kl:κ->Lit
 ok:κ->Prop
 key:∀x,ok x->keyOf af k (enc x)=Z (kl x)
def RV:Value->Option (DataW Value×List MemPlace):=λv=>Z (.held v,[])
section
variable {κ:Type} [DecidableEq κ] (S:Keys κ)
theorem Keys.inj{S:Keys κ}(he:∀x y,S.enc x=S.enc y->x=y){x y:κ}(a:S.ok x)(hy:S.ok y)(h:S.kl x=S.kl y):x=y:=
 he x y (S.K.inj (S.key x a) (h ▸ S.key y hy))
structure uI(D:DataW Value)(ds:List κ)(f:κ->Value):Prop where
 nodup:ds.Nodup
 ok:∀x∈ds,S.ok x
 size:Maps.size D=ds.length
 has:∀x,S.ok x->tF D (S.kl x)=decide (x∈ds)
 at_:∀x∈ds,∀zd,D.atKey (S.kl x) zd=.held (f x)
 only:∀l,tF D l=true->∃x∈ds,l=S.kl x
variable {S} {D:DataW Value} {ds:List κ} {f:κ->Value}
theorem uI.empty(f:κ->Value):uI S (.map []) [] f:=⟨List.nodup_nil,λx h=>absurd h dt,rfl,λx _=>by simp[tF],λx h=>absurd h dt,λl h=>by simp[tF]at h⟩
theorem uI.put(he:∀x y,S.enc x=S.enc y->x=y)(h:uI S D ds f)(T:Maps.Tidy D){x:κ}(a:x∈ds)(v:Value):uI S (D.put (S.kl x) (.held v)) ds (λy=>if y=x then v else f y):=by
 have b:=h.ok x a;have c:=S.K.key (S.key x b);refine⟨h.nodup,h.ok,?_,λy d=>?_,λy hy zd=>?_,λl g=>?_⟩
 ·rw[Maps.size_put T,h.size,h.has x b];simp[a]
 ·by_cases e:y=x
  ·subst e;rw[Maps.has_put_same T.isMap c];simp[a]
  ·rw[nJ (λq=>e (Keys.inj he d b q))];exact h.has y d
 ·by_cases e:y=x
  ·subst e;rw[Maps.atKey_put_same T.isMap c];simp
  ·rw[Maps.atKey_put_other (λq=>e (Keys.inj he (h.ok y hy) b q)),h.at_ y hy];simp[e]
 ·by_cases e:l=S.kl x
  ·exact⟨x,a,e⟩
  ·rw[nJ e]at g;exact h.only l g
theorem uI.new(he:∀x y,S.enc x=S.enc y->x=y)(h:uI S D ds f)(T:Maps.Tidy D){x:κ}(g:x∉ds)(c:S.ok x)(v:Value):uI S (D.put (S.kl x) (.held v)) (ds++[x]) (λy=>if y=x then v else f y):=by
 have i:=S.K.key (S.key x c);refine⟨jj.2 ⟨h.nodup,dt,λa n b j=>by simp at j;subst j;exactλe=>g (e ▸ n)⟩,λy hy=>?_,?_,λy k=>?_,λy hy zd=>?_,λl m=>?_⟩
 ·rcases bt.1 hy with hy|hy
  ·exact h.ok y hy
  ·simp at hy;subst hy;exact c
 ·rw[Maps.size_put T,h.size,h.has x c];simp[g]
 ·by_cases e:y=x
  ·subst e;rw[Maps.has_put_same T.isMap i];simp
  ·rw[nJ (λq=>e (Keys.inj he k c q)),h.has y k];simp[e]
 ·by_cases e:y=x
  ·subst e;rw[Maps.atKey_put_same T.isMap i];simp
  ·have d:y∈ds:=by rcases bt.1 hy with h|h;exact h;simp at h;exact absurd h e
   rw[Maps.atKey_put_other (λq=>e (Keys.inj he (h.ok y d) c q)),h.at_ y d];simp[e]
 ·by_cases e:l=S.kl x
  ·exact⟨x,dt,e⟩
  ·rw[nJ e]at m;obtain⟨y,hy,o⟩:=h.only l m;exact⟨y,by simp[hy],o⟩
theorem uI.del(he:∀x y,S.enc x=S.enc y->x=y)(h:uI S D ds f)(T:Maps.Tidy D){x:κ}(c:S.ok x):uI S (D.del (S.kl x)) (ds.erase x) f:=by
 have d:=Maps.size_del (k:=S.kl x) T;rw[h.has x c,h.size]at d;refine⟨h.nodup.erase x,λy hy=>h.ok y (List.mem_of_mem_erase hy),?_,λy g=>?_,λy hy zd=>?_,λl b=>?_⟩
 ·rw[List.length_erase];by_cases i:x∈ds
  ·simp[i]at d ⊢;omega
  ·simp[i]at d ⊢;omega
 ·by_cases e:y=x
  ·subst e;rw[Maps.has_del_same];simp[iH h.nodup]
  ·rw[Maps.has_del_other (λq=>e (Keys.inj he g c q)),h.has y g];simp[iH h.nodup,e]
 ·have a:=iH h.nodup |>.1 hy
  rw[Maps.atKey_del_other (λq=>a.1 (Keys.inj he (h.ok y a.2) c q)),h.at_ y a.2]
 ·by_cases e:l=S.kl x
  ·rw[e,Maps.has_del_same]at b;cases b
  ·rw[Maps.has_del_other e]at b;obtain⟨y,hy,j⟩:=h.only l b;exact⟨y,(iH h.nodup).2 ⟨λq=>e (q ▸ j),hy⟩,j⟩
theorem uI.congr{g:κ->Value}(h:uI S D ds f)(e:∀x∈ds,f x=g x):uI S D ds g:=⟨h.nodup,h.ok,h.size,h.has,λx a zd=>by rw[h.at_ x a,e x a],h.only⟩
def gE(S:Keys κ)(w:aw)(b:Nat)(ds:List κ)(f:κ->Value):Prop:=∃D,w.ownsMap af S.k RV b ds.length D/\uI S D ds f
variable {w w':aw} {b:Nat}
theorem CB{k:TypeId}{R:Value->Option (DataW Value×List MemPlace)}{w:aw}{b n:Nat}{D:DataW Value}(h:w.ownsMap af k R b n D):w.ownsMap af k R b (Maps.size D) D:=by
 obtain⟨es,cJ,a,F,c,rfl⟩:=h;exact⟨es,cJ,a,F,by simp[Maps.size,length_sorted],rfl⟩
theorem gE.made(w:aw)(f:κ->Value):gE S (w.alloc (.map #[] 0)) w.heap.size [] f:=⟨_,World.ownsMap_made _ _ _ _,uI.empty f⟩
theorem gE.lt(h:gE S w b ds f):b<w.heap.size:=by obtain⟨D,h1,_⟩:=h;exact h1.lt
theorem gE.nodup(h:gE S w b ds f):ds.Nodup:=by obtain⟨D,_,h2⟩:=h;exact h2.nodup
theorem gE.ok(h:gE S w b ds f):∀x∈ds,S.ok x:=by obtain⟨D,_,h2⟩:=h;exact h2.ok
theorem gE.congr{g:κ->Value}(h:gE S w b ds f)(e:∀x∈ds,f x=g x):gE S w b ds g:=by obtain⟨D,h1,h2⟩:=h;exact⟨D,h1,h2.congr e⟩
theorem gE.is(h:gE S w b ds f):∃es k,w.heap[b]? = Z (.map es k):=by
 obtain⟨D,⟨es,cJ,a,_⟩,_⟩:=h;exact⟨es,cJ,a⟩
theorem gE.dW{F:Nat->Prop}(h:gE S w b ds f)(u:cS F w w')(hF:¬F b):gE S w' b ds f:=by
 obtain⟨D,⟨es,cJ,a,q⟩,h2⟩:=h;exact⟨D,⟨es,cJ,(u.block b (Array.getElem?_eq_some_iff.1 a).1 hF).trans a,q⟩,h2⟩
theorem gE.typed{F:Nat->Prop}{ts:List TypeId}(h:gE S w b ds f)(u:cS F w w')(T:Typed w F ts):gE S w' b ds f:=by
 obtain⟨es,k,a⟩:=h.is;refine h.dW u λq=>?_;obtain⟨d,c,_,h2⟩:=T b q;unfold aK at h2;rw[h2]at a;cases a
theorem gE.below(h:gE S w b ds f)(u:aC w w'):gE S w' b ds f:=h.dW (F:=cr) (.bn u) id
theorem gE.alloc(h:gE S w b ds f)(o:Obj):gE S (w.alloc o) b ds f:=h.below ((ao _ _).alloc (aj _) o)
theorem gE.setCell(h:gE S w b ds f){a:Addr}(c:b≠a.block)(u:Value):gE S (w.setCell a u) b ds f:=by
 obtain⟨D,h1,h2⟩:=h;exact⟨D,h1.setCell c u,h2⟩
theorem gE.ki(h:gE S w b ds f){g:Nat}{t:TypeId}{cs:Array Value}(a:aK w g t cs):b≠g:=by
 rintro rfl;obtain⟨es,k,c⟩:=h.is;unfold aK at a;rw[a]at c;cases c
def kY(S:Keys κ)(w:aw)(b r:Nat)(ds:List κ)(f:κ->Value)(done:List κ):Prop:=
 ∃D left a,w.ranges af S.k RV b r ds.length D left a/\uI S D ds f/\(∀x∈ds,left (S.kl x)=decide (x∉done))/\(∀l,left l=true->tF D l=true)/\done.Nodup/\∀x∈done,x∈ds
variable {r:Nat} {done:List κ}
theorem kY.map(h:kY S w b r ds f done):gE S w b ds f:=by obtain⟨D,left,a,h1,h2,_⟩:=h;exact⟨D,h1.owns,h2⟩
theorem kY.sub(h:kY S w b r ds f done):done.Nodup/\∀x∈done,x∈ds:=by obtain⟨D,left,a,h1,h2,_,_,h5⟩:=h;exact h5
theorem kY.dW{F:Nat->Prop}(h:kY S w b r ds f done)(u:cS F w w')(c:¬F b)(hr:¬F r):kY S w' b r ds f done:=by
 obtain⟨D,left,a,h1,h2⟩:=h;have l1:=h1.owns.lt;have l2:=h1.lt;obtain⟨es,cJ,jv,seen,d,e,g,i,j,k,q⟩:=h1;exact⟨D,left,a,⟨es,cJ,jv,seen,d,(u.block b l1 c).trans e,g,i,j,(u.block r l2 hr).trans k,q⟩,h2⟩
theorem kY.kj{F:Nat->Prop}(h:kY S w b r ds f done)(u:cS F w w')(a:¬F b)(hr:¬F r):w'.rangeLeft b r=w.rangeLeft b r:=by
 obtain⟨D,left,c,h1,h2⟩:=h;unfold World.rangeLeft;rw[u.block b h1.owns.lt a,u.block r h1.lt hr]
theorem kY.lt(h:kY S w b r ds f done):b<w.heap.size/\r<w.heap.size:=by obtain⟨D,left,a,h1,h2⟩:=h;exact⟨h1.owns.lt,h1.lt⟩
theorem kY.cw(h:kY S w b r ds f done):(∃es k,w.heap[b]? = Z (.map es k))/\∃m s c k,w.heap[r]? = Z (.mapIter m s c k):=by
 obtain⟨D,left,a,⟨es,cJ,jv,seen,g,d,i,j,l,e,q⟩,h2⟩:=h;exact⟨⟨_,_,d⟩,_,_,_,_,e⟩
section
variable (w:aw) {ops:Array mJ} {rest:List mJ} {o:mJ} {a:Act} {Q:Exit->Act->aw->Prop}
variable (he:∀x y,S.enc x=S.enc y->x=y) {t e:TypeId} (ht:af.underlying t=Z (.map S.k e))
include ht in
theorem uK(hg:o.guard=I)(m:oN)(h:o.op=Op.range t m)(b:Nat)(ds:List κ)(f:κ->Value)(hm:a.eval m=.map (Z b))(c:gE S w b ds f)
  (j:∀w',kY S w' b w.heap.size ds f []->cS cr w w'->w'.heap.size=w.heap.size+1->oD af ops Q rest (a.put o.dst (aq (Z ⟨w.heap.size,0,I⟩))) w'):oD af ops Q (o::rest) a w:=by
 obtain⟨D,h1,h2⟩:=c;refine wpList_range_own w hg m t h S.k e S.K ht RV b _ D hm h1 λw' hr g n=>j w' ⟨D,_,_,hr,h2,λx d=>?_,λl p=>p,List.nodup_nil,λx d=>absurd d dt⟩ ((eT g).mono λi _ q=>by cases q) n;rw[h2.has x (h2.ok x d)];simp[d]
include he in
theorem vR(hg:o.guard=I)(it:oN)(n:o.op=Op.next it false)(b r:Nat)(ds:List κ)(f:κ->Value)(done:List κ)(hit:a.eval it=aq (Z ⟨r,0,I⟩))(h:kY S w b r ds f done)
  (j:(∀x∈ds,x∈done)->oD af ops Q rest (a.put o.dst (aB #[ai false])) w)
  (k:∀x w',x∈ds->x∉done->kY S w' b r ds f (done++[x])->w'.rangeLeft b r<w.rangeLeft b r->cS (One r) w w'->w'.heap.size=w.heap.size->(Instr.entry (aq (Z ⟨r,0,I⟩))).run af w'=.ok (aB #[S.enc x,f x]) w'->oD af ops Q rest (a.put o.dst (aB #[ai true,S.enc x,f x])) w'):oD af ops Q (o::rest) a w:=by
 obtain⟨D,left,T,h1,h2,h3,h4,h5,h6⟩:=h;refine oB hg λW p=>?_;unfold Oper.wp;rcases h1.next S.K o.type with⟨h0,B,d⟩ | ⟨key,v,kl,y,w',N,g,s,P,E,d,t,F,G,H,u⟩
 ·simp[execOp,n,hit,d,jH];refine p _ _ (j λx i=>?_);have:=h3 x i;rw[B]at this;simpa using this.symm
 ·obtain⟨x,i,rfl⟩:=h2.only kl (h4 kl s);have L:=S.K.inj g (S.key x (h2.ok x i));subst L;have M:f x=v:=by
   simp only[RV,bf]at P;have:=E (.held v);rw[h2.at_ x i]at this;rw[<-P]at this;simpa using this
  rw[<-M]at d u;have A:x∉done:=by have:=h3 x i;rw[s]at this;simpa using this.symm
  simp[execOp,n,hit,d,jH];refine p _ _ (k x w' i A ⟨D,_,_,t,h2,λm C=>?_,λl B=>h4 l (by simp only[cM]at B;exact B.1),?_,?_⟩ ?_ (tH G) H u)
  ·rw[h3 m C];by_cases e:m=x
   ·subst e;rw[WideAt.sameKey_self (S.K.key g)];simp
   ·have:(S.kl m).sameKey (S.kl x)=false:=Maps.sameKey_ne λq=>e (Keys.inj he (h2.ok m C) (h2.ok x i) q);rw[this];simp[e]
  ·exact jj.2 ⟨h5,dt,λa U c R=>by simp at R;subst R;exactλe=>A (e ▸ U)⟩
  ·intro m C;rcases bt.1 C with q|q
   ·exact h6 m q
   ·simp at q;subst q;exact i
  ·rw[t.left_eq,h1.left_eq];exact F
end
end
end
namespace M
def pH:∀(k:Nat) (n:Int),(bK k n).length=k
 |0,_=>rfl
 |k+1,n=>by rw[bK,cG,pH k];rfl
structure cR.Ok(p:cR):Prop where
 type:0<=p.type
 dQ:0<=p.dQ/\p.dQ<65536
 aU:0<=p.aU/\p.aU<4294967296
 bJ:0<=p.bJ/\p.bJ<4294967296
 aQ:∀x∈p.aQ,0<=x/\x<4294967296
 bV:0<=p.bV/\p.bV<65536
def DA{p:cR}(h:p.right=true):p.type<=127/\p.aQ.length<=15/\(p.has=false->p.bV=0/\p.fp=[])/\p.fp.length % 4=0/\p.size<=200:=by
 unfold cR.right at h;simp only[cM,oP,mM,decide_eq_false_iff_not,decide_eq_true_eq,beq_iff_eq,oV,bne_eq_false_iff_eq,Bool.not_eq_false']at h;obtain⟨⟨⟨h1,h2⟩,h3⟩,h4,h5⟩:=h;refine⟨z,z,λq=>?_,h4,h5⟩;rcases h3 with h3|h3
 ·rw[q]at h3;cases h3
 ·exact⟨h3.1,cU.1 z⟩
def Eo(l:List Int):(l.flatMap (bK 4)).length=4*l.length:=by
 induction l with
 |nil=>rfl
 |cons x l a=>rw[kO,cG,pH,a,ft];omega
def C1(p:cR):p.bytes.length=p.size:=by
 unfold cR.bytes cR.size;simp only[cG,pH,Eo];cases p.has<;>simp[pH]<;>omega
end M
end Go.Proofs.YtkfblammcilfhaaGreatDoor
