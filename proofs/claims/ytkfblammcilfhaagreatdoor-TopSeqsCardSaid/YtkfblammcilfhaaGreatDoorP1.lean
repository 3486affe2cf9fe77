import Derived.Lib.SmallJoins
import Derived.Laws.AppendOwnNone
import Derived.Deep.DeepCutAuto
import Derived.Deep.LoopGhost
import Derived.Deep.RegionLaw
import Derived.Test.YtkfblammcilfhaaGreatDoorP0
set_option linter.all false
set_option maxRecDepth 100000
set_option maxHeartbeats 100000000
open Go.ChangeShapes Go.WideShapes Go.ChangeAt Go.RowKit Go.Proofs.Tryz
open Go renaming World->aw,IntKind->jC,Calls->aF,bodyPost_end->dq,results_none->bT,bodyPost_ret->ax,info_parts->cY,wpList_append_own->dM,results->aV,Program->jB,Oper->mJ,Operand->oN,wpList->oD,wpList_plain->oB,run_storeCells_at->oF,setRow_heap->kQ,yielded->sC,wraps_u8->tz
open Go.Lit renaming wf->pD,int->dU
open Go.IntKind renaming min->jI,max->jJ,signed->fR,bits->gM,u64->nS,i64->V,u16->aN,wrap_u16->mX,u32->ar,u8->bI
open Go.Proofs.Tryz renaming prog->af
open List renaming length_eq_zero_iff->cU,take_of_length_le->dC,getElem?_eq_none->fx,getElem?_eq_getElem->ay,getD_eq_getElem?_getD->bE,mem_of_mem_take->eZ,mem_append->bt,length_append->cG,flatMap_append->jR,append_assoc->dL
open Nat renaming add_zero->iw,lt_or_ge->iL,le_refl->aj,eq_zero_or_pos->iV,le_trans->aP,le_of_lt->lN,le_of_eq->lO
open Go.Value renaming int->J,slice->ae,bool->ai,pointer->aq,tuple->aB,agg->cg
open Option.some renaming injEq->bf
open Go.RowKit.Below renaming refl->ao
open Int renaming lt_of_lt_of_le->nI,tdiv_eq_ediv_of_nonneg->rE
open Go.RowKit renaming intOf->bS,Below->iQ
open Go.Value.slice renaming injEq->jl
open Array renaming size_setIfInBounds->dh,getElem?_setIfInBounds_self_of_lt->fV,getElem?_setIfInBounds_ne->gi
open Go.Region renaming wanted->ig
open Go.Ending renaming returned->av
open Option renaming none->I,some->Z
namespace Go.Proofs.YtkfblammcilfhaaGreatDoor
def cS.cell{a b:aw}{g:Nat}(h:cS (One g) a b)(i:Nat)(v:Value):cS (One g) a (b.setCell ⟨g,i,I⟩ v):=h.setCell (p:=⟨g,i,I⟩) (.inl rfl) v
def TL.bC{t a:TypeId}{k:jC}{w:aw}{A:Option Addr}{n:Nat}{xs:List Int}{g:Nat}{cs:Array Value}(h:TL t k w A n xs)(d:aK w g a cs)(ht:t≠a)(i:Nat)(u:Value):TL t k (w.setCell ⟨g,i,I⟩ u) A n xs:=
 h.map λb e c=>c.dS (p:=⟨g,i,I⟩) (aK.jf c d ht) u
def TL.wA{t:TypeId}{w:aw}{A:Option Addr}{n:Nat}{xs:List Int}(h:TL t bI w A n xs):∀x∈xs,0<=x/\x<=255:=λx a=>by
 have:=h.wf x a;simp[pD,jI,jJ,fR,gM]at this;omega
def lr(g:Nat)(r:M.Rd)(w:aw)(h:iG w g r):aF af 53 #[aq (Z ⟨g,0,I⟩)] w λe w'=>e=av (J V r.left.length)/\w'=w:=by
 obtain⟨A,n,c,d,a,h1,h2,h3⟩:=h;clear h3;have b:=a.len;have f:=d.cell 0;simp at f;have i:=au b;clear a b;go_enter func53,ntmps53;go_wp2_with fail;go_ret;exact⟨by rw[i.O];rfl,rfl⟩
def qy(g:Nat)(r:M.Rd)(w:aw)(h:iG w g r):aF af 55 #[aq (Z ⟨g,0,I⟩)] w λe w'=>e=av (J V r.end_)/\w'=w:=by
 obtain⟨A,n,c,d,f,h1,h2,h3⟩:=h;clear h3;have b:=f.len;have i:=d.cell 0;have c1:=d.cell 1;obtain⟨left,nc⟩:=r;simp at i c1;simp only at b;clear f;by_cases hw:nc=0
 ·subst hw;by_cases j:0<n
  ·have he:M.Rd.end_ ⟨left,0⟩=4:=by
    have:0<left.length:=z;simp[M.Rd.end_,this]
   have a:=au he;clear he b;go_enter func55,ntmps55;go_wp2_with fail;go_ret;exact⟨by rw[a.O];rfl,rfl⟩
  ·have he:M.Rd.end_ ⟨left,0⟩=0:=by simp[M.Rd.end_];exact cU.1 z
   have a:=au he;clear he b;go_enter func55,ntmps55;go_wp2_with fail;go_ret;exact⟨by rw[a.O];rfl,rfl⟩
 ·have he:M.Rd.end_ ⟨left,nc⟩=nc:=by simp[M.Rd.end_,hw]
  have a:=au he;clear he b;have k:(nc==0)=false:=by simpa using hw
  go_enter func55,ntmps55;go_wp2_with fail;go_ret;exact⟨by rw[a.O];rfl,rfl⟩
def mP(g:Nat)(r:M.Rd)(x:Int)(w:aw)(h:iG w g r):aF af 51 #[aq (Z ⟨g,0,I⟩),J V x] w λe w'=>e=av (aB #[])/\iG w' g (r.fail x)/\cS (One g) w w':=by
 obtain⟨A,n,c,a,b,h1,h2,h3⟩:=h;obtain⟨left,nc⟩:=r;have k:=a.cell 0;have c1:=a.cell 1;have f0:=a.frozen 0;have f1:=a.frozen 1;simp at k c1;simp only at a b;by_cases f:x=0
 ·have he:M.Rd.fail ⟨left,nc⟩ x=⟨left,nc⟩:=by simp[M.Rd.fail,f]
  obtain⟨i,d⟩:=bu (show iG w g ⟨left,nc⟩ from⟨A,n,c,a,b,h1,h2,h3⟩) he;clear he b h3;subst f;go_enter func51,ntmps51;go_wp2_with fail;first|refine dq (bT results51 _ _ _) rfl ?_|refine ax (bT results51 _ _ _) rfl ?_
  exact⟨rfl,by rw[d.O];exact i.O,cS.refl _ _⟩
 ·have m:(x==0)=false:=by simpa using f
  by_cases hw:nc=0
  ·subst hw;have he:M.Rd.fail ⟨left,0⟩ x=⟨[],x⟩:=by simp[M.Rd.fail,f]
   have j:=(a.bC 1 (J V x)).bC 0 (ae I 0 0);simp at j;have d:=au he;clear he b h3;go_enter func51,ntmps51;go_wp2_with fail;first|refine dq (bT results51 _ _ _) rfl ?_|refine ax (bT results51 _ _ _) rfl ?_
   exact⟨rfl,by rw[d.O];exact⟨I,0,0,j,TL.empty,z,ui,λq=>absurd q z⟩,((cS.refl _ _).cell _ _).cell _ _⟩
  ·have he:M.Rd.fail ⟨left,nc⟩ x=⟨left,nc⟩:=by simp[M.Rd.fail,hw]
   obtain⟨i,d⟩:=bu (show iG w g ⟨left,nc⟩ from⟨A,n,c,a,b,h1,h2,h3⟩) he;clear he b;have l:(nc !=0)=true:=by simpa using hw
   go_enter func51,ntmps51;go_wp2_with fail;first|refine dq (bT results51 _ _ _) rfl ?_|refine ax (bT results51 _ _ _) rfl ?_
   exact⟨rfl,by rw[d.O];exact i.O,cS.refl _ _⟩
def add_lit(b off j:Nat):(⟨b,off,I⟩:Addr).add j=⟨b,off+j,I⟩:=by
 unfold Addr.add;split
 ·rename_i a;rw[a];rfl
 ·rfl
def qQ(g:Nat)(r:M.Rd)(x:Int)(w:aw)(h:iG w g r)(S:-1000000000<=x/\x<=1000000000):aF af 98 #[aq (Z ⟨g,0,I⟩),J V x] w λe w'=>(∃A m c,e=av (ae A m c)/\TB w' A m (r.take x).1/\(m=0->A=I/\c=0)/\m<=c/\m<=r.left.length)/\iG w' g (r.take x).2/\cS (One g) w w':=by
 by_cases h0:x<=0
 ·have he:r.take x=([],r):=by simp[M.Rd.take,h0]
  have f:=au he;clear he;have p:=au h;clear h;go_enter func98,ntmps98;go_wp2_with fail;go_ret;rw[f.O];exact⟨⟨I,0,0,rfl,TL.empty,λ_=>⟨rfl,rfl⟩,z,z⟩,p.O,cS.refl _ _⟩
 ·obtain⟨A,n,c,a,d,h1,h2,h3⟩:=h;have K:=a.cell 0;have f0:=a.frozen 0;simp at K;have s:=d.len;by_cases T:(n:Int)<x
  ·have he:r.take x=([],r.fail 3):=by
    have:(r.left.length:Int)<x:=z;simp[M.Rd.take,h0,this]
   have f:=au he;clear he;have p:=au (show iG w g r from⟨A,n,c,a,d,h1,h2,h3⟩);clear d s h3;go_enter func98,ntmps98;go_wp2_with fail;refine(mP g r 3 _ p.O).mono ?_;rintro e w1 ⟨rfl,F,u1⟩;have t:=au F;clear F;go_wp2_with fail;go_ret;rw[f.O];exact⟨⟨I,0,0,rfl,TL.empty,λ_=>⟨rfl,rfl⟩,z,z⟩,t.O,u1⟩
  ·obtain⟨m,rfl⟩:∃m:Nat,x=m:=⟨x.toNat,z⟩;have L:m<=n:=z;obtain⟨b,off,cs,rfl,N,i⟩:=d.2.2 z;have P:=au (h3 z b off rfl);clear h3;have he:r.take m=(r.left.take m,⟨r.left.drop m,r.nc⟩):=by
    unfold M.Rd.take;rw[if_neg h0,if_neg z,Int.toNat_natCast]
   have f:=au he;clear he;have p1:=d.part 0 m z;have p2:=d.part m (n-m) z;rw[iw,List.drop_zero]at p1;rw[dC dZ]at p2;have j:¬m=0:=z;by_cases u:c=m
   ·have v:n=m:=z;subst u;subst v;have k:=p1.bC a aR 0 (ae (Z ⟨b,off,I⟩) 0 0);have l:=a.bC 0 (ae (Z ⟨b,off,I⟩) 0 0);have o:r.left.drop n=[]:=List.drop_of_length_le z;have y:n<=r.left.length:=z;obtain⟨Q,B,C⟩:=bU k l o;clear p1 p2 k d s i l o;go_enter func98,ntmps98;go_wp2_with fail;go_ret;rw[f.O];refine⟨⟨_,n,n,rfl,Q.O,λq=>absurd q j,z,z⟩,⟨_,0,0,B.O,?_,z,z,λq=>absurd q z⟩,(cS.refl _ _).cell _ _⟩;rw[C.O];exact TL.empty
   ·have k:=p1.bC a aR 0 (ae (Z ⟨b,off+m,I⟩) (n-m) (c-m));have G:=p2.bC a aR 0 (ae (Z ⟨b,off+m,I⟩) (n-m) (c-m));have l:=a.bC 0 (ae (Z ⟨b,off+m,I⟩) (n-m) (c-m));have y:m<=r.left.length:=z;obtain⟨D,E,B⟩:=bU k G l;clear p1 p2 k G d s i l;go_enter func98,ntmps98;go_wp2_with fail;go_ret;rw[f.O];exact⟨⟨_,m,m,rfl,D.O,λq=>absurd q j,z,z⟩,⟨_,n-m,c-m,B.O,E.O,z,z,λq U H R=>by cases R;exact P.O⟩,(cS.refl _ _).cell _ _⟩
def sZ{w:aw}{g base:Nat}{e:TypeId}{size:Nat}(h:aK w g e #[])(a:base<=g):w.ownsRow base e size (ae (Z ⟨g,0,I⟩) 0 0) 0 []:=
 ⟨dt,.inr ⟨g,0,#[],rfl,a,h,z,ui,dt,dt⟩⟩
def bA{w:aw}{base:Nat}{e:TypeId}{size n:Nat}{v:Value}{xs:List Value}(h:w.ownsRow base e size v n xs):∃A c,v=ae A n c:=by
 rcases h.2 with⟨rfl,rfl⟩ | ⟨g,cap,dx,rfl,_⟩
 ·exact⟨I,0,rfl⟩
 ·exact⟨_,cap,rfl⟩
def wo{w:aw}{base:Nat}{e:TypeId}{size n m c:Nat}{A:Option Addr}{xs:List Value}(h:w.ownsRow base e size (ae A m c) n xs):A=I->c=0:=by
 rintro rfl;rcases h.2 with⟨a,_⟩ | ⟨g,cap,dx,a,_⟩
 ·simp at a;omega
 ·simp at a
def qS{w:aw}{base a:Nat}{e:TypeId}{size n:Nat}{v:Value}{xs:List Value}(h:w.ownsRow base e size v n xs)(d:a<=base):w.ownsRow a e size v n xs:=by
 obtain⟨h1,h2⟩:=h;refine⟨h1,h2.imp id ?_⟩;rintro⟨g,cap,dx,b,f,c⟩;exact⟨g,cap,dx,b,z,c⟩
def TL.iX{t:TypeId}{k:jC}{w:aw}{a:Addr}{n:Nat}{xs:List Int}(h:TL t k w (Z a) n xs):∀j u,(xs.map (J k))[j]? = Z u->w.cell? (a.add j)=Z u:=by
 intro j u hu;obtain⟨h1,h2,h3⟩:=h;rw[List.getElem?_map]at hu;have b:j<xs.length:=by
  rcases iL j xs.length with h|h
  ·exact h
  ·rw[fx h]at hu;simp at hu
 obtain⟨f,c,cs,he,d,e⟩:=h3 z;simp only[bf]at he;subst he;rw[ay b]at hu;rw[add_lit,d.cell,e j z,bE,ay b];simpa using hu
def uQ{k:jC}{xs:List Int}:∀u∈xs.map (J k),u.oneCell'=true:=by
 intro u hu;obtain⟨x,_,rfl⟩:=List.mem_map.1 hu;rfl
def Tryz.zL:(af.info? 5).map (λi=>(i.zero,i.size,i.bytes))=Z (Z (J bI 0),1,1):=cC
def EI(a:Addr)(n c:Nat)(xs:List Int)(w:aw)(h:TL 5 bI w (Z a) n xs)(hm:n<=100000) :
  aF af 57 #[ae (Z a) n c] w λe w'=>(∃l k,e=av (ae l n k)/\TL 5 bI w' l n xs/\n<=k/\k<=maxLen/\(l=I->k=0))/\aC w w':=by
 obtain⟨i0,hi,f,g,i⟩:=cY Tryz.zL;obtain⟨A,m,o,p⟩:=cA hi f g i;clear hi f g i;have own:=sZ (aK.new w 5 #[]) (base:=w.heap.size) (e:=5) (size:=1) (aj _);have q:=((ao w.heap.size w).alloc (aj _) (.cells #[] 5));have r:=(h.below q).iX;have hw:=h.wf;have s:=h.len;have he:∀W:aw,(binOp .eql 38 (ae (Z a) n c) (ae I 0 0)).run af W=.ok (ai false) W:=λ_=>rfl;obtain⟨B,C,D⟩:=bU r hw s;clear r hw s h;go_enter func57,ntmps57;go_wp2_with (at_builtin;go_loud (refine dM _ rfl _ _ 38 rfl w.heap.size 5 i0 (J bI 0) 1 1 underlying38 A.O m.O o.O p.O rfl aR _ _ _ rfl own a n c (xs.map (J bI)) rfl (by simp[D.O]) B.O uQ ?c3 ?c4 ?c5 ?_));case c3=>unfold maxLen;omega
 case c4=>omega
 case c5=>simp
 intro v5 w5 d g5 _;have b:w5.ownsRow w.heap.size 5 1 v5 n (xs.map (J bI)):=by simpa using d
 obtain⟨t,c5,rfl,u,v,x⟩:=TL.own b C.O;have y:t=I->c5=0:=wo b;obtain⟨E,F,G,H⟩:=cA u v x y;have K:aC w w5:=q.grown g5 dt (λj L=>by have:=(own.lt j L).1;omega);clear own d b g5 u v x q y;go_wp2_with fail;go_ret;exact⟨⟨t,c5,rfl,G.O,E.O,F.O,H.O⟩,K⟩
def mC(A:Option Addr)(n c:Nat)(xs:List Int)(w:aw)(h:TL 5 bI w A n xs)(hm:n<=100000)(g:A=I->c=0) :
  aF af 57 #[ae A n c] w λe w'=>(∃f d,e=av (ae f n d)/\TL 5 bI w' f n xs/\n<=d/\d<=maxLen/\(f=I->d=0))/\aC w w':=by
 cases A with
 |some a=>exact EI a n c xs w h hm
 |none =>
  have i:n=0:=by
   rcases iV n with q|q
   ·exact q
   ·obtain⟨b,off,cs,e,_⟩:=h.2.2 q;cases e
  have j:=g rfl;subst i;subst j;have k:=au h;clear h g;have he:∀W:aw,(binOp .eql 38 (ae I 0 0) (ae I 0 0)).run af W=.ok (ai true) W:=λ_=>rfl;go_enter func57,ntmps57;go_wp2_with fail;go_ret;exact⟨⟨I,0,rfl,k.O,z,ui,λ_=>rfl⟩,ao _ _⟩
def Tryz.CN:(af.info? 41).map (λi=>(i.zero,i.size,i.bytes))=Z (Z (J ar 0),1,4):=cC
def EG(a:Addr)(n c:Nat)(xs:List Int)(w:aw)(h:TL 41 ar w (Z a) n xs)(hm:n<=100000) :
  aF af 61 #[ae (Z a) n c] w λe w'=>(∃l k,e=av (ae l n k)/\TL 41 ar w' l n xs/\n<=k/\k<=maxLen/\(l=I->k=0))/\aC w w':=by
 obtain⟨i0,hi,f,g,i⟩:=cY Tryz.CN;obtain⟨A,m,o,p⟩:=cA hi f g i;clear hi f g i;have own:=sZ (aK.new w 41 #[]) (base:=w.heap.size) (e:=41) (size:=1) (aj _);have q:=((ao w.heap.size w).alloc (aj _) (.cells #[] 41));have r:=(h.below q).iX;have hw:=h.wf;have s:=h.len;have he:∀W:aw,(binOp .eql 74 (ae (Z a) n c) (ae I 0 0)).run af W=.ok (ai false) W:=λ_=>rfl;obtain⟨B,C,D⟩:=bU r hw s;clear r hw s h;go_enter func61,ntmps61;go_wp2_with (at_builtin;go_loud (refine dM _ rfl _ _ 74 rfl w.heap.size 41 i0 (J ar 0) 1 4 underlying74 A.O m.O o.O p.O rfl aR _ _ _ rfl own a n c (xs.map (J ar)) rfl (by simp[D.O]) B.O uQ ?c3 ?c4 ?c5 ?_));case c3=>unfold maxLen;omega
 case c4=>omega
 case c5=>simp
 intro v5 w5 d g5 _;have b:w5.ownsRow w.heap.size 41 1 v5 n (xs.map (J ar)):=by simpa using d
 obtain⟨t,c5,rfl,u,v,x⟩:=TL.own b C.O;have y:t=I->c5=0:=wo b;obtain⟨E,F,G,H⟩:=cA u v x y;have K:aC w w5:=q.grown g5 dt (λj L=>by have:=(own.lt j L).1;omega);clear own d b g5 u v x q y;go_wp2_with fail;go_ret;exact⟨⟨t,c5,rfl,G.O,E.O,F.O,H.O⟩,K⟩
def GU(A:Option Addr)(n c:Nat)(xs:List Int)(w:aw)(h:TL 41 ar w A n xs)(hm:n<=100000)(g:A=I->c=0) :
  aF af 61 #[ae A n c] w λe w'=>(∃f d,e=av (ae f n d)/\TL 41 ar w' f n xs/\n<=d/\d<=maxLen/\(f=I->d=0))/\aC w w':=by
 cases A with
 |some a=>exact EG a n c xs w h hm
 |none =>
  have i:n=0:=by
   rcases iV n with q|q
   ·exact q
   ·obtain⟨b,off,cs,e,_⟩:=h.2.2 q;cases e
  have j:=g rfl;subst i;subst j;have k:=au h;clear h g;have he:∀W:aw,(binOp .eql 74 (ae I 0 0) (ae I 0 0)).run af W=.ok (ai true) W:=λ_=>rfl;go_enter func61,ntmps61;go_wp2_with fail;go_ret;exact⟨⟨I,0,rfl,k.O,z,ui,λ_=>rfl⟩,ao _ _⟩
def qO{l:List Int}{k:Nat}(a:k<l.length):l.take (k+1)=l.take k++[l.getD k 0]:=by
 rw[List.take_succ_eq_append_getElem a,bE,ay a];rfl
def nQ{l:List Int}{k:Nat}(a:k<l.length):l.getD k 0∈l:=by
 rw[bE,ay a];exact List.getElem_mem a
def Gm(l:List Int)(x:Int):M.bO (l++[x])=M.bO l*256+x:=by simp[M.bO]
def tV:∀(l:List Int),(∀x∈l,0<=x/\x<=255)->0<=M.bO l/\M.bO l<256 ^ l.length:=by
 intro l h;suffices H:∀(l:List Int) (a:Int),0<=a->(∀x∈l,0<=x/\x<=255)->0<=l.foldl (λn x=>n*256+x) a/\l.foldl (λn x=>n*256+x) a<(a+1)*256 ^ l.length by
  have:=H l 0 z h;simpa[M.bO]using this
 intro l;induction l with
 |nil=>intro a c _;simp;omega
 |cons x r d =>
  intro a c b;have e:=b x dt;have:=d (a*256+x) z (λy hy=>b y (by simp[hy]));simp only[List.foldl_cons,List.length_cons];refine⟨this.1,nI this.2 ?_⟩;rw[Int.pow_succ,show(a+1)*(256 ^ r.length*256)=((a+1)*256)*256 ^ r.length from by rw[Int.mul_comm (256 ^ r.length) 256,Int.mul_assoc]];exact Int.mul_le_mul_of_nonneg_right z (Int.pow_nonneg z)
def IS(n:Int)(a:0<=n)(b:n<2 ^ 64):nS.wrap n=n:=by rw[IntKind.wrap_u64];omega
def NQ{a y:Int}(h0:0<=a)(h1:a<16777216)(h2:0<=y)(h3:y<=255):bits .or .u64 (a*256) y=a*256+y:=
 bits_join .u64 64 aR IS 8 (a*256) y z z z h2 z z
def tW(A:Option Addr)(n c:Nat)(xs:List Int)(w:aw)(h:TB w A n xs)(hm:n<=4)(j:n=0->A=I/\c=0)(D:n<=c) :
  aF af 157 #[ae A n c] w λe w'=>e=av (J .u64 (M.bO xs))/\w'=w:=by
 have a:=h.wA;have g:=h.len;have E:(0:Int)>=(n:Int)-8:=z;by_cases u:n=0
 ·obtain⟨rfl,rfl⟩:=j u;subst u;have m:xs=[]:=cU.1 g;subst m;clear a g h j;go_enter func157,ntmps157;go_wp2_with fail;go_loopw [4,14] (λv i wr=>v=J .u64 0/\i=J V 0/\wr=w) (λ_ i _=>0);case atStart=>exact⟨rfl,rfl,rfl⟩
  case round =>
   obtain⟨rfl,rfl,rfl⟩:=hrel;go_wp2_with fail;go_ret;exact⟨rfl,rfl⟩
 ·obtain⟨b,off,rfl,N,B⟩:=h.cell z;obtain⟨F,C,o⟩:=bU B a g;clear B a g h j;have G:¬c=0:=z;go_enter func157,ntmps157;go_wp2_with fail;go_loopw [4,14] (λv i wr=>∃k:Nat,i=J V k/\k<=n/\v=J .u64 (M.bO (xs.take k))/\wr=w) (λ_ i _=>n-(bS i).toNat);case atStart=>exact⟨0,rfl,z,rfl,rfl⟩
  case round =>
   obtain⟨k,rfl,P,rfl,rfl⟩:=hrel;by_cases a:k<n
   ·have H:=F.O k a;have hy:=C.O _ (nQ (l:=xs) (k:=k) (lE o.O));have f:=qO (l:=xs) (k:=k) (lE o.O);have d:=tV (xs.take k) (λx m=>C.O x (eZ m));generalize xs.getD k 0=y at H hy f;have p:M.bO (xs.take (k+1))=M.bO (xs.take k)*256+y:=by rw[f,Gm]
    generalize M.bO (xs.take k)=K at d p;have L:=au p;have r:K<16777216:=by
     refine nI d.2 ?_;have:(xs.take k).length<=3:=dZ;rcases Q:(xs.take k).length with _|_|_|_|q
     ·decide
     ·decide
     ·decide
     ·decide
     ·omega
    have s:=d.1;clear p d f;go_wp2_with fail;go_roundw;case rel=>exact⟨k+1,by go_num,z,by rw[L.O,NQ s r hy.1 hy.2],(by first|rfl|trivial)⟩
    case measure=>simp[bS];omega
   ·have t:k=n:=z;subst t;rw[dC (lE o.O)];go_wp2_with fail;go_ret;exact⟨rfl,rfl⟩
def iG.below{w w':aw}{g:Nat}{r:M.Rd}(h:iG w g r)(b:aC w w'):iG w' g r:=by
 obtain⟨A,n,c,a,d,h1,h2,h3⟩:=h;exact⟨A,n,c,a.kept b,d.below b,h1,h2,h3⟩
def qP(r:M.Rd)(s:Nat):(r.take s).1.length<=s:=by
 unfold M.Rd.take;split
 ·simp
 ·split
  ·simp
  ·simp;omega
def Dn(r:M.Rd)(s:Int):∀x∈(r.take s).1,x∈r.left:=by
 unfold M.Rd.take;split
 ·simp
 ·split
  ·simp
  ·exactλx a=>eZ a
def iG.wA{w:aw}{g:Nat}{r:M.Rd}(h:iG w g r):∀x∈r.left,0<=x/\x<=255:=by
 obtain⟨A,n,c,_,a,_⟩:=h;exact a.wA
def Lq{a b:Nat}(h:a<=b):(256:Int) ^ a<=256 ^ b:=by
 obtain⟨k,rfl⟩:=Nat.exists_eq_add_of_le h;rw[Int.pow_add];have h1:(0:Int)<256 ^ k:=Int.pow_pos aR;have h2:(0:Int)<=256 ^ a:=Int.pow_nonneg aR;have:=Int.mul_le_mul_of_nonneg_left (show(1:Int)<=256 ^ k from h1) h2;rwa [Int.mul_one]at this
def ev{w:aw}{g:Nat}{r:M.Rd}(h:iG w g r)(s:Nat)(b:s<=4):0<=(r.num s).1/\(r.num s).1<=256 ^ s-1:=by
 have:=tV (r.take s).1 (λx a=>h.wA x (Dn r s x a));refine⟨this.1,?_⟩;have h2:(256:Int) ^ (r.take s).1.length<=256 ^ s:=Lq (qP r s);have h3:M.bO (r.take s).1<256 ^ s:=nI this.2 h2;show M.bO (r.take s).1<=256 ^ s-1;omega
def lW(g:Nat)(r:M.Rd)(w:aw)(h:iG w g r):aF af 48 #[aq (Z ⟨g,0,I⟩)] w λe w'=>e=av (J bI (r.num 1).1)/\iG w' g (r.num 1).2/\cS (One g) w w':=by
 have k:=au h;clear h;go_enter func48,ntmps48;go_wp2_with (first|(go_at_call 97;go_in));refine(qQ g r 1 w k.O z).mono ?_;rintro e w1 ⟨⟨A,m,c,rfl,d,o,p,t⟩,l,u1⟩;have f:0<=(r.num 1).1/\(r.num 1).1<=255:=ev k.O 1 z;have i:m<=4:=by have:(r.take 1).1.length<=1:=qP r 1;have:=d.len;omega
 have a:(r.num 1).1=M.bO (r.take 1).1:=rfl;have b:(r.num 1).2=(r.take 1).2:=rfl;rw[a]at f;obtain⟨q,j,n,s⟩:=cA d l a b;clear d l a b;go_wp2_with fail;refine(tW A m c _ w1 q.O i o p).mono ?_;generalize M.bO (r.take 1).1=u at f n ⊢;obtain⟨b1,b2⟩:=f;rintro e w2 ⟨rfl,rfl⟩;go_wp2_with fail;go_ret;exact⟨by rw[n.O];rfl,by rw[s.O];exact j.O,u1⟩
def qH(g:Nat)(r:M.Rd)(w:aw)(h:iG w g r):aF af 49 #[aq (Z ⟨g,0,I⟩)] w λe w'=>e=av (J aN (r.num 2).1)/\iG w' g (r.num 2).2/\cS (One g) w w':=by
 have k:=au h;clear h;go_enter func49,ntmps49;go_wp2_with (first|(go_at_call 99;go_in));refine(qQ g r 2 w k.O z).mono ?_;rintro e w1 ⟨⟨A,m,c,rfl,d,o,p,t⟩,l,u1⟩;have f:0<=(r.num 2).1/\(r.num 2).1<=65535:=ev k.O 2 z;have i:m<=4:=by have:(r.take 2).1.length<=2:=qP r 2;have:=d.len;omega
 have a:(r.num 2).1=M.bO (r.take 2).1:=rfl;have b:(r.num 2).2=(r.take 2).2:=rfl;rw[a]at f;obtain⟨q,j,n,s⟩:=cA d l a b;clear d l a b;go_wp2_with fail;refine(tW A m c _ w1 q.O i o p).mono ?_;generalize M.bO (r.take 2).1=u at f n ⊢;obtain⟨b1,b2⟩:=f;rintro e w2 ⟨rfl,rfl⟩;go_wp2_with fail;go_ret;exact⟨by rw[n.O];rfl,by rw[s.O];exact j.O,u1⟩
def kK(g:Nat)(r:M.Rd)(w:aw)(h:iG w g r):aF af 50 #[aq (Z ⟨g,0,I⟩)] w λe w'=>e=av (J ar (r.num 4).1)/\iG w' g (r.num 4).2/\cS (One g) w w':=by
 have k:=au h;clear h;go_enter func50,ntmps50;go_wp2_with (first|(go_at_call 100;go_in));refine(qQ g r 4 w k.O z).mono ?_;rintro e w1 ⟨⟨A,m,c,rfl,d,o,p,t⟩,l,u1⟩;have f:0<=(r.num 4).1/\(r.num 4).1<=4294967295:=ev k.O 4 z;have i:m<=4:=by have:(r.take 4).1.length<=4:=qP r 4;have:=d.len;omega
 have a:(r.num 4).1=M.bO (r.take 4).1:=rfl;have b:(r.num 4).2=(r.take 4).2:=rfl;rw[a]at f;obtain⟨q,j,n,s⟩:=cA d l a b;clear d l a b;go_wp2_with fail;refine(tW A m c _ w1 q.O i o p).mono ?_;generalize M.bO (r.take 4).1=u at f n ⊢;obtain⟨b1,b2⟩:=f;rintro e w2 ⟨rfl,rfl⟩;go_wp2_with fail;go_ret;exact⟨by rw[n.O];rfl,by rw[s.O];exact j.O,u1⟩
def Cu(g:Nat)(r:M.Rd)(x:Int)(w:aw)(h:iG w g r)(p:-1000000000<=x/\x<=1000000000)(hr:r.left.length<=100000):aF af 52 #[aq (Z ⟨g,0,I⟩),J V x] w λe w'=>(∃A m c,e=av (ae A m c)/\TB w' A m (r.take x).1/\m<=c/\c<=maxLen/\(A=I->c=0))/\iG w' g (r.take x).2/\cS (One g) w w':=by
 have s:=au h;clear h;go_enter func52,ntmps52;go_wp2_with fail;refine(qQ g r x w s.O p).mono ?_;rintro e w1 ⟨⟨A,m,c,rfl,i,t,C,D⟩,j,u1⟩;obtain⟨k,a⟩:=bu i j;clear i j;go_wp2_with fail;refine(mC A m c _ w1 k.O z (λe=>?_)).mono ?_
 ·rcases iV m with q|q
  ·exact(t q).2
  ·obtain⟨b,off,l,_⟩:=k.O.cell q;rw[e]at l;cases l
 rintro e w2 ⟨⟨u,c2,rfl,n,v,y,B⟩,b2⟩;have o:=iG.below a.O b2;obtain⟨d,f⟩:=bu n o;clear n o;go_wp2_with fail;go_ret;exact⟨⟨u,m,c2,rfl,d.O,v,y,B⟩,f.O,u1.then b2⟩
def wz(A:Option Addr)(n c:Nat)(xs:List Int)(w:aw)(h:TB w A n xs)(hm:n<=100000)(o:A=I->c=0) :
  aF af 47 #[ae A n c] w λe w'=>(∃g,e=av (aq (Z ⟨g,0,I⟩))/\w.heap.size<=g/\iG w' g ⟨xs,0⟩)/\aC w w':=by
 have p:=au h;clear h;go_enter func47,ntmps47;go_wp2_with fail;refine(mC A n c xs w p.O hm o).mono ?_;rintro e w1 ⟨⟨a,c1,rfl,d,r,s,x⟩,b1⟩;have h3:0<n->∀b off,a=Z ⟨b,off,I⟩->b<w1.heap.size:=λq b off e=>by
  obtain⟨y,j,cs,k,f,_⟩:=d.2.2 q;rw[e]at k;cases k;exact f.lt
 have t:=au h3;clear h3;have l:=d.below ((ao w1.heap.size w1).alloc (aj _) (.cells #[ae a n c1,J V 0] 231));have m:=aK.new w1 231 #[ae a n c1,J V 0];have u:=b1.size;obtain⟨i,v⟩:=bu l m;clear d l m;go_wp2_with fail;go_ret;exact⟨⟨w1.heap.size,rfl,u,a,n,c1,v.O,i.O,r,s,t.O⟩,b1.alloc b1.size _⟩
def wI{l:List Int}(h:0<l.length):l.getLast? = Z (l.getD (l.length-1) 0):=by
 rw[List.getLast?_eq_getElem?,bE,ay z];rfl
def pT(A:Option Addr)(c:Nat)(xs:List Int):Value:=match M.sS xs with
 |some k=>aB #[ae A k.length c,ai true]
 |none=>aB #[ae I 0 0,ai false]
def IV(A:Option Addr)(n c:Nat)(xs:List Int)(w:aw)(h:TB w A n xs)(hm:n<=100000)(q:n<=c) :
  aF af 54 #[ae A n c] w λe w'=>e=av (pT A c xs)/\w'=w:=by
 have f:=h.len;by_cases r:n=0
 ·have p:xs=[]:=cU.1 z;have he:pT A c xs=aB #[ae I 0 0,ai false]:=by rw[p];rfl
  have g:=au he;subst r;clear he f h p;go_enter func54,ntmps54;go_wp2_with fail;refine ax (v:=aB #[ae I 0 0,ai false]) (by simp[aV,results54,go_sem]) rfl ⟨by rw[g.O],rfl⟩
 ·have s:((n:Int)==0)=false:=dZ;obtain⟨b,off,rfl,C,j⟩:=h.cell z;have t:=j (n-1) z;have hy:=h.wA _ (nQ (l:=xs) (k:=n-1) z);have a:=wI (l:=xs) z;rw[f]at a;generalize xs.getD (n-1) 0=y at t hy a;have d:M.sS xs=if y=0\/(xs.length:Int)<y then I else Z (xs.take (xs.length-y.toNat)):=by unfold M.sS;rw[a]
  rw[f]at d;have u:((n:Int)-1).toNat=n-1:=z;by_cases m:y=0
  ·have he:pT (Z ⟨b,off,I⟩) c xs=aB #[ae I 0 0,ai false]:=by unfold pT;rw[d,if_pos (.inl m)]
   have g:=au he;subst m;clear he d a f j h;go_enter func54,ntmps54;go_wp2_with fail;refine ax (v:=aB #[ae I 0 0,ai false]) (by simp[aV,results54,go_sem]) rfl ⟨by rw[g.O],rfl⟩
  ·have x:(y==0)=false:=by simpa using m
   by_cases B:(n:Int)<y
   ·have he:pT (Z ⟨b,off,I⟩) c xs=aB #[ae I 0 0,ai false]:=by unfold pT;rw[d,if_pos (.inr B)]
    have g:=au he;clear he d a f j h;go_enter func54,ntmps54;go_wp2_with fail;refine ax (v:=aB #[ae I 0 0,ai false]) (by simp[aV,results54,go_sem]) rfl ⟨by rw[g.O],rfl⟩
   ·obtain⟨i,rfl⟩:∃i:Nat,y=i:=⟨y.toNat,z⟩;have he:pT (Z ⟨b,off,I⟩) c xs=aB #[ae (Z ⟨b,off,I⟩) (n-i) c,ai true]:=by
     unfold pT;rw[d,if_neg z];simp only[Int.toNat_natCast,List.length_take,f];rw[Nat.min_eq_left z]
    have g:=au he;have o:(n:Int)-(i:Int)=((n-i:Nat):Int):=z;clear he d a f j h;go_enter func54,ntmps54;go_wp2_with fail;refine ax (v:=aB #[ae (Z ⟨b,off,I⟩) (n-i) c,ai true]) (by simp[aV,results54,go_sem]) rfl ⟨by rw[g.O],rfl⟩
def ED(xs:List Int)(h:2<=xs.length):M.control xs=(decide (192<=xs.getD 1 0)&&decide (xs.getD 1 0<=223)):=by simp[M.control,h]
def EE(A:Option Addr)(n c:Nat)(xs:List Int)(w:aw)(h:TB w A n xs) :
  aF af 121 #[ae A n c] w λe w'=>e=av (ai (M.control xs))/\∃j,w'=w.drewN j:=by
 have d:=h.len;by_cases i:2<=n
 ·obtain⟨b,off,rfl,m,f⟩:=h.cell z;have g:=f 1 z;have hu:=ED xs z;have hy:=h.wA _ (nQ (l:=xs) (k:=1) z);generalize xs.getD 1 0=y at g hu hy;by_cases h1:192<=y
  ·by_cases h2:y<=223
   ·have hr:M.control xs=true:=by rw[hu];simp[h1,h2]
    have a:=au hr;clear hr hu d f h;go_enter func121,ntmps121;go_wp2_with fail;go_ret;exact⟨by rw[a.O];rfl,0,rfl⟩
   ·have hr:M.control xs=false:=by rw[hu];simp;omega
    have a:=au hr;clear hr hu d f h;go_enter func121,ntmps121;go_wp2_with fail;go_ret;exact⟨by rw[a.O];rfl,0,rfl⟩
  ·have hr:M.control xs=false:=by rw[hu];simp;omega
   have a:=au hr;clear hr hu d f h;go_enter func121,ntmps121;go_wp2_with fail;go_ret;exact⟨by rw[a.O];rfl,0,rfl⟩
 ·have hr:M.control xs=false:=by simp[M.control];omega
  have a:=au hr;clear hr d h;go_enter func121,ntmps121;go_wp2_with fail;go_ret;exact⟨by rw[a.O];rfl,0,rfl⟩
structure Sl where
 a:Option Addr
 n:Nat
 c:Nat
def Sl.nil:Sl:=⟨I,0,0⟩
structure Sl.At(t:TypeId)(k:jC)(w:aw)(s:Sl)(xs:List Int):Prop where
 tl:TL t k w s.a s.n xs
 le:s.n<=s.c
 max:s.c<=maxLen
 zero:s.a=I->s.c=0
abbrev Sl.B:=Sl.At 5 bI
abbrev Sl.U:=Sl.At 41 ar
def Sl.At.map{t:TypeId}{k:jC}{w w':aw}{s:Sl}{xs:List Int}(h:s.At t k w xs)(f:TL t k w s.a s.n xs->TL t k w' s.a s.n xs):s.At t k w' xs:=⟨f h.tl,h.le,h.max,h.zero⟩
def Sl.vG{t:TypeId}{k:jC}{w:aw}:Sl.nil.At t k w []:=⟨TL.empty,aj _,by simp[Sl.nil],λ_=>rfl⟩
def Sl.At.below{t:TypeId}{k:jC}{w w':aw}{s:Sl}{xs:List Int}(h:s.At t k w xs)(b:aC w w'):s.At t k w' xs:=h.map λq=>q.below b
def Sl.At.typed{t:TypeId}{k:jC}{w w':aw}{s:Sl}{xs:List Int}{F:Nat->Prop}{ts:List TypeId}(h:s.At t k w xs)(u:cS F w w')(T:Typed w F ts)(ht:t∉ts):s.At t k w' xs:=h.map λq=>q.typed u T ht
abbrev uA(p:M.cR)(s e y:Sl):Array Value:=#[ai p.dR,J bI p.type,J aN p.dQ,J ar p.aU,J ar p.bJ,ae s.a s.n s.c,ai p.has,J aN p.bV,ae e.a e.n e.c,ae y.a y.n y.c]
abbrev Pq(p:M.cR)(s e y:Sl):Value:=cg (uA p s e y)
structure iT(w:aw)(p:M.cR)(s e y:Sl):Prop where
 s:s.U w p.aQ
 e:e.B w p.fp
 y:y.B w p.cF
 type:0<=p.type/\p.type<=255
 dQ:0<=p.dQ/\p.dQ<=65535
 aU:0<=p.aU/\p.aU<=4294967295
 bJ:0<=p.bJ/\p.bJ<=4294967295
 bV:0<=p.bV/\p.bV<=65535
 small:p.aQ.length<=400/\p.fp.length<=400/\p.cF.length<=400
def iT.map{w w':aw}{p:M.cR}{s e y:Sl}(h:iT w p s e y)(f:s.U w p.aQ->s.U w' p.aQ)(g:∀{x:Sl} {l:List Int},x.B w l->x.B w' l):iT w' p s e y:=
 ⟨f h.s,g h.e,g h.y,h.type,h.dQ,h.aU,h.bJ,h.bV,h.small⟩
def iT.below{w w':aw}{p:M.cR}{s e y:Sl}(h:iT w p s e y)(b:aC w w'):iT w' p s e y:=h.map (·.below b) (·.below b)
def vX(p:M.cR)(s e y:Sl)(w:aw)(h:iT w p s e y) :
  aF af 237 #[Pq p s e y] w λf w'=>f=av (J V p.size)/\w'=w.alloc (.cells (uA p s e y) 76):=by
 have l1:=h.s.tl.len;have l2:=h.e.tl.len;have l3:=h.y.tl.len;obtain⟨b,c,d⟩:=h.small;clear h;cases hh:p.has
 ·have a:(p.size:Int)=12+4*(s.n:Int)+(y.n:Int):=by unfold M.cR.size;rw[hh];simp only[Bool.false_eq_true,if_false];omega
  have HS:=au a;have g:=hh;have b1:(s.n:Int)<=400:=z;have b3:(y.n:Int)<=400:=z;clear a l1 l2 l3 b c d;go_enter func237,ntmps237;go_wp2_with fail;go_ret;exact⟨by rw[HS.O];rfl,by simp[hh]⟩
 ·have a:(p.size:Int)=12+4*(s.n:Int)+(y.n:Int)+(4+(e.n:Int)):=by unfold M.cR.size;rw[hh];simp only[if_true];omega
  have HS:=au a;have b1:(s.n:Int)<=400:=z;have b2:(e.n:Int)<=400:=z;have b3:(y.n:Int)<=400:=z;clear a l1 l2 l3 b c d;go_enter func237,ntmps237;go_wp2_with fail;go_ret;exact⟨by rw[HS.O];rfl,by simp[hh]⟩
def xj(p:M.cR)(s e y:Sl)(w:aw)(h:iT w p s e y) :
  aF af 186 #[Pq p s e y] w λd w'=>d=av (ai p.right)/\aC w w':=by
 have l1:=h.s.tl.len;have l2:=h.e.tl.len;have l3:=h.y.tl.len;obtain⟨dR,type,dQ,aU,bJ,aQ,has,bV,fp,cF⟩:=p;simp only at l1 l2 l3;by_cases h1:127<type
 ·have m1:127<type:=h1;have hr:M.cR.right ⟨dR,type,dQ,aU,bJ,aQ,has,bV,fp,cF⟩=false:=by simp[M.cR.right,m1]
  have a:=au hr;clear hr l1 l2 l3;go_enter func186,ntmps186;go_wp2_with fail;go_ret;exact⟨by rw[a.O];rfl,(ao _ _).alloc (aj _) _⟩
 have m1:¬127<type:=h1;by_cases h2:15<s.n
 ·have m2:15<aQ.length:=z;have hr:M.cR.right ⟨dR,type,dQ,aU,bJ,aQ,has,bV,fp,cF⟩=false:=by simp[M.cR.right,m1,m2]
  have a:=au hr;clear hr l1 l2 l3;go_enter func186,ntmps186;go_wp2_with fail;go_ret;exact⟨by rw[a.O];rfl,(ao _ _).alloc (aj _) _⟩
 have m2:¬15<aQ.length:=z;cases has
 ·by_cases h3:bV=0
  ·subst h3;by_cases i:0<e.n
   ·have m3:0<fp.length:=z;have hr:M.cR.right ⟨dR,type,dQ,aU,bJ,aQ,false,0,fp,cF⟩=false:=by simp[M.cR.right,m1,m2,m3]
    have a:=au hr;clear hr l1 l2 l3;go_enter func186,ntmps186;go_wp2_with fail;go_ret;exact⟨by rw[a.O];rfl,(ao _ _).alloc (aj _) _⟩
   ·have g:fp=[]:=cU.1 z;subst g;have h4:e.n % 4=0:=by simp at l2;omega
    have f:(e.n:Int) % 4=0:=z;by_cases h5:(M.cR.size ⟨dR,type,dQ,aU,bJ,aQ,false,0,[],cF⟩)<=200
    ·have b:((M.cR.size ⟨dR,type,dQ,aU,bJ,aQ,false,0,[],cF⟩):Int)<=200:=z;have hr:M.cR.right ⟨dR,type,dQ,aU,bJ,aQ,false,0,[],cF⟩=true:=by simp[M.cR.right,m1,m2,h5]
     have a:=au hr;clear hr l1 l2 l3;have c:=au h;clear h;go_enter func186,ntmps186;go_wp2_with fail;refine(vX ⟨dR,type,dQ,aU,bJ,aQ,false,0,[],cF⟩ s e y _ (c.O.below ((ao w.heap.size w).alloc (aj _) _))).mono ?_;rintro d w1 ⟨rfl,rfl⟩;go_wp2_with fail;go_ret;exact⟨by rw[a.O];first|rfl|(simp;omega),((ao _ _).alloc (aj _) _).alloc dt _⟩
    ·have b:¬((M.cR.size ⟨dR,type,dQ,aU,bJ,aQ,false,0,[],cF⟩):Int)<=200:=z;have hr:M.cR.right ⟨dR,type,dQ,aU,bJ,aQ,false,0,[],cF⟩=false:=by simp[M.cR.right,m1,m2,h5]
     have a:=au hr;clear hr l1 l2 l3;have c:=au h;clear h;go_enter func186,ntmps186;go_wp2_with fail;refine(vX ⟨dR,type,dQ,aU,bJ,aQ,false,0,[],cF⟩ s e y _ (c.O.below ((ao w.heap.size w).alloc (aj _) _))).mono ?_;rintro d w1 ⟨rfl,rfl⟩;go_wp2_with fail;go_ret;exact⟨by rw[a.O];first|rfl|(simp;omega),((ao _ _).alloc (aj _) _).alloc dt _⟩
  ·have j:(bV !=0)=true:=by simpa using h3
   have hr:M.cR.right ⟨dR,type,dQ,aU,bJ,aQ,false,bV,fp,cF⟩=false:=by simp[M.cR.right,m1,m2,h3]
   have a:=au hr;clear hr l1 l2 l3;go_enter func186,ntmps186;go_wp2_with fail;go_ret;exact⟨by rw[a.O];rfl,(ao _ _).alloc (aj _) _⟩
 ·by_cases h4:e.n % 4=0
  ·have f:(e.n:Int) % 4=0:=z;have m4:fp.length % 4=0:=z;by_cases h5:(M.cR.size ⟨dR,type,dQ,aU,bJ,aQ,true,bV,fp,cF⟩)<=200
   ·have b:((M.cR.size ⟨dR,type,dQ,aU,bJ,aQ,true,bV,fp,cF⟩):Int)<=200:=z;have hr:M.cR.right ⟨dR,type,dQ,aU,bJ,aQ,true,bV,fp,cF⟩=true:=by simp[M.cR.right,m1,m1,m2,m4,h5]
    have a:=au hr;clear hr l1 l2 l3;have c:=au h;clear h;go_enter func186,ntmps186;go_wp2_with fail;refine(vX ⟨dR,type,dQ,aU,bJ,aQ,true,bV,fp,cF⟩ s e y _ (c.O.below ((ao w.heap.size w).alloc (aj _) _))).mono ?_;rintro d w1 ⟨rfl,rfl⟩;go_wp2_with fail;go_ret;exact⟨by rw[a.O];first|rfl|(simp;omega),((ao _ _).alloc (aj _) _).alloc dt _⟩
   ·have b:¬((M.cR.size ⟨dR,type,dQ,aU,bJ,aQ,true,bV,fp,cF⟩):Int)<=200:=z;have hr:M.cR.right ⟨dR,type,dQ,aU,bJ,aQ,true,bV,fp,cF⟩=false:=by simp[M.cR.right,m1,m1,m2,m4,h5]
    have a:=au hr;clear hr l1 l2 l3;have c:=au h;clear h;go_enter func186,ntmps186;go_wp2_with fail;refine(vX ⟨dR,type,dQ,aU,bJ,aQ,true,bV,fp,cF⟩ s e y _ (c.O.below ((ao w.heap.size w).alloc (aj _) _))).mono ?_;rintro d w1 ⟨rfl,rfl⟩;go_wp2_with fail;go_ret;exact⟨by rw[a.O];first|rfl|(simp;omega),((ao _ _).alloc (aj _) _).alloc dt _⟩
  ·have f:((e.n:Int) % 4==0)=false:=dZ;have m4:¬fp.length % 4=0:=z;have hr:M.cR.right ⟨dR,type,dQ,aU,bJ,aQ,true,bV,fp,cF⟩=false:=by simp[M.cR.right,m1,m1,m2,m4]
   have a:=au hr;clear hr l1 l2 l3;go_enter func186,ntmps186;go_wp2_with fail;go_ret;exact⟨by rw[a.O];rfl,(ao _ _).alloc (aj _) _⟩
def cV:∀(k:Nat) (n:Int),(M.bK k n).length=k
 |0,_=>rfl
 |k+1,n=>by simp[M.bK,cV k]
def vL:∀(s:Nat) (n:Int) (j:Nat),j<s->(M.bK s n)[s-1-j]? = Z (n / 256 ^ j % 256)
 |0,_,_,h=>absurd h z
 |s+1,n,0,_=>by
  rw[M.bK,List.getElem?_append_right (by rw[cV];omega),cV];simp
 |s+1,n,j+1,h=>by
  rw[M.bK,List.getElem?_append_left (by rw[cV];omega),show s+1-1-(j+1)=s-1-j from z,vL s (n / 256) j z,Int.pow_succ,Int.mul_comm,Int.ediv_ediv_of_nonneg z]
def Kj(s:Nat)(n:Int):∀x∈M.bK s n,(dU bI x).wf=true:=by
 intro x a;obtain⟨i,hi,rfl⟩:=List.getElem_of_mem a;rw[cV]at hi;have:=vL s n (s-1-i) z;rw[show s-1-(s-1-i)=i from z,ay (by rw[cV];omega)]at this;injection this with e
 rw[e];exact WalkArith.wf_u8 z
def BJ(n:Int)(s:Nat)(w:aw)(h0:0<=n)(h1:n<=4294967295)(K:1<=s/\s<=4) :
  aF af 306 #[J .u64 n,J V s] w λe w'=>(∃g,e=av (ae (Z ⟨g,0,I⟩) s s)/\TB w' (Z ⟨g,0,I⟩) s (M.bK s n)/\w.heap.size<=g)/\aC w w':=by
 obtain⟨i0,hi,h,l,m⟩:=cY Tryz.zL;obtain⟨L,y,A,B⟩:=cA hi h l m;clear hi h l m;obtain⟨s1,s4⟩:=K;go_enter func306,ntmps306;go_wp2_with (at_make;go_loud (refine wpList_make_full _ rfl _ _ 38 rfl w.heap.size 5 i0 (J bI 0) 1 underlying38 L.O y.O A.O _ _ _ _ s rfl rfl rfl rfl ?b2 ?b3 ?b4 ?_));case b2=>rw[B.O];omega
 case b3=>unfold maxLen;omega
 case b4=>exact aj _
 intro w1 rO g1;have c:∃cs,aK w1 w.heap.size 5 cs/\cs.size=s:=by
  rcases rO.2 with⟨e,_⟩ | ⟨g,cap,dx,e,_,hh,_,_,N,_⟩
  ·cases e
  ·simp only[jl,bf,Addr.mk.injEq]at e;obtain⟨⟨rfl,_⟩,_,rfl⟩:=e;exact⟨dx,hh,z⟩
 have d:aC w w1:=(ao _ w).grown g1 (aj _) (λj f=>by cases f);clear rO g1;obtain⟨C,o,p⟩:=c;go_wp2_with fail;go_loopw [16] (λi wr=>∃(k:Nat) (cs:Array Value),i=J V k/\k<=s/\aK wr w.heap.size 5 cs/\cs.size=s/\(∀j,j<k->cs[s-1-j]? = Z (J bI (n / 256 ^ j % 256)))/\aC w wr) (λi _=>s-(bS i).toNat);case atStart=>exact⟨0,C,rfl,z,o,p,λj f=>absurd f z,d⟩
 case round =>
  clear o p d;obtain⟨k,cs,rfl,S,c,q,r,d⟩:=hrel;by_cases P:k<s
  ·have t:=au c;have u:∃v,aK wr w.heap.size 5 cs/\wr.cell? ⟨w.heap.size,s-1-k,I⟩=Z v:=⟨cs[s-1-k]'(z),c,by rw[c.cell,Array.getElem?_eq_getElem z]⟩;obtain⟨v0,_,u⟩:=u;have f0:=c.frozen (s-1-k);have Q:((s:Int)-1-(k:Int)).toNat=s-1-k:=z;have E:0<=(s:Int)-1-(k:Int):=z;obtain⟨x,a⟩:=bu r q;clear r q c;have h4:k=0\/k=1\/k=2\/k=3:=z;rcases h4 with rfl|rfl|rfl|rfl
   ·simp only[Nat.sub_zero]at u f0;go_wp2_with fail;go_roundw;case rel =>
     refine⟨1,_,by go_num,z,t.O.bC (s-1-0) _,by rw[dh];exact a.O,λj f=>?_,d.setCell (aj _) _⟩;by_cases b:j=0
     ·subst b;rw[fV (lE a.O)];all_goals (first|rfl|(simp;done)|go_num)
     ·rw[gi z];exact x.O j z
    case measure=>simp[bS];omega
   ·go_wp2_with fail;go_roundw;case rel =>
     refine⟨2,_,by go_num,z,t.O.bC (s-1-1) _,by rw[dh];exact a.O,λj f=>?_,d.setCell (aj _) _⟩;by_cases b:j=1
     ·subst b;rw[fV (lE a.O)];all_goals (first|rfl|(simp;done)|go_num)
     ·rw[gi z];exact x.O j z
    case measure=>simp[bS];omega
   ·go_wp2_with fail;go_roundw;case rel =>
     refine⟨3,_,by go_num,z,t.O.bC (s-1-2) _,by rw[dh];exact a.O,λj f=>?_,d.setCell (aj _) _⟩;by_cases b:j=2
     ·subst b;rw[fV (lE a.O)];all_goals (first|rfl|(simp;done)|go_num)
     ·rw[gi z];exact x.O j z
    case measure=>simp[bS];omega
   ·obtain rfl:s=4:=z;simp at u f0;go_wp2_with fail;go_roundw;case rel =>
     refine⟨4,_,by go_num,z,t.O.bC (4-1-3) _,by rw[dh];exact a.O,λj f=>?_,d.setCell (aj _) _⟩;by_cases b:j=3
     ·subst b;rw[fV (lE a.O)];all_goals (first|rfl|(simp;done)|go_num)
     ·rw[gi z];exact x.O j z
    case measure=>simp[bS]
  ·have D:k=s:=z;subst D;have F:TB wr (Z ⟨w.heap.size,0,I⟩) k (M.bK k n):=by
    refine⟨cV k n,Kj k n,λ_=>⟨w.heap.size,0,cs,rfl,c,λi hi=>?_⟩⟩;have G:=r (k-1-i) z;have H:=vL k n (k-1-i) z;rw[show k-1-(k-1-i)=i from by omega]at G H;rw[Nat.zero_add,G,bE,H];rfl
   have R:=au F;clear F r c;go_wp2_with fail;go_ret;exact⟨⟨_,rfl,R.O,aj _⟩,d⟩
def lM(w:aw)(B g:Nat)(xs:List Int):Prop:=B<=g/\∃v,aK w g 408 #[v]/\w.ownsRow B 5 1 v xs.length (xs.map (J bI))/\∀x∈xs,(dU bI x).wf=true
def lM.lt{w:aw}{B g:Nat}{xs:List Int}(h:lM w B g xs):g<w.heap.size:=by obtain⟨_,v,a,_⟩:=h;exact a.lt
def kJ{w:aw}{base:Nat}{e:TypeId}{size n:Nat}{v:Value}{xs:List Value}(h:w.ownsRow base e size v n xs){g:Nat}(a:Z g≠v.ownBlock)(i:Nat)(u:Value):(w.setCell ⟨g,i,I⟩ u).ownsRow base e size v n xs:=
 h.kept (row:=Z g) ⟨rfl,rfl,rfl,dt,λk _ b=>Below.heap_setCell _ _ _ _ (λe=>b (congrArg Z e))⟩ (.inr (λq=>a q.symm))
def qN(g B:Nat)(xs o:List Int)(A:Option Addr)(n c:Nat)(w:aw)(h:lM w B g xs)(ht:TB w A n o)(E:A=I->c=0)(U:xs.length<=1000000)(hn:n<=1000000) :
  aF af 243 #[aq (Z ⟨g,0,I⟩),ae A n c] w λe w'=>e=av (aB #[])/\lM w' B g (xs++o)/\iQ B w w':=by
 obtain⟨i0,hi,r,s,t⟩:=cY Tryz.zL;obtain⟨W,F,G,H⟩:=cA hi r s t;clear hi r s t;obtain⟨f,v,i,own,hw⟩:=h;have D:=ht.len;have X:=i.cell 0;have f0:=i.frozen 0;simp at X;have sz:B<=w.heap.size:=aP f (lN i.lt);have u:∀x∈xs++o,(dU bI x).wf=true:=λx U=>by
  rcases bt.1 U with q|q
  ·exact hw x q
  ·exact ht.wf x q
 obtain⟨Y,HL⟩:=bu u D;clear u hw;cases A with
 |none =>
  have K:n=0:=by
   rcases iV n with q|q
   ·exact q
   ·obtain⟨b,off,e,_⟩:=ht.cell q;cases e
  have L:=E rfl;subst K;subst L;have hy:o=[]:=cU.1 D;subst hy;obtain⟨p,c1,rfl⟩:=bA own;have m:Z g≠(ae p xs.length c1).ownBlock:=ej own i aR;have ky:=kJ own m 0 (ae p xs.length c1);have B2:=i.bC 0 (ae p xs.length c1);obtain⟨M,HO,N⟩:=bU B2 ky own;clear i B2 ky own ht E D;go_enter func243,ntmps243;go_wp2_with (at_builtin;go_loud (refine wpList_append_own_none rfl _ _ 38 rfl B 5 i0 1 underlying38 W.O _ _ _ rfl N.O rfl ?_));first|refine dq (bT results243 _ _ _) rfl ?_|refine ax (bT results243 _ _ _) rfl ?_
  refine⟨rfl,⟨f,ae p xs.length c1,?_,?_,Y.O⟩,(ao _ _).setCell f _⟩
  ·simpa using M.O
  ·simpa using HO.O
 |some a =>
  have NW:=au ht.iX;obtain⟨p,c1,rfl⟩:=bA own;have m:Z g≠(ae p xs.length c1).ownBlock:=ej own i aR;clear ht E D;have M:=au i;clear i;go_enter func243,ntmps243;go_wp2_with (at_builtin;go_loud (refine dM _ rfl _ _ 38 rfl B 5 i0 (J bI 0) 1 1 underlying38 W.O F.O G.O H.O rfl aR _ _ _ rfl own a n c (o.map (J bI)) rfl (by simp[HL.O]) NW.O uQ ?c3 ?c4 ?c5 ?_));case c3=>unfold maxLen;omega
  case c4=>omega
  case c5=>omega
  intro v5 w5 k g5 _;have y:=M.O.grown g5 m;have P:iQ B w w5:=(ao _ _).grown g5 sz (λj hj=>(own.lt j hj).1);have d:w5.ownsRow B 5 1 v5 (xs.length+n) ((xs++o).map (J bI)):=by
   rw[List.map_append];exact k
  have c5:=y.cell 0;have f5:=y.frozen 0;simp at c5;obtain⟨Q,R,rfl⟩:=bA d;have C:=ej d y aR;have B6:=y.bC 0 (ae Q (xs.length+n) R);have l:=kJ d C 0 (ae Q (xs.length+n) R);obtain⟨S,T⟩:=bu B6 l;clear own k g5 y B6 X f0 d l C;go_wp2_with fail;first|refine dq (bT results243 _ _ _) rfl ?_|refine ax (bT results243 _ _ _) rfl ?_
  exact⟨rfl,⟨f,ae Q (xs.length+n) R,by simpa using S.O,by rw[cG,HL.O];exact T.O,Y.O⟩,P.setCell f _⟩
def lM.below{w w':aw}{B g:Nat}{xs:List Int}(h:lM w B g xs)(b:aC w w'):lM w' B g xs:=by
 obtain⟨h1,v,a,own,hw⟩:=h;exact⟨h1,v,a.kept b,own.kept (row:=I) ⟨b.os,b.tape,b.output,b.size,λi hi _=>b.block i hi⟩ (Classical.em _),hw⟩
def uk(g B:Nat)(xs:List Int)(n:Int)(s:Nat)(w:aw)(h:lM w B g xs)(m:xs.length<=900000)(h0:0<=n)(h1:n<=4294967295)(i:1<=s/\s<=4) :
  aF af 278 #[aq (Z ⟨g,0,I⟩),J ar n,J V s] w λe w'=>e=av (aB #[])/\lM w' B g (xs++M.bK s n)/\iQ B w w':=by
 have c:=au h;have j:B<=w.heap.size:=aP h.1 (lN h.lt);clear h;go_enter func278,ntmps278;go_wp2_with fail;refine(BJ n s w h0 h1 i).mono ?_;rintro e w1 ⟨⟨g1,rfl,d,k⟩,b1⟩;obtain⟨a,l⟩:=bu (c.O.below b1) d;clear d c;go_wp2_with fail;refine(qN g B xs (M.bK s n) _ s s w1 a.O l.O (λe=>by cases e) z z).mono ?_;rintro e w2 ⟨rfl,f,b2⟩;have b:=au f;clear f;go_wp2_with fail;first|refine dq (bT results278 _ _ _) rfl ?_|refine ax (bT results278 _ _ _) rfl ?_
 exact⟨rfl,b.O,(b1.mono j).trans b2⟩
def nK(g B:Nat)(xs:List Int)(n:Int)(w:aw)(h:lM w B g xs)(c:xs.length<=900000)(h0:0<=n/\n<=255) :
  aF af 240 #[aq (Z ⟨g,0,I⟩),J bI n] w λe w'=>e=av (aB #[])/\lM w' B g (xs++M.bK 1 n)/\iQ B w w':=by
 have d:=au h;clear h;obtain⟨h0,h1⟩:=h0;go_enter func240,ntmps240;go_wp2_with fail;refine(uk g B xs n 1 w d.O c h0 z z).mono ?_;rintro e w1 ⟨rfl,b,b1⟩;have a:=au b;clear b;go_wp2_with fail;first|refine dq (bT results240 _ _ _) rfl ?_|refine ax (bT results240 _ _ _) rfl ?_
 exact⟨rfl,a.O,b1⟩
def mw(g B:Nat)(xs:List Int)(n:Int)(w:aw)(h:lM w B g xs)(c:xs.length<=900000)(h0:0<=n/\n<=65535) :
  aF af 241 #[aq (Z ⟨g,0,I⟩),J aN n] w λe w'=>e=av (aB #[])/\lM w' B g (xs++M.bK 2 n)/\iQ B w w':=by
 have d:=au h;clear h;obtain⟨h0,h1⟩:=h0;go_enter func241,ntmps241;go_wp2_with fail;refine(uk g B xs n 2 w d.O c h0 z z).mono ?_;rintro e w1 ⟨rfl,b,b1⟩;have a:=au b;clear b;go_wp2_with fail;first|refine dq (bT results241 _ _ _) rfl ?_|refine ax (bT results241 _ _ _) rfl ?_
 exact⟨rfl,a.O,b1⟩
def kH(g B:Nat)(xs:List Int)(n:Int)(w:aw)(h:lM w B g xs)(c:xs.length<=900000)(h0:0<=n/\n<=4294967295) :
  aF af 242 #[aq (Z ⟨g,0,I⟩),J ar n] w λe w'=>e=av (aB #[])/\lM w' B g (xs++M.bK 4 n)/\iQ B w w':=by
 have d:=au h;clear h;obtain⟨h0,h1⟩:=h0;go_enter func242,ntmps242;go_wp2_with fail;refine(uk g B xs n 4 w d.O c h0 z z).mono ?_;rintro e w1 ⟨rfl,b,b1⟩;have a:=au b;clear b;go_wp2_with fail;first|refine dq (bT results242 _ _ _) rfl ?_|refine ax (bT results242 _ _ _) rfl ?_
 exact⟨rfl,a.O,b1⟩
def oX(g B:Nat)(xs:List Int)(w:aw)(h:lM w B g xs)(j:xs.length<=100000) :
  aF af 244 #[aq (Z ⟨g,0,I⟩)] w λe w'=>(∃A c,e=av (ae A xs.length c)/\TB w' A xs.length xs/\xs.length<=c/\c<=maxLen/\(A=I->c=0))/\aC w w':=by
 obtain⟨k,v,b,own,hw⟩:=h;obtain⟨l,c1,rfl⟩:=bA own;have m:=b.cell 0;simp at m;have n:=wo own;obtain⟨s,c2,d,t,u,f⟩:=TL.own own hw;simp only[jl]at d;obtain⟨rfl,_,rfl⟩:=d;have o:=au f;clear own f hw b;go_enter func244,ntmps244;go_wp2_with fail;refine(mC l xs.length c1 xs w o.O j n).mono ?_;rintro e w1 ⟨⟨p,q,rfl,i,r1,r2,r⟩,b1⟩;have a:=au i;clear i;go_wp2_with fail;go_ret;exact⟨⟨p,q,rfl,a.O,r1,r2,r⟩,b1⟩
def DD{p:M.cR}(h:p.right=true):p.type<=127/\p.aQ.length<=15/\(p.has=false->p.bV=0/\p.fp=[])/\p.fp.length % 4=0/\p.size<=200:=by
 simp only[M.cR.right,Bool.and_eq_true,Bool.not_eq_true',Bool.or_eq_false_iff,decide_eq_false_iff_not,decide_eq_true_eq,beq_iff_eq,Bool.and_eq_false_iff,Bool.not_eq_false',bne_eq_false_iff_eq]at h;obtain⟨⟨⟨h1,h2⟩,h3⟩,h4,h5⟩:=h;refine⟨z,z,λhh=>?_,h4,h5⟩;rcases h3 with h3|h3
 ·rw[hh]at h3;cases h3
 ·exact⟨h3.1,cU.1 z⟩
def wQ{B:Nat}{a w:aw}(h:iQ B a w):iQ B a w.drew:=⟨h.os,h.tape,h.output,h.size,h.block⟩
def wZ(w:aw):lM ((w.alloc (.cells #[ae I 0 0] 408)).drew) w.heap.size w.heap.size []:=
 ⟨aj _,ae I 0 0,(aK.new w 408 #[ae I 0 0]).drew,⟨rfl,.inl ⟨rfl,rfl⟩⟩,λx a=>absurd a dt⟩
def mR:∀l:List Int,(l.flatMap (M.bK 4)).length=l.length*4
 |[]=>rfl
 |x::r=>by simp[List.flatMap_cons,cV,mR r];omega
def vw(p:M.cR)(s e y:Sl)(w:aw)(h:iT w p s e y) :
  aF af 193 #[Pq p s e y] w λf w'=>(∃sl:Sl,f=av (aB #[ae sl.a sl.n sl.c,J V (M.ic p).2])/\sl.B w' (M.ic p).1)/\aC w w':=by
 have hs:=h.s.tl.len;have he:=h.e.tl.len;have hy:=h.y.tl.len;obtain⟨dR,type,dQ,aU,bJ,aQ,has,bV,fp,cF⟩:=p;simp only at hs he hy;have HP:=au h;have To:aC w (w.alloc (.cells (uA ⟨dR,type,dQ,aU,bJ,aQ,has,bV,fp,cF⟩ s e y) 76)):=(ao _ w).alloc (aj _) _;have B1:=aK.new w 76 (uA ⟨dR,type,dQ,aU,bJ,aQ,has,bV,fp,cF⟩ s e y);have t1:=h.type;have t2:=h.dQ;have t3:=h.aU;have t4:=h.bJ;have t5:=h.bV;simp only at t1 t2 t3 t4 t5;obtain⟨Tz,TA⟩:=t1;obtain⟨Tw,Tx⟩:=t5;have k4:=h.small;obtain⟨_,Tq,Ts⟩:=k4;simp only at Tq Ts;rw[he]at Tq;rw[hy]at Ts;clear h;go_enter func193,ntmps193;go_wp2_with fail;refine(xj _ s e y _ (HP.O.below To)).mono ?_;rintro f w2 ⟨rfl,b2⟩;have F:=B1.kept b2;have Tk:=sh To b2;have q:=au ((HP.O.below To).below b2);clear B1 To b2 HP;cases hr:M.cR.right ⟨dR,type,dQ,aU,bJ,aQ,has,bV,fp,cF⟩
 ·have hb:M.ic ⟨dR,type,dQ,aU,bJ,aQ,has,bV,fp,cF⟩=([],1):=by unfold M.ic;rw[hr];rfl
  have HB:=au hb;clear hb hr;go_wp2_with fail;refine ax (v:=aB #[ae I 0 0,J V 1]) (by simp[aV,results193,go_sem]) rfl ?_;rw[HB.O];exact⟨⟨Sl.nil,rfl,Sl.vG⟩,Tk⟩
 ·obtain⟨r1,r2,r3,r4,r5⟩:=DD hr;simp only at r1 r2 r3 r4;have hb:M.ic ⟨dR,type,dQ,aU,bJ,aQ,has,bV,fp,cF⟩=(M.cR.bytes ⟨dR,type,dQ,aU,bJ,aQ,has,bV,fp,cF⟩,0):=by unfold M.ic;rw[hr];rfl
  obtain⟨HB,TC⟩:=bu hb r3;clear hb hr r3;have Ty:s.n<=15:=z;have f0:=F.cell 0;have f1:=F.cell 1;have f2:=F.cell 2;have f3:=F.cell 3;have f4:=F.cell 4;have f5:=F.cell 5;have f6:=F.cell 6;have f7:=F.cell 7;have f8:=F.cell 8;have f9:=F.cell 9;simp at f0 f1 f2 f3 f4 f5 f6 f7 f8 f9;have TD:V.wrap (128+(s.n:Int))=128+(s.n:Int):=by rw[IntKind.wrap_i64];omega
  have TE:IntKind.u8.wrap (128+(s.n:Int))=128+(s.n:Int):=by rw[IntKind.wrap_u8];omega
  go_wp2_with fail;go_region;obtain⟨Tp,HE,HY⟩:=bU q.O.s.tl q.O.e q.O.y;cases has<;>cases dR
  ·go_wp2_with fail;refine gu (λW=>aK W w.heap.size 76 (uA ⟨false,type,dQ,aU,bJ,aQ,false,bV,fp,cF⟩ s e y)/\lM W w2.heap.size w2.heap.size []/\aC w2 W) ⟨(F.alloc _).drew,wZ w2,wQ ((ao _ _).alloc (aj _) _)⟩ ?_;clear f0 f1 f2 f3 f4 f5 f6 f7 f8 f9;rintro W ⟨C,W0,d⟩;have hg:w.heap.size<w2.heap.size:=F.lt;have HQ:=au (q.O.below d);clear q F;have HW:=au W0;clear W0;refine(nK w2.heap.size w2.heap.size ([]) (128+(s.n:Int)) W HW.O dt z).mono ?_;rintro f v1 ⟨rfl,W1,b1⟩;have H1:=au W1;clear W1 HW;have D1:=b1;clear b1;go_wp2_with fail;refine(nK w2.heap.size w2.heap.size ([]++M.bK 1 (128+(s.n:Int))) type v1 H1.O (by simp[cV]) z).mono ?_;rintro f v2 ⟨rfl,W2,b2⟩;have H2:=au W2;clear W2 H1;have L:=D1.trans b2;clear b2 D1;have f2:=(C.below L hg).cell 2;simp at f2;go_wp2_with fail;refine(mw w2.heap.size w2.heap.size ([]++M.bK 1 (128+(s.n:Int))++M.bK 1 type) dQ v2 H2.O (by simp[cV]) t2).mono ?_;rintro f v3 ⟨rfl,W3,b3⟩;have H3:=au W3;clear W3 H2;have N:=L.trans b3;clear f2;clear b3 L;have f3:=(C.below N hg).cell 3;simp at f3;go_wp2_with fail;refine(kH w2.heap.size w2.heap.size ([]++M.bK 1 (128+(s.n:Int))++M.bK 1 type++M.bK 2 dQ) aU v3 H3.O (by simp[cV]) t3).mono ?_;rintro f v4 ⟨rfl,W4,b4⟩;have H4:=au W4;clear W4 H3;have P:=N.trans b4;clear f3;clear b4 N;have f4:=(C.below P hg).cell 4;simp at f4;go_wp2_with fail;refine(kH w2.heap.size w2.heap.size ([]++M.bK 1 (128+(s.n:Int))++M.bK 1 type++M.bK 2 dQ++M.bK 4 aU) bJ v4 H4.O (by simp[cV]) t4).mono ?_;rintro f v5 ⟨rfl,W5,b5⟩;have Q:=au W5;clear W5 H4;have R:=P.trans b5;clear f4;clear b5 P;have f5:=(C.below R hg).cell 5;simp at f5;go_wp2_with fail;generalize S:[]++M.bK 1 (128+(s.n:Int))++M.bK 1 type++M.bK 2 dQ++M.bK 4 aU++M.bK 4 bJ=G at Q;have r:G.length=12:=by rw[<-S];simp[cV]
   obtain⟨HL,t⟩:=bu S r;clear S r;go_loopw [48] (λi wr=>∃(k:Nat),i=J V k/\k<=s.n/\lM wr w2.heap.size w2.heap.size (G++(aQ.take k).flatMap (M.bK 4))/\iQ w2.heap.size W wr) (λi _=>s.n-(bS i).toNat);case atStart=>exact⟨0,rfl,z,by simpa using Q.O,R⟩
   case round =>
    clear Q R f5;obtain⟨k,rfl,hk,W6,m⟩:=hrel;have u:=au W6;clear W6;have H:TU _ s.a s.n aQ:=(Tp.O.below (d.trans m));by_cases U:k<s.n
    ·obtain⟨b,off,X,Tt,hc⟩:=H.cell z;have e1:=hc k U;have g:=qO (l:=aQ) (k:=k) z;have j:=H.wf _ (nQ (l:=aQ) (k:=k) z);generalize aQ.getD k 0=x at e1 g j;have hz:0<=x/\x<=4294967295:=by simp[pD,jI,jJ,fR,gM]at j;omega
     obtain⟨Y,HA,HZ⟩:=bU g X hz;clear g j hc H hz;rw[X];clear X;go_wp2_with fail;refine(kH w2.heap.size w2.heap.size _ x _ u.O (by have:=t.O;rw[cG,mR];simp;omega) HZ.O).mono ?_;rintro f v6 ⟨rfl,W7,b7⟩;have D7:=m.trans b7;have H7:=au W7;clear W7 b7;go_wp2_with fail;go_roundw;case rel=>exact⟨k+1,by go_num,z,by rw[Y.O,jR,<-dL];simpa using H7.O,D7⟩
     case measure=>simp[bS];omega
    ·have Tf:k=s.n:=z;subst Tf;rw[dC z]at u;have Tg:(G++aQ.flatMap (M.bK 4)).length<=80:=by rw[cG,mR,t.O];omega
     generalize D:G++aQ.flatMap (M.bK 4)=o at u Tg;have Ti:=au D;clear D;have d6:=d.trans m;clear H;have f6:=(C.below m hg).cell 6;simp at f6;have f9:=(C.below m hg).cell 9;simp at f9;go_wp2_with fail;refine(qN w2.heap.size w2.heap.size (o) cF y.a y.n y.c _ u.O (HY.O.tl.below (d.trans m)) HY.O.zero z z).mono ?_;rintro f x1 ⟨rfl,X1,c1⟩;have E1:=m.trans c1;have K:=au X1;clear X1 c1 u;clear f9;go_wp2_with fail;refine(oX w2.heap.size w2.heap.size (o++cF) _ K.O (by simp[cV];omega)).mono ?_;rintro f x ⟨⟨A,c,rfl,T,q1,q2,q3⟩,bz⟩;have dz:aC w x:=Tk.trans ((d.trans (E1.trans (bz.mono (by have:=E1.size;have:=d.size;omega)))).mono (lN hg));obtain⟨Y,Tu,Tj⟩:=bU T hy he;clear T hy he;go_wp2_with fail;refine ax (v:=aB #[ae A (o++cF).length c,J V 0]) (by simp[aV,results193,go_sem]) rfl ?_;rw[HB.O];have E:M.cR.bytes ⟨false,type,dQ,aU,bJ,aQ,false,bV,fp,cF⟩=o++cF:=by rw[<-Ti.O,<-HL.O];simp[M.cR.bytes,dL,hs,Tj.O]
     rw[E];exact⟨⟨⟨A,(o++cF).length,c⟩,rfl,⟨Y.O,q1,q2,q3⟩⟩,dz⟩
  ·go_wp2_with fail;refine gu (λW=>aK W w.heap.size 76 (uA ⟨true,type,dQ,aU,bJ,aQ,false,bV,fp,cF⟩ s e y)/\lM W w2.heap.size w2.heap.size []/\aC w2 W) ⟨(F.alloc _).drew,wZ w2,wQ ((ao _ _).alloc (aj _) _)⟩ ?_;clear f0 f1 f2 f3 f4 f5 f6 f7 f8 f9;rintro W ⟨C,W0,d⟩;have hg:w.heap.size<w2.heap.size:=F.lt;have HQ:=au (q.O.below d);clear q F;have HW:=au W0;clear W0;refine(nK w2.heap.size w2.heap.size ([]) (128+(s.n:Int)) W HW.O dt z).mono ?_;rintro f v1 ⟨rfl,W1,b1⟩;have H1:=au W1;clear W1 HW;have D1:=b1;clear b1;go_wp2_with fail;refine(nK w2.heap.size w2.heap.size ([]++M.bK 1 (128+(s.n:Int))) (type+128) v1 H1.O (by simp[cV]) z).mono ?_;rintro f v2 ⟨rfl,W2,b2⟩;have H2:=au W2;clear W2 H1;have L:=D1.trans b2;clear b2 D1;have f2:=(C.below L hg).cell 2;simp at f2;go_wp2_with fail;refine(mw w2.heap.size w2.heap.size ([]++M.bK 1 (128+(s.n:Int))++M.bK 1 (type+128)) dQ v2 H2.O (by simp[cV]) t2).mono ?_;rintro f v3 ⟨rfl,W3,b3⟩;have H3:=au W3;clear W3 H2;have N:=L.trans b3;clear f2;clear b3 L;have f3:=(C.below N hg).cell 3;simp at f3;go_wp2_with fail;refine(kH w2.heap.size w2.heap.size ([]++M.bK 1 (128+(s.n:Int))++M.bK 1 (type+128)++M.bK 2 dQ) aU v3 H3.O (by simp[cV]) t3).mono ?_;rintro f v4 ⟨rfl,W4,b4⟩;have H4:=au W4;clear W4 H3;have P:=N.trans b4;clear f3;clear b4 N;have f4:=(C.below P hg).cell 4;simp at f4;go_wp2_with fail;refine(kH w2.heap.size w2.heap.size ([]++M.bK 1 (128+(s.n:Int))++M.bK 1 (type+128)++M.bK 2 dQ++M.bK 4 aU) bJ v4 H4.O (by simp[cV]) t4).mono ?_;rintro f v5 ⟨rfl,W5,b5⟩;have Q:=au W5;clear W5 H4;have R:=P.trans b5;clear f4;clear b5 P;have f5:=(C.below R hg).cell 5;simp at f5;go_wp2_with fail;generalize S:[]++M.bK 1 (128+(s.n:Int))++M.bK 1 (type+128)++M.bK 2 dQ++M.bK 4 aU++M.bK 4 bJ=G at Q;have r:G.length=12:=by rw[<-S];simp[cV]
   obtain⟨HL,t⟩:=bu S r;clear S r;go_loopw [48] (λi wr=>∃(k:Nat),i=J V k/\k<=s.n/\lM wr w2.heap.size w2.heap.size (G++(aQ.take k).flatMap (M.bK 4))/\iQ w2.heap.size W wr) (λi _=>s.n-(bS i).toNat);case atStart=>exact⟨0,rfl,z,by simpa using Q.O,R⟩
   case round =>
    clear Q R f5;obtain⟨k,rfl,hk,W6,m⟩:=hrel;have u:=au W6;clear W6;have H:TU _ s.a s.n aQ:=(Tp.O.below (d.trans m));by_cases U:k<s.n
    ·obtain⟨b,off,X,Tt,hc⟩:=H.cell z;have e1:=hc k U;have g:=qO (l:=aQ) (k:=k) z;have j:=H.wf _ (nQ (l:=aQ) (k:=k) z);generalize aQ.getD k 0=x at e1 g j;have hz:0<=x/\x<=4294967295:=by simp[pD,jI,jJ,fR,gM]at j;omega
     obtain⟨Y,HA,HZ⟩:=bU g X hz;clear g j hc H hz;rw[X];clear X;go_wp2_with fail;refine(kH w2.heap.size w2.heap.size _ x _ u.O (by have:=t.O;rw[cG,mR];simp;omega) HZ.O).mono ?_;rintro f v6 ⟨rfl,W7,b7⟩;have D7:=m.trans b7;have H7:=au W7;clear W7 b7;go_wp2_with fail;go_roundw;case rel=>exact⟨k+1,by go_num,z,by rw[Y.O,jR,<-dL];simpa using H7.O,D7⟩
     case measure=>simp[bS];omega
    ·have Tf:k=s.n:=z;subst Tf;rw[dC z]at u;have Tg:(G++aQ.flatMap (M.bK 4)).length<=80:=by rw[cG,mR,t.O];omega
     generalize D:G++aQ.flatMap (M.bK 4)=o at u Tg;have Ti:=au D;clear D;have d6:=d.trans m;clear H;have f6:=(C.below m hg).cell 6;simp at f6;have f9:=(C.below m hg).cell 9;simp at f9;go_wp2_with fail;refine(qN w2.heap.size w2.heap.size (o) cF y.a y.n y.c _ u.O (HY.O.tl.below (d.trans m)) HY.O.zero z z).mono ?_;rintro f x1 ⟨rfl,X1,c1⟩;have E1:=m.trans c1;have K:=au X1;clear X1 c1 u;clear f9;go_wp2_with fail;refine(oX w2.heap.size w2.heap.size (o++cF) _ K.O (by simp[cV];omega)).mono ?_;rintro f x ⟨⟨A,c,rfl,T,q1,q2,q3⟩,bz⟩;have dz:aC w x:=Tk.trans ((d.trans (E1.trans (bz.mono (by have:=E1.size;have:=d.size;omega)))).mono (lN hg));obtain⟨Y,Tu,Tj⟩:=bU T hy he;clear T hy he;go_wp2_with fail;refine ax (v:=aB #[ae A (o++cF).length c,J V 0]) (by simp[aV,results193,go_sem]) rfl ?_;rw[HB.O];have E:M.cR.bytes ⟨true,type,dQ,aU,bJ,aQ,false,bV,fp,cF⟩=o++cF:=by rw[<-Ti.O,<-HL.O];simp[M.cR.bytes,dL,hs,Tj.O]
     rw[E];exact⟨⟨⟨A,(o++cF).length,c⟩,rfl,⟨Y.O,q1,q2,q3⟩⟩,dz⟩
  ·go_wp2_with fail;refine gu (λW=>aK W w.heap.size 76 (uA ⟨false,type,dQ,aU,bJ,aQ,true,bV,fp,cF⟩ s e y)/\lM W w2.heap.size w2.heap.size []/\aC w2 W) ⟨(F.alloc _).drew,wZ w2,wQ ((ao _ _).alloc (aj _) _)⟩ ?_;clear f0 f1 f2 f3 f4 f5 f6 f7 f8 f9;rintro W ⟨C,W0,d⟩;have hg:w.heap.size<w2.heap.size:=F.lt;have HQ:=au (q.O.below d);clear q F;have HW:=au W0;clear W0;refine(nK w2.heap.size w2.heap.size ([]) (128+(s.n:Int)+16) W HW.O dt z).mono ?_;rintro f v1 ⟨rfl,W1,b1⟩;have H1:=au W1;clear W1 HW;have D1:=b1;clear b1;go_wp2_with fail;refine(nK w2.heap.size w2.heap.size ([]++M.bK 1 (128+(s.n:Int)+16)) type v1 H1.O (by simp[cV]) z).mono ?_;rintro f v2 ⟨rfl,W2,b2⟩;have H2:=au W2;clear W2 H1;have L:=D1.trans b2;clear b2 D1;have f2:=(C.below L hg).cell 2;simp at f2;go_wp2_with fail;refine(mw w2.heap.size w2.heap.size ([]++M.bK 1 (128+(s.n:Int)+16)++M.bK 1 type) dQ v2 H2.O (by simp[cV]) t2).mono ?_;rintro f v3 ⟨rfl,W3,b3⟩;have H3:=au W3;clear W3 H2;have N:=L.trans b3;clear f2;clear b3 L;have f3:=(C.below N hg).cell 3;simp at f3;go_wp2_with fail;refine(kH w2.heap.size w2.heap.size ([]++M.bK 1 (128+(s.n:Int)+16)++M.bK 1 type++M.bK 2 dQ) aU v3 H3.O (by simp[cV]) t3).mono ?_;rintro f v4 ⟨rfl,W4,b4⟩;have H4:=au W4;clear W4 H3;have P:=N.trans b4;clear f3;clear b4 N;have f4:=(C.below P hg).cell 4;simp at f4;go_wp2_with fail;refine(kH w2.heap.size w2.heap.size ([]++M.bK 1 (128+(s.n:Int)+16)++M.bK 1 type++M.bK 2 dQ++M.bK 4 aU) bJ v4 H4.O (by simp[cV]) t4).mono ?_;rintro f v5 ⟨rfl,W5,b5⟩;have Q:=au W5;clear W5 H4;have R:=P.trans b5;clear f4;clear b5 P;have f5:=(C.below R hg).cell 5;simp at f5;go_wp2_with fail;generalize S:[]++M.bK 1 (128+(s.n:Int)+16)++M.bK 1 type++M.bK 2 dQ++M.bK 4 aU++M.bK 4 bJ=G at Q;have r:G.length=12:=by rw[<-S];simp[cV]
   obtain⟨HL,t⟩:=bu S r;clear S r;go_loopw [48] (λi wr=>∃(k:Nat),i=J V k/\k<=s.n/\lM wr w2.heap.size w2.heap.size (G++(aQ.take k).flatMap (M.bK 4))/\iQ w2.heap.size W wr) (λi _=>s.n-(bS i).toNat);case atStart=>exact⟨0,rfl,z,by simpa using Q.O,R⟩
   case round =>
    clear Q R f5;obtain⟨k,rfl,hk,W6,m⟩:=hrel;have u:=au W6;clear W6;have H:TU _ s.a s.n aQ:=(Tp.O.below (d.trans m));by_cases U:k<s.n
    ·obtain⟨b,off,X,Tt,hc⟩:=H.cell z;have e1:=hc k U;have g:=qO (l:=aQ) (k:=k) z;have j:=H.wf _ (nQ (l:=aQ) (k:=k) z);generalize aQ.getD k 0=x at e1 g j;have hz:0<=x/\x<=4294967295:=by simp[pD,jI,jJ,fR,gM]at j;omega
     obtain⟨Y,HA,HZ⟩:=bU g X hz;clear g j hc H hz;rw[X];clear X;go_wp2_with fail;refine(kH w2.heap.size w2.heap.size _ x _ u.O (by have:=t.O;rw[cG,mR];simp;omega) HZ.O).mono ?_;rintro f v6 ⟨rfl,W7,b7⟩;have D7:=m.trans b7;have H7:=au W7;clear W7 b7;go_wp2_with fail;go_roundw;case rel=>exact⟨k+1,by go_num,z,by rw[Y.O,jR,<-dL];simpa using H7.O,D7⟩
     case measure=>simp[bS];omega
    ·have Tf:k=s.n:=z;subst Tf;rw[dC z]at u;have Tg:(G++aQ.flatMap (M.bK 4)).length<=80:=by rw[cG,mR,t.O];omega
     generalize D:G++aQ.flatMap (M.bK 4)=o at u Tg;have Ti:=au D;clear D;have d6:=d.trans m;clear H;have f6:=(C.below m hg).cell 6;simp at f6;have f7:=(C.below m hg).cell 7;simp at f7;go_wp2_with fail;refine(mw w2.heap.size w2.heap.size (o) bV _ u.O z ⟨Tw,Tx⟩).mono ?_;rintro f x1 ⟨rfl,X1,c1⟩;have E1:=m.trans c1;have K:=au X1;clear X1 c1 u;clear f7;clear f6;have hdiv:Int.tdiv (e.n:Int) 4=((e.n / 4:Nat):Int):=by rw[rE z];omega
     have Tl:aN.wrap ((e.n / 4:Nat):Int)=((e.n / 4:Nat):Int):=by rw[mX];omega
     have f8:=(C.below E1 hg).cell 8;simp at f8;go_wp2_with fail;refine(mw w2.heap.size w2.heap.size (o++M.bK 2 bV) ((e.n / 4:Nat):Int) _ K.O (by simp[cV];omega) z).mono ?_;rintro f x2 ⟨rfl,X2,c2⟩;have E2:=E1.trans c2;have Tm:=au X2;clear X2 c2 K;clear f8;clear hdiv Tl;have f8:=(C.below E2 hg).cell 8;simp at f8;go_wp2_with fail;refine(qN w2.heap.size w2.heap.size (o++M.bK 2 bV++M.bK 2 ((e.n / 4:Nat):Int)) fp e.a e.n e.c _ Tm.O (HE.O.tl.below (d.trans E2)) HE.O.zero (by simp[cV];omega) z).mono ?_;rintro f x3 ⟨rfl,X3,c3⟩;have E3:=E2.trans c3;have Tn:=au X3;clear X3 c3 Tm;clear f8;have f9:=(C.below E3 hg).cell 9;simp at f9;go_wp2_with fail;refine(qN w2.heap.size w2.heap.size (o++M.bK 2 bV++M.bK 2 ((e.n / 4:Nat):Int)++fp) cF y.a y.n y.c _ Tn.O (HY.O.tl.below (d.trans E3)) HY.O.zero (by simp[cV];omega) z).mono ?_;rintro f x4 ⟨rfl,X4,c4⟩;have E4:=E3.trans c4;have Tv:=au X4;clear X4 c4 Tn;clear f9;go_wp2_with fail;refine(oX w2.heap.size w2.heap.size (o++M.bK 2 bV++M.bK 2 ((e.n / 4:Nat):Int)++fp++cF) _ Tv.O (by simp[cV];omega)).mono ?_;rintro f x ⟨⟨A,c,rfl,T,q1,q2,q3⟩,bz⟩;have dz:aC w x:=Tk.trans ((d.trans (E4.trans (bz.mono (by have:=E4.size;have:=d.size;omega)))).mono (lN hg));obtain⟨Y,Tu,Tj⟩:=bU T hy he;clear T hy he;go_wp2_with fail;refine ax (v:=aB #[ae A (o++M.bK 2 bV++M.bK 2 ((e.n / 4:Nat):Int)++fp++cF).length c,J V 0]) (by simp[aV,results193,go_sem]) rfl ?_;rw[HB.O];have E:M.cR.bytes ⟨false,type,dQ,aU,bJ,aQ,true,bV,fp,cF⟩=o++M.bK 2 bV++M.bK 2 ((e.n / 4:Nat):Int)++fp++cF:=by rw[<-Ti.O,<-HL.O];simp[M.cR.bytes,dL,hs,Tj.O]
     rw[E];exact⟨⟨⟨A,(o++M.bK 2 bV++M.bK 2 ((e.n / 4:Nat):Int)++fp++cF).length,c⟩,rfl,⟨Y.O,q1,q2,q3⟩⟩,dz⟩
  ·go_wp2_with fail;refine gu (λW=>aK W w.heap.size 76 (uA ⟨true,type,dQ,aU,bJ,aQ,true,bV,fp,cF⟩ s e y)/\lM W w2.heap.size w2.heap.size []/\aC w2 W) ⟨(F.alloc _).drew,wZ w2,wQ ((ao _ _).alloc (aj _) _)⟩ ?_;clear f0 f1 f2 f3 f4 f5 f6 f7 f8 f9;rintro W ⟨C,W0,d⟩;have hg:w.heap.size<w2.heap.size:=F.lt;have HQ:=au (q.O.below d);clear q F;have HW:=au W0;clear W0;refine(nK w2.heap.size w2.heap.size ([]) (128+(s.n:Int)+16) W HW.O dt z).mono ?_;rintro f v1 ⟨rfl,W1,b1⟩;have H1:=au W1;clear W1 HW;have D1:=b1;clear b1;go_wp2_with fail;refine(nK w2.heap.size w2.heap.size ([]++M.bK 1 (128+(s.n:Int)+16)) (type+128) v1 H1.O (by simp[cV]) z).mono ?_;rintro f v2 ⟨rfl,W2,b2⟩;have H2:=au W2;clear W2 H1;have L:=D1.trans b2;clear b2 D1;have f2:=(C.below L hg).cell 2;simp at f2;go_wp2_with fail;refine(mw w2.heap.size w2.heap.size ([]++M.bK 1 (128+(s.n:Int)+16)++M.bK 1 (type+128)) dQ v2 H2.O (by simp[cV]) t2).mono ?_;rintro f v3 ⟨rfl,W3,b3⟩;have H3:=au W3;clear W3 H2;have N:=L.trans b3;clear f2;clear b3 L;have f3:=(C.below N hg).cell 3;simp at f3;go_wp2_with fail;refine(kH w2.heap.size w2.heap.size ([]++M.bK 1 (128+(s.n:Int)+16)++M.bK 1 (type+128)++M.bK 2 dQ) aU v3 H3.O (by simp[cV]) t3).mono ?_;rintro f v4 ⟨rfl,W4,b4⟩;have H4:=au W4;clear W4 H3;have P:=N.trans b4;clear f3;clear b4 N;have f4:=(C.below P hg).cell 4;simp at f4;go_wp2_with fail;refine(kH w2.heap.size w2.heap.size ([]++M.bK 1 (128+(s.n:Int)+16)++M.bK 1 (type+128)++M.bK 2 dQ++M.bK 4 aU) bJ v4 H4.O (by simp[cV]) t4).mono ?_;rintro f v5 ⟨rfl,W5,b5⟩;have Q:=au W5;clear W5 H4;have R:=P.trans b5;clear f4;clear b5 P;have f5:=(C.below R hg).cell 5;simp at f5;go_wp2_with fail;generalize S:[]++M.bK 1 (128+(s.n:Int)+16)++M.bK 1 (type+128)++M.bK 2 dQ++M.bK 4 aU++M.bK 4 bJ=G at Q;have r:G.length=12:=by rw[<-S];simp[cV]
   obtain⟨HL,t⟩:=bu S r;clear S r;go_loopw [48] (λi wr=>∃(k:Nat),i=J V k/\k<=s.n/\lM wr w2.heap.size w2.heap.size (G++(aQ.take k).flatMap (M.bK 4))/\iQ w2.heap.size W wr) (λi _=>s.n-(bS i).toNat);case atStart=>exact⟨0,rfl,z,by simpa using Q.O,R⟩
   case round =>
    clear Q R f5;obtain⟨k,rfl,hk,W6,m⟩:=hrel;have u:=au W6;clear W6;have H:TU _ s.a s.n aQ:=(Tp.O.below (d.trans m));by_cases U:k<s.n
    ·obtain⟨b,off,X,Tt,hc⟩:=H.cell z;have e1:=hc k U;have g:=qO (l:=aQ) (k:=k) z;have j:=H.wf _ (nQ (l:=aQ) (k:=k) z);generalize aQ.getD k 0=x at e1 g j;have hz:0<=x/\x<=4294967295:=by simp[pD,jI,jJ,fR,gM]at j;omega
     obtain⟨Y,HA,HZ⟩:=bU g X hz;clear g j hc H hz;rw[X];clear X;go_wp2_with fail;refine(kH w2.heap.size w2.heap.size _ x _ u.O (by have:=t.O;rw[cG,mR];simp;omega) HZ.O).mono ?_;rintro f v6 ⟨rfl,W7,b7⟩;have D7:=m.trans b7;have H7:=au W7;clear W7 b7;go_wp2_with fail;go_roundw;case rel=>exact⟨k+1,by go_num,z,by rw[Y.O,jR,<-dL];simpa using H7.O,D7⟩
     case measure=>simp[bS];omega
    ·have Tf:k=s.n:=z;subst Tf;rw[dC z]at u;have Tg:(G++aQ.flatMap (M.bK 4)).length<=80:=by rw[cG,mR,t.O];omega
     generalize D:G++aQ.flatMap (M.bK 4)=o at u Tg;have Ti:=au D;clear D;have d6:=d.trans m;clear H;have f6:=(C.below m hg).cell 6;simp at f6;have f7:=(C.below m hg).cell 7;simp at f7;go_wp2_with fail;refine(mw w2.heap.size w2.heap.size (o) bV _ u.O z ⟨Tw,Tx⟩).mono ?_;rintro f x1 ⟨rfl,X1,c1⟩;have E1:=m.trans c1;have K:=au X1;clear X1 c1 u;clear f7;clear f6;have hdiv:Int.tdiv (e.n:Int) 4=((e.n / 4:Nat):Int):=by rw[rE z];omega
     have Tl:aN.wrap ((e.n / 4:Nat):Int)=((e.n / 4:Nat):Int):=by rw[mX];omega
     have f8:=(C.below E1 hg).cell 8;simp at f8;go_wp2_with fail;refine(mw w2.heap.size w2.heap.size (o++M.bK 2 bV) ((e.n / 4:Nat):Int) _ K.O (by simp[cV];omega) z).mono ?_;rintro f x2 ⟨rfl,X2,c2⟩;have E2:=E1.trans c2;have Tm:=au X2;clear X2 c2 K;clear f8;clear hdiv Tl;have f8:=(C.below E2 hg).cell 8;simp at f8;go_wp2_with fail;refine(qN w2.heap.size w2.heap.size (o++M.bK 2 bV++M.bK 2 ((e.n / 4:Nat):Int)) fp e.a e.n e.c _ Tm.O (HE.O.tl.below (d.trans E2)) HE.O.zero (by simp[cV];omega) z).mono ?_;rintro f x3 ⟨rfl,X3,c3⟩;have E3:=E2.trans c3;have Tn:=au X3;clear X3 c3 Tm;clear f8;have f9:=(C.below E3 hg).cell 9;simp at f9;go_wp2_with fail;refine(qN w2.heap.size w2.heap.size (o++M.bK 2 bV++M.bK 2 ((e.n / 4:Nat):Int)++fp) cF y.a y.n y.c _ Tn.O (HY.O.tl.below (d.trans E3)) HY.O.zero (by simp[cV];omega) z).mono ?_;rintro f x4 ⟨rfl,X4,c4⟩;have E4:=E3.trans c4;have Tv:=au X4;clear X4 c4 Tn;clear f9;go_wp2_with fail;refine(oX w2.heap.size w2.heap.size (o++M.bK 2 bV++M.bK 2 ((e.n / 4:Nat):Int)++fp++cF) _ Tv.O (by simp[cV];omega)).mono ?_;rintro f x ⟨⟨A,c,rfl,T,q1,q2,q3⟩,bz⟩;have dz:aC w x:=Tk.trans ((d.trans (E4.trans (bz.mono (by have:=E4.size;have:=d.size;omega)))).mono (lN hg));obtain⟨Y,Tu,Tj⟩:=bU T hy he;clear T hy he;go_wp2_with fail;refine ax (v:=aB #[ae A (o++M.bK 2 bV++M.bK 2 ((e.n / 4:Nat):Int)++fp++cF).length c,J V 0]) (by simp[aV,results193,go_sem]) rfl ?_;rw[HB.O];have E:M.cR.bytes ⟨true,type,dQ,aU,bJ,aQ,true,bV,fp,cF⟩=o++M.bK 2 bV++M.bK 2 ((e.n / 4:Nat):Int)++fp++cF:=by rw[<-Ti.O,<-HL.O];simp[M.cR.bytes,dL,hs,Tj.O]
     rw[E];exact⟨⟨⟨A,(o++M.bK 2 bV++M.bK 2 ((e.n / 4:Nat):Int)++fp++cF).length,c⟩,rfl,⟨Y.O,q1,q2,q3⟩⟩,dz⟩
section
def fW(w:aw)(g:Nat)(cs:Array Value):cS (One g) w (w.setRow g cs):=
 ⟨rfl,rfl,rfl,by simp[World.setRow],λi hi hF=>by
  unfold World.setRow
  simp only
  rw[Array.getElem?_modify,if_neg (λe=>hF e.symm)]⟩
def JT{P:jB}{t:TypeId}{a:Array Field}(h:P.underlying t=Z (.struct a))(w:aw):(isAgg t).run P w=.ok true w:=by
 simp[isAgg,run_underlying h]
section
variable {P:jB} (w:aw) {ops:Array mJ} {rest:List mJ} {o:mJ} {a:Act} {Q:Exit->Act->aw->Prop}
def jb(hg:o.guard=I)(x v:oN)(t:TypeId)(e:o.op=Op.store t x v)(g off:Nat)(te:TypeId)(dx:Array Value)(k:a.eval x=aq (Z ⟨g,off,I⟩))
  (cs:Array Value) (l:(a.eval v).cells=cs) (b:(P.info? t).map (·.size)=Z cs.size) (j:aK w g te dx) (m:off+cs.size<=dx.size) (h1:∀v∈cs.toList,v.oneCell'=true)
  (n:∀w',aK w' g te (de dx off cs.toList)->cS (One g) w w'->oD P ops Q rest (a.put o.dst undef) w'):oD P ops Q (o::rest) a w:=by
 refine oB hg λK' f=>?_;have c:=oF P g off te cs.toList 0 dx w j (by simpa using m) h1;rw[iw]at c;have d:(storeCells ⟨g,off,I⟩ cs.toList).run P w=.ok () (w.setRow g (de dx off cs.toList)):=c;cases h:P.info? t with
 |none=>simp[h]at b
 |some i =>
  have hi:i.size=cs.size:=by simpa[h]using b
  unfold Oper.wp;simp[execOp,e,Instr.storeAt,storeVar,k,l,sizeOf,typeInfo,h,hi,d,Result.andThen,Instr.sureAddr,asAddr];exact f _ _ (n _ (kQ w g dx _ te (0,0) j) (fW w g _))
def lI(hg:o.guard=I)(x:oN)(t:TypeId)(d:o.op=Op.load t x)(g off:Nat)(te:TypeId)(dx:Array Value)(n:a.eval x=aq (Z ⟨g,off,I⟩))
  (cs:Array Value) (p:Array Field) (hu:P.underlying t=Z (.struct p)) (b:(P.info? t).map (·.size)=Z cs.size) (q:aK w g te dx) (r:∀j,j<cs.size->dx[off+j]? = cs[j]?)
  (s:oD P ops Q rest (a.put o.dst (cg cs)) w):oD P ops Q (o::rest) a w:=by
 refine oB hg λK' f=>?_;have c:=run_loadCells_list (P:=P) w ⟨g,off,I⟩ cs.toList (λj v k=>by
  have u:j<cs.size:=by
   rcases iL j cs.size with h|h
   ·exact h
   ·rw[fx (by simpa using h)]at k;cases k
  have e:(⟨g,off,I⟩:Addr).add j=⟨g,off+j,I⟩:=by unfold Addr.add;split<;>simp_all
  rw[e,q.cell,r j u]
  simpa using k)
 cases l:P.info? t with
 |none=>simp[l]at b
 |some i =>
  have hi:i.size=cs.size:=by simpa[l]using b
  have m:=JT hu w;unfold Oper.wp;simp only[Array.length_toList]at c;simp[execOp,d,Instr.loadAt,loadVar,n,sizeOf,typeInfo,l,hi,c,m,Result.andThen,Instr.sureAddr,asAddr];exact f _ _ s
end
end
section
def iG.bC{w:aw}{g gp:Nat}{t:TypeId}{cs:Array Value}{r:M.Rd}(h:iG w g r)(hp:aK w gp t cs)(h1:t≠231)(h2:t≠5)(i:Nat)(u:Value):iG (w.setCell ⟨gp,i,I⟩ u) g r:=by
 obtain⟨A,n,c,a,b,d,e,f⟩:=h;exact⟨A,n,c,a.dS (p:=⟨gp,i,I⟩) (aK.jf a hp (Ne.symm h1)) u,b.bC hp (Ne.symm h2) i u,d,e,f⟩
def iG.cw{w:aw}{g:Nat}{r:M.Rd}(h:iG w g r):∃cs,aK w g 231 cs:=by
 obtain⟨A,n,c,a,_⟩:=h;exact⟨_,a⟩
abbrev sH:Array Value:=#[ai false,J bI 0,J aN 0,J ar 0,J ar 0,ae I 0 0,ai false,J aN 0,ae I 0 0,ae I 0 0]
structure HS(w0:aw)(gr gp g:Nat)(wr:aw)(cs:Array Value)(rd:M.Rd):Prop where
 r:aK wr gr 76 sH
 p:aK wr gp 76 cs
 rd:iG wr g rd
 d:aC w0 wr
 ne:gr≠gp
 hr:w0.heap.size<=gr
 hp:w0.heap.size<=gp
 hg:w0.heap.size<=g
section
variable {w0 wr w':aw} {gr gp g:Nat} {cs:Array Value} {rd OE:M.Rd}
def HS.SC(h:HS w0 gr gp g wr cs rd):gp≠g:=by obtain⟨c,a⟩:=h.rd.cw;exact aK.jf h.p a aR
def HS.Sz(h:HS w0 gr gp g wr cs rd):gr≠g:=by obtain⟨c,a⟩:=h.rd.cw;exact aK.jf h.r a aR
def HS.call(h:HS w0 gr gp g wr cs rd)(R:iG w' g OE)(u:cS (One g) wr w'):HS w0 gr gp g w' cs OE:=
 ⟨h.r.dW u h.Sz,h.p.dW u h.SC,R,h.d.trans (u.below (aP (aj _) h.d.size) λi q=>by cases q;exact h.hg),h.ne,h.hr,h.hp,h.hg⟩
def HS.store(h:HS w0 gr gp g wr cs rd)(i:Nat)(v:Value):HS w0 gr gp g (wr.setCell ⟨gp,i,I⟩ v) (cs.setIfInBounds i v) rd:=
 ⟨h.r.dS (p:=⟨gp,i,I⟩) h.ne v,h.p.bC i v,h.rd.bC h.p aR aR i v,h.d.setCell h.hp v,h.ne,h.hr,h.hp,h.hg⟩
def HS.drew(h:HS w0 gr gp g wr cs rd):HS w0 gr gp g wr.drew cs rd:=⟨h.r,h.p,h.rd,wQ h.d,h.ne,h.hr,h.hp,h.hg⟩
def HS.cell(h:HS w0 gr gp g wr cs rd)(i:Nat):wr.cell? ⟨gp,i,I⟩=cs[i]?:=h.p.cell i
def HS.frozen(h:HS w0 gr gp g wr cs rd)(i:Nat):wr.frozen? ⟨gp,i,I⟩=false:=h.p.frozen i
end
def Is(w:aw):iT w .zero .nil .nil .nil:=⟨Sl.vG,Sl.vG,Sl.vG,aR,aR,aR,aR,aR,aR⟩
def pU{P:jB}{ops:Array mJ}{o:mJ}{a:Act}{w:aw}{K:Act->aw->Prop}{Q:Exit->Act->aw->Prop}{E:Prop}
  (hg:o.guard=I) (s x:oN) (t:TypeId) (C:o.op=.call { callee:=.builtin .append,args:=#[s,x],argTypes:=#[t,t] })
  (base:Nat) (e:TypeId) (i:TypeInfo) (l:Value) (size bytes:Nat) (ht:P.underlying t=Z (.slice e)) (hi:P.info? e=Z i) (D:i.zero=Z l)
  (d:i.size=size) (p:i.bytes=bytes) (q:l.cells.size=size) (r:0<size)
  (v:Value) (n:Nat) (xs:List Value) (F:a.eval s=v) (k:w.ownsRow base e size v n xs)
  (y:Addr) (m c:Nat) (iX:List Value) (G:a.eval x=ae (Z y) m c) (H:iX.length=m*size) (f:∀j u,iX[j]? = Z u->w.cell? (y.add j)=Z u) (h1:∀u∈iX,u.oneCell'=true)
  (A:n+m<=maxLen) (b:(n+m)*bytes<=140737488355328) (g:base<=w.heap.size)
  (h:∀B w',w'.ownsRow base e size B (n+m) (xs++iX)->w.grownBy w' v.ownBlock->(B=ae I 0 0↔v=ae I 0 0/\m=0)->K (a.put o.dst B) w') :
  if ig o (sC ops a.tmps)=true then Oper.wp P o a w K Q else E:=by
 have hw:ig o (sC ops a.tmps)=true:=by simp[ig,hg]
 rw[if_pos hw];exact wp_append_own w s x t C base e i l size bytes ht hi D d p q r v n xs F k y m c iX G H f h1 A b g h
def Cy{F:Nat->Prop}{ts:List TypeId}{w w':aw}{base:Nat}{e:TypeId}{size n:Nat}{v:Value}{xs:List Value}(h:w.ownsRow base e size v n xs)(u:cS F w w')(T:Typed w F ts)(ht:e∉ts):w'.ownsRow base e size v n xs:=by
 obtain⟨h1,h2⟩:=h;refine⟨h1,h2.imp id ?_⟩;rintro⟨g,cap,dx,a,b,c,d⟩;have f:aK w g e dx:=c;exact⟨g,cap,dx,a,b,f.typed u T ht,d⟩
def iG.tc{w w':aw}{g:Nat}{r:M.Rd}{F:Nat->Prop}{ts:List TypeId}(h:iG w g r)(u:cS F w w')(T:Typed w F ts)(h1:231∉ts)(h2:5∉ts):iG w' g r:=by
 obtain⟨A,n,c,a,b,d,e,f⟩:=h;exact⟨A,n,c,a.typed u T h1,b.typed u T h2,d,e,f⟩
def ib{w:aw}{base:Nat}{e:TypeId}{size n:Nat}{v:Value}{xs:List Value}(h:w.ownsRow base e size v n xs):Typed w (λi=>v.ownBlock=Z i) [e]:=by
 intro i hi;rcases h.2 with⟨rfl,_⟩ | ⟨g,cap,dx,rfl,_,hh,_⟩
 ·cases hi
 ·simp[Value.ownBlock]at hi;subst hi;exact⟨e,dx,dt,hh⟩
def cS.wx{w w':aw}{row:Option Nat}(g:w.grownBy w' row):cS (λi=>row=Z i) w w':=
 ⟨g.os,g.tape,g.output,g.size,λi hi h=>g.block i hi (λe=>h e.symm)⟩
def HS.tc{w0 wr w':aw}{gr gp g:Nat}{cs:Array Value}{rd:M.Rd}{F:Nat->Prop}{ts:List TypeId}(h:HS w0 gr gp g wr cs rd)(u:cS F wr w')(T:Typed wr F ts)(h1:231∉ts)(h2:5∉ts)(h3:76∉ts)(hF:∀i,F i->w0.heap.size<=i):HS w0 gr gp g w' cs rd:=
 ⟨h.r.typed u T h3,h.p.typed u T h3,h.rd.tc u T h1 h2,h.d.trans (u.below h.d.size hF),h.ne,h.hr,h.hp,h.hg⟩
def HS.alloc{w0 wr:aw}{gr gp g:Nat}{cs:Array Value}{rd:M.Rd}(h:HS w0 gr gp g wr cs rd)(o:Obj):HS w0 gr gp g (wr.alloc o) cs rd:=
 ⟨h.r.alloc o,h.p.alloc o,h.rd.below ((ao _ _).alloc (aj _) o),h.d.alloc h.d.size o,h.ne,h.hr,h.hp,h.hg⟩
def HS.M6{w0 a b:aw}{gr gp g:Nat}{cs:Array Value}{rd:M.Rd}{o:Obj}{n:Nat}{v:Value}{xs:List Value}(h:HS w0 gr gp g a cs rd)(own:a.ownsRow w0.heap.size 41 1 v n xs)(g8:(a.alloc o).grownBy b v.ownBlock):HS w0 gr gp g b cs rd:=
 (h.alloc o).tc (cS.wx g8) (ib (own.alloc o)) aR aR aR (λi hi=>((own.alloc o).lt i hi).1)
def LL(w:aw)(t:TypeId)(x:Value):∀j u,[x][j]? = Z u->(w.alloc (.cells #[x] t)).cell? ((⟨w.heap.size,0,I⟩:Addr).add j)=Z u:=by
 intro j u hu;rcases j with _|j
 ·simp at hu;subst hu;rw[add_lit];exact(aK.new w t #[x]).cell 0
 ·simp at hu
def Ca{x:Int}(h:0<=x/\x<=256 ^ 4-1):(dU ar x).wf=true:=by
 have h2:x<=4294967295:=h.2;simp[pD,jI,jJ,fR,gM];omega
def Ft{xs k:List Int}(h:M.sS xs=Z k):k=xs.take k.length/\k.length<=xs.length:=by
 unfold M.sS at h;split at h
 ·cases h
 ·split at h
  ·cases h
  ·simp only[bf]at h;subst h;simp
def TL.pre{t:TypeId}{k:jC}{w:aw}{A:Option Addr}{n:Nat}{xs:List Int}(h:TL t k w A n xs)(j:Nat)(f:j<=n):TL t k w A j (xs.take j):=by
 obtain⟨h1,h2,h3⟩:=h;refine⟨dZ,λx a=>h2 x (eZ a),λh0=>?_⟩;obtain⟨b,off,cs,e,c,d⟩:=h3 z;refine⟨b,off,cs,e,c,λi hi=>?_⟩;rw[d i z,bE,bE,List.getElem?_take_of_lt hi]
def xc(r:M.Rd)(x:Int):(r.take x).1.length<=r.left.length:=by
 unfold M.Rd.take;split
 ·simp
 ·split
  ·simp
  ·simp;omega
def Tryz.zf:(af.info? 76).map (·.size)=Z 10:=cC
def Lv(p:M.cR)(s e y:Sl):∀v∈(uA p s e y).toList,v.oneCell'=true:=by
 intro v a;simp at a;rcases a with rfl|rfl|rfl|rfl|rfl|rfl|rfl|rfl|rfl|rfl<;>rfl
def Bf(p:M.cR)(s e y:Sl):de sH 0 (uA p s e y).toList=uA p s e y:=rfl
def xD(r:M.Rd)(x:Int):(r.fail x).left.length<=r.left.length:=by
 unfold M.Rd.fail;split<;>simp
def take_left(r:M.Rd)(x:Int):(r.take x).2.left.length<=r.left.length:=by
 unfold M.Rd.take;split
 ·simp
 ·split
  ·unfold M.Rd.fail;split<;>simp
  ·simp
def nC{r r':M.Rd}{s:Nat}{x:Int}{N:Nat}(h:M.Rd.num r s=(x,r'))(a:r.left.length<=N):r'.left.length<=N:=by
 have e:r'=(r.take s).2:=by rw[<-show(M.Rd.num r s).2=r' from by rw[h]];rfl
 rw[e];exact aP (take_left r s) a
def CE:∀(k:Nat) (r:M.Rd),(M.jD k r).2.left.length<=r.left.length
 |0,r=>aj _
 |k+1,r=>by rw[M.jD];exact aP (CE k _) (take_left r _)
def HS.tl{t:TypeId}{k:jC}{w0 wr w':aw}{gr gp g:Nat}{cs:Array Value}{rd:M.Rd}{A:Option Addr}{n:Nat}{xs:List Int}(h:HS w0 gr gp g wr cs rd)(T:TL t k wr A n xs)(u:cS (One g) wr w')(ht:t≠231):TL t k w' A n xs:=by
 obtain⟨c,a⟩:=h.rd.cw;exact T.one u a ht
def HS.KD{t:TypeId}{k:jC}{w0 wr:aw}{gr gp g:Nat}{cs:Array Value}{rd:M.Rd}{A:Option Addr}{n:Nat}{xs:List Int}(h:HS w0 gr gp g wr cs rd)(T:TL t k wr A n xs)(ht:t≠76)(i:Nat)(u:Value):TL t k (wr.setCell ⟨gp,i,I⟩ u) A n xs:=T.bC h.p ht i u
def Fv(x:Int)(h:0<=x/\x<=255):(bits .and bI x 16 !=0)=decide (x / 16 % 2=1)/\(bits .and bI x 32 !=0)=decide (x / 32 % 2=1):=by
 obtain⟨h0,h1⟩:=h;obtain⟨n,rfl⟩:=Int.eq_ofNat_of_zero_le h0;have a:n<256:=z;have key:∀m:Fin 256,((m.val &&& 16 !=0)=decide (m.val / 16 % 2=1))/\((m.val &&& 32 !=0)=decide (m.val / 32 % 2=1)):=by decide +kernel
 obtain⟨d,e⟩:=key ⟨n,a⟩;simp only at d e;have b:bits .and bI (n:Int) 16=((n &&& 16:Nat):Int):=(bits_nat bI 8 aR tz n 16 a aR).1;have c:bits .and bI (n:Int) 32=((n &&& 32:Nat):Int):=(bits_nat bI 8 aR tz n 32 a aR).1;rw[b,c];refine⟨?_,?_⟩
 ·rw[show(((n &&& 16:Nat):Int) !=0)=(n &&& 16 !=0) from by rw[Bool.eq_iff_iff];simp,d];rw[decide_eq_decide];omega
 ·rw[show(((n &&& 32:Nat):Int) !=0)=(n &&& 32 !=0) from by rw[Bool.eq_iff_iff];simp,e];rw[decide_eq_decide];omega
def one_one{k:jC}{x:Int}:∀u∈[J k x],u.oneCell'=true:=by intro u hu;simp at hu;subst hu;rfl
def iG.typed{w:aw}{g:Nat}{r:M.Rd}(h:iG w g r):Typed w (One g) [231]:=λi hi=>by
 cases hi;obtain⟨cs,a⟩:=h.cw;exact⟨231,cs,dt,a⟩
def OU(x:Int)(h:0<=x/\x<=255):bits .and bI x 127=x % 128:=bits_mask bI 8 aR tz 7 aR x h.1 z
def wF(A:Option Addr)(n c:Nat)(b:M.cQ)(w:aw)(h:TB w A n b)(hz:A=I->c=0)(hn:n<=100000) :
  aF af 16 #[ae A n c] w λe w'=>(∃s ex y:Sl,e=av (aB #[Pq (M.eP b).1 s ex y,J V (M.eP b).2])/\iT w' (M.eP b).1 s ex y)/\aC w w':=by
 have hl:=h.len;by_cases Vv:200<n
 ·have D:M.eP b=(.zero,4):=by unfold M.eP;rw[if_pos z]
  have HB:=au D;clear D hl h hz;go_enter func16,ntmps16;go_wp2_with fail;refine ax (v:=aB #[Pq .zero .nil .nil .nil,J V 4]) (by simp[aV,results16,go_sem,M.cR.zero,Sl.nil]) rfl ?_;rw[HB.O];exact⟨⟨.nil,.nil,.nil,rfl,Is _⟩,(ao _ w).alloc (aj _) _⟩
 obtain⟨HT,HL⟩:=bu h hl;clear h hl;go_enter func16,ntmps16;go_wp2_with fail;have R1:=aK.new w 76 sH;have d1:=(ao w.heap.size w).alloc (aj _) (.cells sH 76);refine(wz A n c b _ (HT.O.below d1) hn hz).mono ?_;rintro e w1 ⟨⟨g,rfl,hg,G1⟩,b1⟩;have R2:=R1.kept b1;have d2:aC w w1:=wR (ao _ w) b1;have Uk:=d2.size;have Vw:=R2.lt;clear R1 d1;obtain⟨Ul,Um⟩:=bu G1 R2;clear G1 R2;go_wp2_with fail;refine gu (λW=>HS w w.heap.size w1.heap.size g W sH ⟨b,0⟩) ⟨Um.O.alloc _,aK.new w1 76 sH,Ul.O.below ((ao _ _).alloc (aj _) _),d2.alloc Uk _,z,aj _,Uk,by simp at hg;omega⟩ ?_;intro W S0;have H0:=au S0;clear S0 Ul Um b1 d2;refine(lW g ⟨b,0⟩ W H0.O.rd).mono ?_;have q1:=ev H0.O.rd 1 z;generalize Un:M.Rd.num ⟨b,0⟩ 1=p1 at q1 ⊢;obtain⟨E,r1⟩:=p1;rintro e v1 ⟨rfl,R1,u1⟩;obtain⟨H1,TC⟩:=bu (H0.O.call R1 u1) Un;clear R1 u1 H0 Un;go_wp2_with fail;refine(lW g r1 v1 H1.O.rd).mono ?_;have q2:=ev H1.O.rd 1 z;generalize Uo:M.Rd.num r1 1=p2 at q2 ⊢;obtain⟨o,r2⟩:=p2;rintro e v2 ⟨rfl,R2,u2⟩;have S2:=H1.O.call R2 u2;have TD:=au Uo;clear R2 u2 H1 Uo;have c0:=S2.cell 0;have c1:=S2.cell 1;have f0:=S2.frozen 0;have f1:=S2.frozen 1;simp at c0 c1;simp only at q1 q2;have hand:=OU o q2;have H2:=au ((S2.store 0 (ai (decide (128<=o)))).store 1 (J bI (o % 128)));clear S2;go_wp2_with fail;refine gu (λW=>HS w w.heap.size w1.heap.size g W #[ai (decide (128<=o)),J bI (o % 128),J aN 0,J ar 0,J ar 0,ae I 0 0,ai false,J aN 0,ae I 0 0,ae I 0 0] r2) (by simpa using H2.O) ?_;intro W3 S3;have G3:=au S3;clear S3 H2 c0 c1 f0 f1 hand;refine(qH g r2 W3 G3.O.rd).mono ?_;have q3:=ev G3.O.rd 2 z;generalize Up:M.Rd.num r2 2=p3 at q3 ⊢;obtain⟨P,r3⟩:=p3;simp only at q3;rintro e v3 ⟨rfl,R3,u3⟩;have S3:=G3.O.call R3 u3;have TE:=au Up;clear R3 u3 G3 Up;have c2:=S3.cell 2;have f2:=S3.frozen 2;simp at c2;have H3:=au (S3.store 2 (J aN P));clear S3;go_wp2_with fail;clear c2 f2;refine gu (λW=>HS w w.heap.size w1.heap.size g W #[ai (decide (128<=o)),J bI (o % 128),J aN P,J ar 0,J ar 0,ae I 0 0,ai false,J aN 0,ae I 0 0,ae I 0 0] r3) (by simpa using H3.O) ?_;intro W4 S4;have G4:=au S4;clear S4 H3;refine(kK g r3 W4 G4.O.rd).mono ?_;have q4:=ev G4.O.rd 4 z;generalize Uq:M.Rd.num r3 4=p4 at q4 ⊢;obtain⟨T,r4⟩:=p4;simp only at q4;rintro e v4 ⟨rfl,R4,u4⟩;have S4:=G4.O.call R4 u4;have TF:=au Uq;clear R4 u4 G4 Uq;have c3:=S4.cell 3;have f3:=S4.frozen 3;simp at c3;have H4:=au (S4.store 3 (J ar T));clear S4;go_wp2_with fail;clear c3 f3;refine gu (λW=>HS w w.heap.size w1.heap.size g W #[ai (decide (128<=o)),J bI (o % 128),J aN P,J ar T,J ar 0,ae I 0 0,ai false,J aN 0,ae I 0 0,ae I 0 0] r4) (by simpa using H4.O) ?_;intro W5 S5;have G5:=au S5;clear S5 H4;refine(kK g r4 W5 G5.O.rd).mono ?_;have q5:=ev G5.O.rd 4 z;generalize Ur:M.Rd.num r4 4=p5 at q5 ⊢;obtain⟨x5,r5⟩:=p5;simp only at q5;rintro e v5 ⟨rfl,R5,u5⟩;have S5:=G5.O.call R5 u5;have TG:=au Ur;clear R5 u5 G5 Ur;have c4:=S5.cell 4;have f4:=S5.frozen 4;simp at c4;have H5:=au (S5.store 4 (J ar x5));clear S5;have Us:=au q1;go_upto_region 10 with fail;refine aW (λW=>HS w w.heap.size w1.heap.size g W #[ai (decide (128<=o)),J bI (o % 128),J aN P,J ar T,J ar x5,ae I 0 0,ai false,J aN 0,ae I 0 0,ae I 0 0] r5) (by simpa using H5.O) ?_;intro W5 S5;have G5:=au S5;clear S5 H5 c4 f4;go_cut [46] (λVa wc=>Va=ai (decide (E<128)||decide (191<E))/\wc=W5);case first =>
  by_cases h1:E<128
  ·go_wp2_with fail;go_meet;exact⟨by simp[h1],rfl⟩
  ·go_wp2_with fail;go_meet;exact⟨by rw[show decide (E<128)=false from by simpa using h1];first|rfl|simp,rfl⟩
 case rest =>
  obtain⟨rfl,rfl⟩:=hcut;go_upto_if 46 with fail;go_cut [] (λW=>HS w w.heap.size w1.heap.size g W #[ai (decide (128<=o)),J bI (o % 128),J aN P,J ar T,J ar x5,ae I 0 0,ai false,J aN 0,ae I 0 0,ae I 0 0] (if E<128\/191<E then r5.fail 2 else r5));case first =>
   by_cases hf:E<128\/191<E
   ·have D:(decide (E<128)||decide (191<E))=true:=by simpa using hf
    rw[D];have HF:=au hf;clear hf D;go_wp2_with fail;refine(mP g r5 2 _ G5.O.rd).mono ?_;rintro e v6 ⟨rfl,R6,u6⟩;have G6:=au (G5.O.call R6 u6);clear R6;go_wp2_with fail;go_meet;rw[if_pos HF.O];exact G6.O
   ·have D:(decide (E<128)||decide (191<E))=false:=by simpa using hf
    rw[D];have HF:=au hf;clear hf D;go_wp2_with fail;go_meet;rw[if_neg HF.O];exact G5.O
  case rest =>
   have H6:=au hcut;clear hcut G5;generalize Ut:(if E<128\/191<E then r5.fail 2 else r5)=r6 at H6;have TH:=au Ut;clear Ut;have q1:=Us.O;have Uu:bits .and bI E 15=E % 16:=bits_mask bI 8 aR tz 4 aR E q1.1 z;have Uv:(E % 16).toNat<=15:=z;have Uw:E % 16=(((E % 16).toNat:Nat):Int):=z;rw[Uw]at Uu;generalize hm:(E % 16).toNat=m at Uu Uv;have HM:=au hm;clear hm Uw q1;obtain⟨i0,hi,Ux,Uy,Uz⟩:=cY Tryz.CN;obtain⟨HI,Vb,Ud,Vc⟩:=cA hi Ux Uy Uz;clear hi Ux Uy Uz;go_wp2_with fail;go_loopw [51] (λi wr=>∃(k:Nat) (L:List Int) (v:Value) (u:M.Rd),i=J bI k/\k<=m/\HS w w.heap.size w1.heap.size g wr #[ai (decide (128<=o)),J bI (o % 128),J aN P,J ar T,J ar x5,v,ai false,J aN 0,ae I 0 0,ae I 0 0] u/\wr.ownsRow w.heap.size 41 1 v k (L.map (J ar))/\(∀x∈L,(dU ar x).wf=true)/\M.jD m r6=(L++(M.jD (m-k) u).1,(M.jD (m-k) u).2)) (λi _=>m-(bS i).toNat);case atStart=>exact⟨0,[],ae I 0 0,r6,rfl,z,H6.O,⟨rfl,.inl ⟨rfl,rfl⟩⟩,λx hx=>absurd hx dt,dt⟩
   case round =>
    clear H6;obtain⟨k,l,v,u,rfl,hk,S,own,UA,Ti⟩:=hrel;obtain⟨A5,c5,rfl⟩:=bA own;obtain⟨G,HO,UB,Ue⟩:=cA S own UA Ti;have e5:=S.cell 5;have f5:=S.frozen 5;simp at e5;clear S own UA Ti;by_cases Vx:k<m
    ·have Vd:k+1<=maxLen:=ui;have Ve:(k+1)*4<=140737488355328:=z;go_wp2_with fail;go_region_law (first|(rw[if_pos jP];go_simp;go_at_call 50;refine(kK g u _ (by first|exact G.O.rd|exact G.O.drew.rd)).mono ?_;rintro e v7 ⟨rfl,R7,u7⟩;have S7:=(by first|exact G.O.drew.call R7 u7|exact G.O.call R7 u7:HS w w.heap.size w1.heap.size g v7 _ _);have e7:=S7.cell 5;have f7:=S7.frozen 5;simp at e7;have l7:=S7.p.lt;have O7:=Cy (by first|exact HO.O|exact HO.O) u7 (by first|exact G.O.drew.rd.typed|exact G.O.rd.typed) aR;have q7:=ev G.O.rd 4 z;dsimp only)|(refine pU rfl (.tmp 54) (.tmp 57) 74 rfl w.heap.size 41 i0 (J ar 0) 1 4 underlying74 HI.O Vb.O Ud.O Vc.O rfl aR (ae A5 k c5) k (l.map (J ar)) rfl (O7.alloc _) ⟨v7.heap.size,0,I⟩ 1 1 [J ar (M.Rd.num u 4).1] rfl rfl (LL v7 41 _) one_one Vd Ve (S7.alloc _).d.size ?_;intro v8 w8 Tk g8 _;have S8:=S7.M6 O7 g8;have e8:w8.cell? ⟨w1.heap.size,5,I⟩=Z (ae A5 k c5):=S8.cell 5;have f8:=S8.frozen 5;obtain⟨A8,c8,rfl⟩:=bA Tk));all_goals
      have S9:=S8.store 5 (ae A8 (k+1) c8);have O9:=kJ Tk (ej Tk S8.p aR) 5 (ae A8 (k+1) c8);have TQ:∀y∈l++[(M.Rd.num u 4).1],(dU ar y).wf=true:=λy hy=>by
       rcases bt.1 hy with q|q
       ·exact UB.O y q
       ·simp at q;subst q;exact Ca q7
      have TR:M.jD m r6=((l++[(M.Rd.num u 4).1])++(M.jD (m-(k+1)) (M.Rd.num u 4).2).1,(M.jD (m-(k+1)) (M.Rd.num u 4).2).2):=by
       rw[Ue.O,show m-k=(m-(k+1))+1 from z,M.jD];simp
      obtain⟨Vf,Vg,UC,UD⟩:=cA S9 O9 TQ TR;clear S9 O9 TQ TR Tk S8 S7 O7 e8 f8 e7 f7 g8 R7 u7;go_wp2_with fail;go_roundw;case rel=>exact⟨k+1,_,_,_,by go_num,z,by simpa using Vf.O,by simpa using Vg.O,UC.O,UD.O⟩
      case measure=>simp[bS];omega
    ·have Vh:k=m:=z;subst Vh;have Ti:=Ue.O;rw[Nat.sub_self]at Ti;simp only[M.jD,List.append_nil]at Ti;have Tl:=au Ti;clear Ti Ue;obtain⟨A7,c7,e7,n7,m7,T7⟩:=TL.own HO.O UB.O;simp only[jl]at e7;obtain⟨rfl,_,rfl⟩:=e7;have Vi:=au T7;clear T7;have q1:=Us.O;obtain⟨D,Uf⟩:=dH (decide (E / 16 % 2=1));obtain⟨pb,Ug⟩:=dH (decide (E / 32 % 2=1));have UE:=(Fv E q1).1;rw[<-Uf]at UE;have Tq:=(Fv E q1).2;rw[<-Ug]at Tq;obtain⟨TS,TT,UF⟩:=bU Uf Ug Tq;clear Uf Ug q1 Tq;have e6:=G.O.cell 6;have f6:=G.O.frozen 6;simp at e6;obtain⟨G7,UG⟩:=bu (G.O.store 6 (ai D)) (G.O.KD Vi.O aR 6 (ai D));clear e5 f5;go_upto_if 66 with fail;refine aW (λW=>HS w w.heap.size w1.heap.size g W #[ai (decide (128<=o)),J bI (o % 128),J aN P,J ar T,J ar x5,ae A5 k c5,ai D,J aN 0,ae I 0 0,ae I 0 0] u/\TU W A5 k l) ⟨by simpa using G7.O,UG.O⟩ ?_;rintro W7 ⟨S7,U7⟩;obtain⟨K7,KU⟩:=bu S7 U7;clear S7 U7 G7 UG e6 f6 UE;go_cut [] (λW=>∃(pr:Int) (ex:Sl),HS w w.heap.size w1.heap.size g W #[ai (decide (128<=o)),J bI (o % 128),J aN P,J ar T,J ar x5,ae A5 k c5,ai D,J aN pr,ae ex.a ex.n ex.c,ae I 0 0] (if D then(M.Rd.take (M.Rd.num (M.Rd.num u 2).2 2).2 (4*(M.Rd.num (M.Rd.num u 2).2 2).1)).2 else u)/\TU W A5 k l/\ex.B W (if D then(M.Rd.take (M.Rd.num (M.Rd.num u 2).2 2).2 (4*(M.Rd.num (M.Rd.num u 2).2 2).1)).1 else[])/\pr=(if D then(M.Rd.num u 2).1 else 0)/\(0<=pr/\pr<=65535)/\(if D then(M.Rd.take (M.Rd.num (M.Rd.num u 2).2 2).2 (4*(M.Rd.num (M.Rd.num u 2).2 2).1)).1 else[]).length<=200);case first =>
      cases D
      ·go_wp2_with fail;go_meet;exact⟨0,.nil,K7.O,KU.O,Sl.vG,rfl,z,dt⟩
      ·go_wp2_with fail;refine(qH g u _ K7.O.rd).mono ?_;rintro e v8 ⟨rfl,R8,u8⟩;have q8:=ev K7.O.rd 2 z;have S8:=K7.O.call R8 u8;have U8:=K7.O.tl KU.O u8 aR;have c7:=S8.cell 7;have f7:=S8.frozen 7;simp at c7;obtain⟨G8,TI⟩:=bu (S8.store 7 (J aN (M.Rd.num u 2).1)) (S8.KD U8 aR 7 (J aN (M.Rd.num u 2).1));clear S8 U8 R8 u8;generalize h8:M.Rd.num u 2=p8 at q8 G8 TI ⊢;obtain⟨x8,r8⟩:=p8;simp only at q8 G8 TI;have Ts:=au h8;clear h8;go_wp2_with fail;refine gu (λW=>HS w w.heap.size w1.heap.size g W #[ai (decide (128<=o)),J bI (o % 128),J aN P,J ar T,J ar x5,ae A5 k c5,ai true,J aN x8,ae I 0 0,ae I 0 0] r8/\TU W A5 k l) ⟨by simpa using G8.O,TI.O⟩ ?_;rintro W8 ⟨S8,U8⟩;obtain⟨K8,Vj⟩:=bu S8 U8;clear S8 U8 G8 TI c7 f7;refine(qH g r8 _ K8.O.rd).mono ?_;rintro e v9 ⟨rfl,R9,u9⟩;have q9:=ev K8.O.rd 2 z;obtain⟨S9,U9⟩:=bu (K8.O.call R9 u9) (K8.O.tl Vj.O u9 aR);clear R9 u9;generalize h9:M.Rd.num r8 2=p9 at q9 S9 ⊢;obtain⟨x9,r9⟩:=p9;simp only at q9 S9;have TJ:=au h9;clear h9;have Vy:x9<=65535:=q9.2;have Vz:0<=x9:=q9.1;have l9:r9.left.length<=200:=by
        refine nC TJ.O (nC Ts.O ?_);have:=CE k r6;rw[Tl.O]at this;refine aP this ?_;rw[<-TH.O];have l5:=nC TG.O (nC TF.O (nC TE.O (nC TD.O (nC TC.O (show b.length<=200 from by have:=HL.O;omega)))));split
        ·exact aP (xD _ _) l5
        ·exact l5
       go_wp2_with fail;refine(Cu g r9 (4*x9) _ S9.O.rd z z).mono ?_;rintro e v10 ⟨⟨TM,TN,TO,rfl,UH,Vk,Vl,Vm⟩,UI,u10⟩;have To:=S9.O.call UI u10;have UJ:=S9.O.tl U9.O u10 aR;have c8:=To.cell 8;have f8:=To.frozen 8;simp at c8;obtain⟨Vn,UK,UL⟩:=bU (To.store 8 (ae TM TN TO)) (To.KD UJ aR 8 (ae TM TN TO)) (To.KD UH aR 8 (ae TM TN TO));clear To UJ UI u10 UH S9 U9;go_wp2_with fail;go_meet;refine⟨x8,⟨TM,TN,TO⟩,?_,UK.O,?_,?_,q8,?_⟩
       ·simp only[if_true,Ts.O,TJ.O];simpa using Vn.O
       ·simp only[if_true,Ts.O,TJ.O];exact⟨UL.O,Vk,Vl,Vm⟩
       ·simp only[if_true,Ts.O]
       ·simp only[if_true,Ts.O,TJ.O];exact aP (xc _ _) l9
     case rest =>
      obtain⟨pr,ex,S,U,X,UM,UN,UO⟩:=hcut;have UP:=au UM;clear UM;have l10:(if D then(M.Rd.take (M.Rd.num (M.Rd.num u 2).2 2).2 (4*(M.Rd.num (M.Rd.num u 2).2 2).1)).2 else u).left.length<=200:=by
       have lk:u.left.length<=200:=by
        have:=CE k r6;rw[Tl.O]at this;refine aP this ?_;rw[<-TH.O];have l5:=nC TG.O (nC TF.O (nC TE.O (nC TD.O (nC TC.O (show b.length<=200 from by have:=HL.O;omega)))));split
        ·exact aP (xD _ _) l5
        ·exact l5
       split
       ·exact aP (take_left _ _) (aP (take_left _ _) (aP (take_left _ _) lk))
       ·exact lk
      generalize TV:(if D then(M.Rd.take (M.Rd.num (M.Rd.num u 2).2 2).2 (4*(M.Rd.num (M.Rd.num u 2).2 2).1)).2 else u)=K at S l10;generalize hex:(if D then(M.Rd.take (M.Rd.num (M.Rd.num u 2).2 2).2 (4*(M.Rd.num (M.Rd.num u 2).2 2).1)).1 else[])=fp at X UO;obtain⟨TW,UQ,Q,Tt,KX⟩:=gY TV hex S U X;clear TV hex S U X K7 KU;go_wp2_with fail;refine(lr g K _ Q.O.rd).mono ?_;rintro e v11 ⟨rfl,UR⟩;have Uh:=UR.symm;subst Uh;go_wp2_with fail;refine(Cu g K K.left.length _ Q.O.rd z z).mono ?_;rintro e v12 ⟨⟨t,N,C,rfl,Tf,a12,US,z12⟩,UT,u12⟩;have F:=Q.O.call UT u12;have Tu:=Q.O.tl Tt.O u12 aR;have Tv:=KX.O.map (λq=>Q.O.tl q u12 aR);clear UT u12 Q Tt KX;have Tg:=au (Tf.len);generalize yk:M.Rd.take K K.left.length=Vo at F Tf Tg;obtain⟨rest,R⟩:=Vo;simp only at F Tf Tg;have VA:N<=200:=by
       have e1:rest=(M.Rd.take K K.left.length).1:=by rw[yk]
       have e2:=qP K K.left.length;rw[<-e1]at e2;have:=Tg.O;omega
      have TX:=au yk;clear yk;have c9:=F.cell 9;have f9:=F.frozen 9;simp at c9;obtain⟨UU,TY,T8,T9⟩:=cA (F.store 9 (ae t N C)) (F.KD Tu aR 9 (ae t N C)) (F.KD Tf aR 9 (ae t N C)) (Tv.map (λq=>F.KD q aR 9 (ae t N C)));clear F Tu Tf Tv;have Vp:=UF.O;go_upto_if 84 with fail;refine aW (λW=>HS w w.heap.size w1.heap.size g W #[ai (decide (128<=o)),J bI (o % 128),J aN P,J ar T,J ar x5,ae A5 k c5,ai D,J aN pr,ae ex.a ex.n ex.c,ae t N C] R/\TU W A5 k l/\ex.B W fp/\TB W t N rest) ⟨by simpa using UU.O,TY.O,T9.O,T8.O⟩ ?_;rintro VB ⟨F,Tu,Tv,Tf⟩;obtain⟨Q,KU,KX,KT⟩:=cA F Tu Tv Tf;clear F Tu Tv Tf UU TY T9 T8 c9 f9 Vp;go_cut [] (λW=>∃(y:Sl),HS w w.heap.size w1.heap.size g W #[ai (decide (128<=o)),J bI (o % 128),J aN P,J ar T,J ar x5,ae A5 k c5,ai D,J aN pr,ae ex.a ex.n ex.c,ae y.a y.n y.c] (if pb then(match M.sS rest with | some _=>R | none=>R.fail 2) else R)/\TU W A5 k l/\ex.B W fp/\y.B W (if pb then(match M.sS rest with | some Tj=>Tj | none=>[]) else rest)/\(if pb then(match M.sS rest with | some Tj=>Tj | none=>[]) else rest).length<=200);case first =>
       cases pb
       ·go_wp2_with fail;go_meet;exact⟨⟨t,N,C⟩,Q.O,KU.O,KX.O,⟨KT.O,a12,US,z12⟩,by have:=Tg.O;simp;omega⟩
       ·have d9:=Q.O.cell 9;have g9:=Q.O.frozen 9;simp at d9;go_wp2_with fail;refine(IV t N C rest _ KT.O z a12).mono ?_;cases hu:M.sS rest with
        |none =>
         rw[show pT t C rest=aB #[ae I 0 0,ai false] from by unfold pT;rw[hu]];have HU:=au hu;clear hu;rintro e Vq ⟨rfl,hv⟩;have Tw:=hv.symm;subst Tw;go_wp2_with fail;refine(mP g R 2 _ Q.O.rd).mono ?_;rintro e VC ⟨rfl,UW,u14⟩;have Tp:=Q.O.call UW u14;have UX:=Q.O.tl KU.O u14 aR;have UY:=KX.O.map (λq=>Q.O.tl q u14 aR);have h9:=Tp.cell 9;have k9:=Tp.frozen 9;simp at h9;obtain⟨TP,Tm,Tn⟩:=bU (Tp.store 9 (ae I 0 0)) (Tp.KD UX aR 9 (ae I 0 0)) (UY.map (λq=>Tp.KD q aR 9 (ae I 0 0)));clear Tp UX UY UW u14 d9 g9;go_wp2_with fail;go_meet;exact⟨.nil,by simpa[HU.O,Sl.nil]using TP.O,Tm.O,Tn.O,by simpa[HU.O]using Sl.vG,by simp[HU.O]⟩
        |some Tj =>
         obtain⟨z1,z2⟩:=Ft hu;rw[show pT t C rest=aB #[ae t Tj.length C,ai true] from by unfold pT;rw[hu]];obtain⟨HU,Ud⟩:=bu hu z1;clear hu z1;rintro e Vq ⟨rfl,hv⟩;have Tw:=hv.symm;subst Tw;have zl:Tj.length<=N:=by have:=Tg.O;omega
         have TZ:=KT.O.pre Tj.length zl;rw[<-Ud.O]at TZ;obtain⟨TP,Tm,Tn,Ua⟩:=cA (Q.O.store 9 (ae t Tj.length C)) (Q.O.KD KU.O aR 9 (ae t Tj.length C)) (KX.O.map (λq=>Q.O.KD q aR 9 (ae t Tj.length C))) (Q.O.KD TZ aR 9 (ae t Tj.length C));clear TZ;generalize UZ:Tj.length=zn at zl TP Tm Tn Ua ⊢;have Vr:=au UZ;clear UZ;go_wp2_with fail;go_meet;exact⟨⟨t,zn,C⟩,by simpa[HU.O]using TP.O,Tm.O,Tn.O,by simpa[HU.O]using(⟨Ua.O,aP zl a12,US,z12⟩:Sl.B _ ⟨t,zn,C⟩ Tj),by have:=Vr.O;simp[HU.O];omega⟩
      case rest =>
       obtain⟨y,S,U,X,Y,Vs⟩:=hcut;generalize Ub:(if pb then(match M.sS rest with | some _=>R | none=>R.fail 2) else R)=Tx at S;generalize Uc:(if pb then(match M.sS rest with | some Tj=>Tj | none=>[]) else rest)=cF at Y Vs;have E1:M.h1 b=(E,r1):=TC.O;have E2:M.h2 b=(o,r2):=by unfold M.h2;rw[E1];exact TD.O
       have E3:M.h3 b=(P,r3):=by unfold M.h3;rw[E2];exact TE.O
       have E4:M.h4 b=(T,r4):=by unfold M.h4;rw[E3];exact TF.O
       have E5:M.h5 b=(x5,r5):=by unfold M.h5;rw[E4];exact TG.O
       have E6:M.h6 b=r6:=by unfold M.h6;rw[E1,E5];exact TH.O
       have E7:M.h7 b=(l,u):=by unfold M.h7;rw[E1,E6];simp only;rw[HM.O];exact Tl.O
       have EH:M.JX b=D:=by unfold M.JX;rw[E1];exact TS.O.symm
       have ER:M.hR b=K:=by unfold M.hR M.xx M.h9 M.h8;rw[EH,E7];exact TW.O
       have EX:M.GJ b=fp:=by unfold M.GJ M.xx M.h9 M.h8;rw[EH,E7];exact UQ.O
       have EP:M.td b=pr:=by unfold M.td M.h8;rw[EH,E7];exact UP.O.symm
       have Ui:M.yk b=(rest,R):=by unfold M.yk;rw[ER];exact TX.O
       have Ty:M.N9 b=pb:=by unfold M.N9;rw[E1];exact TT.O.symm
       have U0:M.KG b=Tx:=by unfold M.KG;rw[Ty,Ui];exact Ub
       have EY:M.zN b=cF:=by unfold M.zN;rw[Ty,Ui];exact Uc
       have U1:M.wH b=⟨decide (128<=o),o % 128,P,T,x5,l,D,pr,fp,cF⟩:=by unfold M.wH;rw[E2,E3,E4,E5,E7,EH,EP,EX,EY]
       have U2:M.eP b=if Tx.end_≠0 then(.zero,Tx.end_) else(⟨decide (128<=o),o % 128,P,T,x5,l,D,pr,fp,cF⟩,0):=by unfold M.eP;rw[if_neg (lE HL.O),U0,U1]
       obtain⟨Tz,j,Tt,Vt,Vu⟩:=gY U2 S U X Y;clear E1 E2 E3 E4 E5 E6 E7 EH ER EX EP Ui Ty U0 EY U1 U2 Ub Uc S U X Y Q KU KX KT Tl TH HM TC TD TE TF TG TX UP TW UQ TS TT UF;go_wp2_with fail;refine(qy g Tx _ j.O.rd).mono ?_;rintro e VD ⟨rfl,hv⟩;have Tw:=hv.symm;subst Tw;generalize U3:Tx.end_=en at Tz ⊢;by_cases h0:en=0
       ·subst h0;have H:=Tz.O;rw[if_neg dt]at H;have HF:=au H;clear H Tz U3;have z0:=j.O.cell 0;have z1:=j.O.cell 1;have z2:=j.O.cell 2;have z3:=j.O.cell 3;have z4:=j.O.cell 4;have z5:=j.O.cell 5;have z6:=j.O.cell 6;have z7:=j.O.cell 7;have z8:=j.O.cell 8;have z9:=j.O.cell 9;simp at z0 z1 z2 z3 z4 z5 z6 z7 z8 z9;go_wp2_with (go_loud (refine jb _ rfl (.tmp 2) (.tmp 103) 76 rfl w.heap.size 0 76 sH rfl (uA ⟨decide (128<=o),o % 128,P,T,x5,l,D,pr,fp,cF⟩ ⟨A5,k,c5⟩ ex y) rfl Tryz.zf j.O.r (lO rfl) (Lv _ _ _ _) ?_;intro TA Uj u16));have f:aK TA w.heap.size 76 (uA ⟨decide (128<=o),o % 128,P,T,x5,l,D,pr,fp,cF⟩ ⟨A5,k,c5⟩ ex y):=by
         have e:de sH 0 (uA ⟨decide (128<=o),o % 128,P,T,x5,l,D,pr,fp,cF⟩ ⟨A5,k,c5⟩ ex y).toList=uA ⟨decide (128<=o),o % 128,P,T,x5,l,D,pr,fp,cF⟩ ⟨A5,k,c5⟩ ex y:=Bf _ _ _ _;rw[<-e];exact Uj
        have t0:=f.cell 0;have t1:=f.cell 1;have t2:=f.cell 2;have t3:=f.cell 3;have t4:=f.cell 4;have t5:=f.cell 5;have t6:=f.cell 6;have t7:=f.cell 7;have t8:=f.cell 8;have t9:=f.cell 9;simp at t0 t1 t2 t3 t4 t5 t6 t7 t8 t9;refine ax (v:=aB #[Pq ⟨decide (128<=o),o % 128,P,T,x5,l,D,pr,fp,cF⟩ ⟨A5,k,c5⟩ ex y,J V 0]) (by simp[aV,results16,go_sem,t0,t1,t2,t3,t4,t5,t6,t7,t8,t9]) rfl ?_;have d16:aC w TA:=j.O.d.trans (u16.below j.O.d.size (λi q=>by cases q;exact aj _));rw[HF.O];exact⟨⟨⟨A5,k,c5⟩,ex,y,rfl,⟨⟨Tt.O.one u16 j.O.r aR,n7,m7,wo HO.O⟩,Vt.O.map (λq=>q.one u16 j.O.r aR),Vu.O.map (λq=>q.one u16 j.O.r aR),by simp only;omega,q3,q4,q5,UN,⟨by have:=Tt.O.len;simp only;omega,by simp only;omega,by simp only;omega⟩⟩⟩,d16⟩
       ·have VE:(en==0)=false:=by simpa using h0
        have H:=Tz.O;rw[if_pos h0]at H;have HF:=au H;clear H Tz U3;go_wp2_with (refine jb _ rfl (.tmp 2) (.tmp 101) 76 rfl w.heap.size 0 76 sH rfl (uA .zero .nil .nil .nil) rfl Tryz.zf j.O.r (lO rfl) (Lv _ _ _ _) ?_;intro TA Uj u16);have f:aK TA w.heap.size 76 (uA .zero .nil .nil .nil):=by
         have e:de sH 0 (uA .zero .nil .nil .nil).toList=uA .zero .nil .nil .nil:=Bf _ _ _ _;rw[<-e];exact Uj
        have t0:=f.cell 0;have t1:=f.cell 1;have t2:=f.cell 2;have t3:=f.cell 3;have t4:=f.cell 4;have t5:=f.cell 5;have t6:=f.cell 6;have t7:=f.cell 7;have t8:=f.cell 8;have t9:=f.cell 9;simp at t0 t1 t2 t3 t4 t5 t6 t7 t8 t9;refine ax (v:=aB #[Pq .zero .nil .nil .nil,J V en]) (by simp[aV,results16,go_sem,t0,t1,t2,t3,t4,t5,t6,t7,t8,t9]) rfl ?_;have d16:aC w TA:=j.O.d.trans (u16.below j.O.d.size (λi q=>by cases q;exact aj _));rw[HF.O];exact⟨⟨.nil,.nil,.nil,rfl,Is _⟩,d16⟩
end
def lj{P:jB}{ops:Array mJ}{o:mJ}{a:Act}{w:aw}{K:Act->aw->Prop}{Q:Exit->Act->aw->Prop}{E:Prop}
  (hg:o.guard=I) (x v:oN) (t:TypeId) (e:o.op=Op.store t x v) (g off:Nat) (te:TypeId) (dx:Array Value) (j:a.eval x=aq (Z ⟨g,off,I⟩))
  (cs:Array Value) (k:(a.eval v).cells=cs) (b:(P.info? t).map (·.size)=Z cs.size) (h:aK w g te dx) (l:off+cs.size<=dx.size) (h1:∀v∈cs.toList,v.oneCell'=true)
  (m:∀w',aK w' g te (de dx off cs.toList)->cS (One g) w w'->K (a.put o.dst undef) w'):if ig o (sC ops a.tmps)=true then Oper.wp P o a w K Q else E:=by
 have hw:ig o (sC ops a.tmps)=true:=by simp[ig,hg]
 rw[if_pos hw];have c:=oF P g off te cs.toList 0 dx w h (by simpa using l) h1;rw[iw]at c;have d:(storeCells ⟨g,off,I⟩ cs.toList).run P w=.ok () (w.setRow g (de dx off cs.toList)):=c;cases f:P.info? t with
 |none=>simp[f]at b
 |some i =>
  have hi:i.size=cs.size:=by simpa[f]using b
  unfold Oper.wp;simp[execOp,e,Instr.storeAt,storeVar,j,k,sizeOf,typeInfo,f,hi,d,Result.andThen,Instr.sureAddr,asAddr];exact m _ (kQ w g dx _ te (0,0) h) (fW w g _)
end Go.Proofs.YtkfblammcilfhaaGreatDoor
