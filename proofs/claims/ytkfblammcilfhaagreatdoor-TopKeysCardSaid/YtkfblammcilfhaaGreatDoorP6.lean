import Derived.Test.YtkfblammcilfhaaGreatDoorP2
set_option linter.all false
set_option maxRecDepth 100000
set_option maxHeartbeats 100000000
open Go.ChangeShapes Go.WideShapes Go.ChangeAt Go.RowKit Go.Proofs.Tryz
open List renaming foldl_cons->eN,mem_append->bt
open Option renaming none->I,some->Z
namespace Go.Proofs.YtkfblammcilfhaaGreatDoor
section
namespace M
def SA:Option eu->Option eu->Prop
 |none,none=>True
 |some a,some b=>a.bQ=b.bQ/\a.any=b.any/\a.dv=b.dv
 |_,_=>False
def SA.refl:∀a,SA a a
 |none=>trivial
 |some a=>⟨rfl,rfl,rfl⟩
def SA.symm:∀{a b},SA a b->SA b a
 |none,none,_=>trivial
 |some a,some b,⟨h1,h2,h3⟩=>⟨h1.symm,h2.symm,h3.symm⟩
 |none,some _,h=>h.elim
 |some _,none,h=>h.elim
def SA.trans:∀{a b c},SA a b->SA b c->SA a c
 |none,none,none,_,_=>trivial
 |some a,some b,some c,⟨h1,h2,h3⟩,⟨d,e,f⟩=>⟨h1.trans d,h2.trans e,h3.trans f⟩
 |none,some _,_,h,_=>h.elim
 |some _,none,_,h,_=>h.elim
 |none,none,some _,_,h=>h.elim
 |some _,some _,none,_,h=>h.elim
structure aX(one:Int)(r s:Room):Prop where
 dA:r.dA=s.dA
 cN:r.cN=s.cN
 cJ:r.cJ=s.cJ
 dm:r.dm=s.dm
 cW:r.cW=s.cW
 aQ:r.aQ=s.aQ
 aO:r.aO=s.aO
 bp:r.bp=s.bp
 bh:∀x,x≠one->r.bh x=s.bh x
 aD:∀x,x≠one->r.aD x=s.aD x
 di:∀x,x≠one->r.di x=s.di x
 az:∀o,SA (r.az o) (s.az o)
 ret:∀w:eK,(2<=w.1->w.2≠one)->(w∈r.returned↔w∈s.returned)
variable {one:Int} {r s t:Room}
def aX.refl(one:Int)(r:Room):aX one r r:=⟨rfl,rfl,rfl,rfl,rfl,rfl,rfl,rfl,λ_ _=>rfl,λ_ _=>rfl,λ_ _=>rfl,λ_=>SA.refl _,λ_ _=>Iff.rfl⟩
def aX.symm(h:aX one r s):aX one s r:=
 ⟨h.dA.symm,h.cN.symm,h.cJ.symm,h.dm.symm,h.cW.symm,h.aQ.symm,h.aO.symm,h.bp.symm,λx q=>(h.bh x q).symm,λx q=>(h.aD x q).symm,λx q=>(h.di x q).symm,λo=>(h.az o).symm,λw q=>(h.ret w q).symm⟩
def aX.trans(h:aX one r s)(k:aX one s t):aX one r t:=
 ⟨h.dA.trans k.dA,h.cN.trans k.cN,h.cJ.trans k.cJ,h.dm.trans k.dm,h.cW.trans k.cW,h.aQ.trans k.aQ,h.aO.trans k.aO,h.bp.trans k.bp,λx q=>(h.bh x q).trans (k.bh x q),λx q=>(h.aD x q).trans (k.aD x q),λx q=>(h.di x q).trans (k.di x q),λo=>(h.az o).trans (k.az o),λw q=>(h.ret w q).trans (k.ret w q)⟩
def aX.dest(h:aX one r s):∃a b c d e f,s={ r with bh:=a,aD:=b,di:=c,az:=d,cj:=e,returned:=f }:=
 ⟨s.bh,s.aD,s.di,s.az,s.cj,s.returned,by rw[h.dA,h.cN,h.cJ,h.dm,h.cW,h.aQ,h.aO,h.bp]⟩
def yM{α β:Type}[DecidableEq α]{f g:α->β}{k x:α}{v:β}(h:f x=g x)(a:β)(e:v=a):set f k v x=set g k a x:=by unfold set;split<;>simp_all
def yL{α β:Type}[DecidableEq α]{f:α->β}{k x:α}{v:β}(h:x≠k):set f k v x=f x:=by unfold set;rw[if_neg h]
def aX.rX(r:Room)(v:Option dP):aX one { r with aD:=set r.aD one v } r:={ aX.refl one r with aD:=λx q=>yL q }
def aX.Pe(r:Room)(v:Option Sub):aX one { r with bh:=set r.bh one v } r:={ aX.refl one r with bh:=λx q=>yL q }
def aX.OP(r:Room)(v:Nat->Option Int):aX one { r with di:=set r.di one v } r:={ aX.refl one r with di:=λx q=>yL q }
def aX.rT(r:Room)(id:Nat)(f:Int):aX one (r.bR one id f) r:=by
 unfold Room.bR;split
 ·exact aX.OP r _
 ·exact aX.refl _ _
def aX.tI:∀(ids:List Nat) (r:Room),aX one (r.fI one ids) r
 |[],r=>aX.refl _ _
 |i::l,r=>(aX.tI l (r.bR one i 8)).trans (aX.rT r i 8)
def aX.QF(r:Room)(f:Int):aX one (r.ji one f) r:=aX.OP r _
def aX.Nx(r:Room)(o:bN)(f:eu->eu)(a:∀x,(f x).bQ=x.bQ/\(f x).any=x.any/\(f x).dv=x.dv):aX one (r.fG o f) r:=by
 unfold Room.fG;cases h:r.az o with
 |none=>exact aX.refl _ _
 |some x =>
  refine { aX.refl one r with az:=λp=>?_ };show SA (set r.az o (Z (f x)) p) (r.az p);unfold set;split
  ·rename_i e;subst e;rw[h];exact a x
  ·exact SA.refl _
def aX.RY(r:Room)(x:Int):aX one (r.ask x) r:=by
 unfold Room.ask;generalize r.pj x=l;revert r;induction l with
 |nil=>intro r;exact aX.refl _ _
 |cons a l b =>
  intro r;rw[eN];refine(b _).trans ?_;split
  ·split
   ·exact aX.Nx r _ _ (λ_=>⟨rfl,rfl,rfl⟩)
   ·exact aX.refl _ _
  ·exact aX.refl _ _
def aX.MZ:∀(l:List Int) (r:Room),aX one (l.foldl Room.ask r) r
 |[],r=>aX.refl _ _
 |x::l,r=>(aX.MZ l (r.ask x)).trans (aX.RY r x)
def aX.Br(r:Room)(l:Int):aX one (r.fj one l).1 r:=by
 unfold Room.fj;cases r.aD one with
 |none=>exact aX.refl _ _
 |some x=>exact aX.rX r _
def aX.Qq(x:Item)(r:Room):aX one (Room.iW x r one) r:=by
 unfold Room.iW;split
 ·split
  ·exact aX.refl _ _
  ·simp only;split
   ·exact(aX.rT _ _ _).trans (aX.rX r _)
   ·exact aX.rX r _
 ·exact aX.refl _ _
def aX.fo(h:aX one r s)(k:Int)(v:Option dP):aX one { r with aD:=set r.aD k v } { s with aD:=set s.aD k v }:={ h with aD:=λx q=>yM (h.aD x q) _ rfl }
def aX.sub(h:aX one r s)(k:Int)(v:Option Sub):aX one { r with bh:=set r.bh k v } { s with bh:=set s.bh k v }:={ h with bh:=λx q=>yM (h.bh x q) _ rfl }
def aX.MW(h:aX one r s){k:Int}(v:Nat->Option Int):aX one { r with di:=set r.di k v } { s with di:=set s.di k v }:={ h with di:=λx q=>yM (h.di x q) _ rfl }
def aX.count(h:aX one r s)(f:nH->nH):aX one (r.count f) (s.count f):={ h with bp:=congrArg f h.bp }
def aX.fO(h:aX one r s)(o:bN){a b:eu}(e:a.bQ=b.bQ/\a.any=b.any/\a.dv=b.dv):aX one { r with az:=set r.az o (Z a) } { s with az:=set s.az o (Z b) }:=
 by
 refine { h with az:=λp=>?_ }
 show SA (set r.az o (Z a) p) (set s.az o (Z b) p)
 unfold set;split
 ·exact e
 ·exact h.az p
def aX.bR(h:aX one r s)(k:Int)(id:Nat)(f:Int):aX one (r.bR k id f) (s.bR k id f):=by
 by_cases e:k=one
 ·subst e;exact((aX.rT r id f).trans h).trans (aX.rT s id f).symm
 ·unfold Room.bR;rw[h.di k e];split
  ·exact h.MW _
  ·exact h
def aX.foldl{α:Type}(f:Room->α->Room)(b:∀r s a,aX one r s->aX one (f r a) (f s a)):∀(l:List α) {r s:Room},aX one r s->aX one (l.foldl f r) (l.foldl f s)
 |[],_,_,h=>h
 |a::l,_,_,h=>aX.foldl f b l (b _ _ a h)
def aX.fI(h:aX one r s)(k:Int)(ids:List Nat):aX one (r.fI k ids) (s.fI k ids):=aX.foldl _ (λr s a q=>q.bR k a 8) ids h
def aX.ji(h:aX one r s){k:Int}(a:k≠one)(f:Int):aX one (r.ji k f) (s.ji k f):=by
 unfold Room.ji;rw[h.di k a];exact h.MW _
def aX.lJ(one:Int)(id:Nat)(f:Int):∀(l:List Int) {r s:Room},aX one r s->aX one (l.foldl (λr k=>r.bR k id f) r) ((l.filter (λk=>decide (k≠one))).foldl (λr k=>r.bR k id f) s)
 |[],_,_,h=>h
 |a::l,r,s,h=>by
  by_cases e:a=one
  ·rw[List.filter_cons_of_neg (by simpa using e),eN];subst e;exact aX.lJ _ id f l ((aX.rT r id f).trans h)
  ·rw[List.filter_cons_of_pos (by simpa using e),eN,eN];exact aX.lJ _ id f l (h.bR a id f)
def aX.ik(h:aX one r s)(p:Int):(r.ik p).filter (λk=>decide (k≠one))=(s.ik p).filter (λk=>decide (k≠one)):=by
 unfold Room.ik;rw[List.filter_filter,List.filter_filter];refine List.filter_congr λx _=>?_;by_cases e:x=one
 ·simp[e]
 ·rw[h.bh x e]
def aX.Pd(h:aX one r s)(p:Int){x:Int}(a:x≠one):x∈r.ik p↔x∈s.ik p:=by
 have:=h.ik p;have k:∀l:List Int,x∈l↔x∈l.filter (λk=>decide (k≠one)):=λl=>by simp[a]
 rw[k (r.ik p),this,<-k]
def aX.vE(h:aX one r s){l m:List Int}(e:l.filter (λk=>decide (k≠one))=m.filter (λk=>decide (k≠one)))(id:Nat)(f:Int) :
  aX one (l.foldl (λr k=>r.bR k id f) r) (m.foldl (λr k=>r.bR k id f) s):=by
 have a:=aX.lJ one id f l h;have b:=aX.lJ one id f m (aX.refl one s);rw[e]at a;exact a.trans b.symm
def aX.fj(h:aX one r s){k:Int}(a:k≠one)(l:Int):aX one (r.fj k l).1 (s.fj k l).1/\(r.fj k l).2=(s.fj k l).2:=by
 unfold Room.fj;rw[h.aD k a];cases s.aD k with
 |none=>exact⟨h,rfl⟩
 |some x=>exact⟨h.fo k _,rfl⟩
def aX.of(h:aX one r s){k:Int}(a:k≠one):r.of k=s.of k:=by unfold Room.of;rw[h.bh k a]
def aX.eG(h:aX one r s){k:Int}(a:k≠one):r.eG k=s.eG k:=by unfold Room.eG;rw[h.aD k a]
def aX.ready(h:aX one r s):r.ready=s.ready:=by
 unfold Room.ready;congr 1;funext o;have q:=h.az o;rw[h.dA,h.cJ];cases hr:r.az o<;>cases a:s.az o<;>rw[hr,a]at q
 ·exact q.elim
 ·exact q.elim
 ·simp only;rw[q.1]
def mA(r:Room)(w:eK):w∈r.dF↔w=(0,0)\/w=(1,0)\/((w.1=2\/w.1=3\/w.1=4)/\w.2∈gF/\(r.aD w.2).isSome=true):=by
 unfold Room.dF;rw[bt,List.mem_flatMap];constructor
 ·rintro(q | ⟨x,c,q⟩)
  ·simp at q;rcases q with q|q
   ·exact .inl q
   ·exact .inr (.inl q)
  ·split at q
   ·rename_i d;simp at q;rcases q with rfl|rfl|rfl
    ·exact .inr (.inr ⟨.inl rfl,c,d⟩)
    ·exact .inr (.inr ⟨.inr (.inl rfl),c,d⟩)
    ·exact .inr (.inr ⟨.inr (.inr rfl),c,d⟩)
   ·simp at q
 ·rintro(rfl|rfl | ⟨q,c,d⟩)
  ·left;simp
  ·left;simp
  ·right;refine⟨w.2,c,?_⟩;rw[if_pos d];obtain⟨a,b⟩:=w;simp only at q;rcases q with rfl|rfl|rfl<;>simp
def aX.worker(h:aX one r s)(w:eK)(hw:2<=w.1->w.2≠one):w∈r.dF↔w∈s.dF:=by
 rw[mA,mA];by_cases h2:2<=w.1
 ·rw[h.aD w.2 (hw h2)]
 ·constructor
  ·rintro(q|q | ⟨q,_⟩)
   ·exact .inl q
   ·exact .inr (.inl q)
   ·omega
  ·rintro(q|q | ⟨q,_⟩)
   ·exact .inl q
   ·exact .inr (.inl q)
   ·omega
def aX.may(h:aX one r s)(w:eK)(hw:2<=w.1->w.2≠one):r.may w=s.may w:=by
 unfold Room.may;have a:decide (w∈r.dF)=decide (w∈s.dF):=decide_eq_decide.2 (h.worker w hw);have b:decide (w∈r.returned)=decide (w∈s.returned):=decide_eq_decide.2 (h.ret w hw);rw[a,b,h.cN,h.dm,h.ready,h.dA];by_cases hm:w∈s.dF
 ·by_cases h0:w.1=0
  ·simp only[if_pos h0]
  ·by_cases h1:w.1=1
   ·simp only[if_neg h0,if_pos h1]
   ·have h2:2<=w.1:=by
     rcases(mA s w).1 hm with q|q | ⟨q,_⟩
     ·rw[q]at h0;exact absurd rfl h0
     ·rw[q]at h1;exact absurd rfl h1
     ·omega
    rw[h.aD w.2 (hw h2)]
 ·simp[hm]
def aX.fT(h:aX one r s)(b:cQ):aX one (r.fT b).1 (s.fT b).1/\(r.fT b).2=(s.fT b).2:=by
 obtain⟨S',a,B',c,Q',d,rfl⟩:=h.dest;unfold Room.fT;dsimp only;split
 ·exact⟨h,rfl⟩
 ·exact⟨{ h with dm:=rfl,bp:=rfl },rfl⟩
def aX.gg(h:aX one r s)(p a b c:Int):aX one (r.gg p a b c).1 (s.gg p a b c).1/\(r.gg p a b c).2=(s.gg p a b c).2:=by
 obtain⟨S',d,B',e,Q',f,rfl⟩:=h.dest;unfold Room.gg;dsimp only;split
 ·exact⟨h,rfl⟩
 split
 ·exact⟨h,rfl⟩
 split
 ·exact⟨h,rfl⟩
 split
 ·exact⟨h,rfl⟩
 split
 ·exact⟨h,rfl⟩
 refine⟨?_,rfl⟩;have q:=((h.fO (p,0) (a:=.new) (b:=.new) ⟨rfl,rfl,rfl⟩).fO (p,1) (a:=.new) (b:=.new) ⟨rfl,rfl,rfl⟩).fO (p,2) (a:=.new) (b:=.new) ⟨rfl,rfl,rfl⟩;exact⟨rfl,rfl,rfl,rfl,rfl,rfl,rfl,rfl,q.bh,q.aD,q.di,q.az,q.ret⟩
def aX.iJ(h:aX one r s){k:Int}(b:k≠one)(o q t:Int):aX one (r.iJ k o q t).1 (s.iJ k o q t).1/\(r.iJ k o q t).2=(s.iJ k o q t).2:=by
 unfold Room.iJ;rw[h.bh k b];obtain⟨S',c,B',d,Q',e,rfl⟩:=h.dest;dsimp only;split
 ·exact⟨h,rfl⟩
 split
 ·exact⟨h,rfl⟩
 split
 ·exact⟨h,rfl⟩
 have a:=(h.sub k (Z ⟨o,false,0⟩)).fo k (Z (.new o q t));exact⟨⟨rfl,rfl,rfl,rfl,rfl,rfl,rfl,rfl,a.bh,a.aD,a.di,a.az,a.ret⟩,rfl⟩
def aX.dN(h:aX one r s){k:Int}(a:k≠one)(p l:Int):aX one (r.dN k p l).1 (s.dN k p l).1/\(r.dN k p l).2=(s.dN k p l).2:=by
 unfold Room.dN;rw[h.eG a,h.bh k a];obtain⟨S',b,B',c,Q',d,rfl⟩:=h.dest;dsimp only;split
 ·exact⟨h,rfl⟩
 split
 ·exact⟨h,rfl⟩
 split
 ·exact⟨h,rfl⟩
 split
 ·exact⟨h,rfl⟩
 split
 ·exact⟨h,rfl⟩
 split
 ·exact⟨h,rfl⟩
 split
 ·exact⟨h,rfl⟩
 rename_i y _ _ _;exact(h.sub k (Z ⟨y.own,true,p⟩)).fj a l
def aX.iy(h:aX one r s){k:Int}(a:k≠one)(l:Int):aX one (r.iy k l).1 (s.iy k l).1/\(r.iy k l).2=(s.iy k l).2:=by
 unfold Room.iy;rw[h.of a];obtain⟨S',b,B',c,Q',d,rfl⟩:=h.dest;dsimp only;split
 ·exact⟨h,rfl⟩
 split
 ·exact⟨h,rfl⟩
 split
 ·exact⟨h,rfl⟩
 exact h.fj a l
def aX.jE(h:aX one r s){k:Int}(b:k≠one):aX one (r.jE k).1 (s.jE k).1/\(r.jE k).2=(s.jE k).2:=by
 unfold Room.jE;rw[h.bh k b];obtain⟨S',c,B',d,Q',e,rfl⟩:=h.dest;dsimp only;split
 ·exact⟨h,rfl⟩
 split
 ·exact⟨h,rfl⟩
 split
 ·exact⟨h,rfl⟩
 have a:=((h.ji b 7).sub k I).fo k I;exact⟨⟨rfl,rfl,rfl,rfl,rfl,rfl,rfl,rfl,a.bh,a.aD,a.di,a.az,a.ret⟩,rfl⟩
def aX.fU(h:aX one r s):aX one r.fU.1 s.fU.1/\r.fU.2=s.fU.2:=by
 obtain⟨S',a,B',b,Q',c,rfl⟩:=h.dest;unfold Room.fU;dsimp only;split
 ·exact⟨h,rfl⟩
 ·exact⟨{ h with cN:=rfl },rfl⟩
def aX.fg(h:aX one r s)(o:bN):aX one (r.fg o) (s.fg o):=by
 unfold Room.fg;have q:=h.az o;cases hr:r.az o<;>cases c:s.az o<;>rw[hr,c]at q
 ·exact h
 ·exact q.elim
 ·exact q.elim
 ·rename_i a b;simp only;have k:=h.fO o (a:={ a with dJ:=(iK r.dA.eA r.dA.ek a.dJ (r.wanted o) r.cJ).1 }) (b:={ b with dJ:=(iK s.dA.eA s.dA.ek b.dJ (s.wanted o) s.cJ).1 }) q;split<;>split<;>exact { k with }
def aX.tick(h:aX one r s):aX one r.tick.1 s.tick.1/\r.tick.2=s.tick.2:=by
 obtain⟨S',a,B',b,Q',c,rfl⟩:=h.dest;unfold Room.tick;dsimp only;split
 ·exact⟨h,rfl⟩
 ·refine⟨aX.foldl Room.fg (λr s o q=>q.fg o) eX ?_,rfl⟩;exact { h with cJ:=rfl }
def aX.fE(h:aX one r s){l m:List Int}(a:l.filter (λk=>decide (k≠one))=m.filter (λk=>decide (k≠one)))(id:Nat)(e:Int):aX one (fE r id l e) (fE s id m e):=by
 unfold M.fE;split
 ·exact h.vE a _ _
 split
 ·exact h.vE a _ _
 split
 ·exact h.vE a _ _
 exact h
def aX.ka(h:aX one r s)(o:bN){a b:eu}(e:a.bQ=b.bQ/\a.any=b.any/\a.dv=b.dv)(p:cR)(n:Int)(buf:mf){l m:List Int}(hm:∀x,x≠one->(x∈l↔x∈m)) :
  aX one (ka r o a p n buf l) (ka s o b p n buf m):=by
 have q:=h.fO o (a:={ a with bQ:=buf,any:=true,dv:=if !a.any||decide (a.dv<n) then n else a.dv,jc:=a.jc && !lx p.cF })
  (b:={ b with bQ:=buf,any:=true,dv:=if !b.any||decide (b.dv<n) then n else b.dv,jc:=b.jc && !lx p.cF }) ⟨rfl,rfl,by simp only[e.2.1,e.2.2]⟩
 refine { q with aO:=congrArg (· ++ [(⟨o,n,p⟩:kM)]) h.aO,bp:=congrArg (λc:nH=>{ c with fP:=c.fP+1 }) h.bp,di:=λx f=>?_ };show(if x∈l then set (r.di x) r.aO.length (Z 0) else r.di x)=(if x∈m then set (s.di x) s.aO.length (Z 0) else s.di x);rw[h.di x f,h.aO];by_cases d:x∈m
 ·rw[if_pos d,if_pos ((hm x f).2 d)]
 ·rw[if_neg d,if_neg (λq=>d ((hm x f).1 q))]
def aX.je(h:aX one r s)(o:bN)(p:cR):aX one (r.je o p) (s.je o p):=by
 rw[mS,mS];have q:=h.az o;cases hr:r.az o<;>cases c:s.az o<;>rw[hr,c]at q
 ·exact h
 ·exact q.elim
 ·exact q.elim
 ·rename_i a b;simp only;rw[h.dA,h.cJ,h.aO,q.1,q.2.1,q.2.2];exact(h.ka o q p _ _ (λx d=>h.Pd o.1 d)).fE (h.ik o.1) _ _
def aX.read(h:aX one r s):aX one r.read s.read:=by
 obtain⟨S',a,B',c,Q',d,rfl⟩:=h.dest;unfold Room.read;dsimp only;cases e:r.dm with
 |nil=>simp only;rw[e]at h;exact h
 |cons b q =>
  simp only;have k:aX one { r with dm:=q } { r with dm:=q,bh:=S',aD:=a,di:=B',az:=c,cj:=Q',returned:=d }:={ h with dm:=rfl };split
  ·cases ff b with
   |none=>exact k.count _
   |some l=>exact((aX.MZ l _).trans (k.count _)).trans (aX.MZ l _).symm
  ·split
   ·exact k.count _
   ·cases r.cW (eP b).1.bJ with
    |none=>exact k.count _
    |some o=>exact k.je o _
def aX.iW(h:aX one r s)(x:Item)(k:Int):aX one (Room.iW x r k) (Room.iW x s k):=by
 by_cases e:k=one
 ·subst e;exact((aX.Qq x r).trans h).trans (aX.Qq x s).symm
 ·unfold Room.iW;rw[h.di k e,h.aD k e];split
  ·cases s.aD k with
   |none=>exact h
   |some l =>
    simp only;rw[h.dA];cases(l.put s.dA.aG x).2 with
    |none=>simp only;have q:=h.fo k (Z (l.put s.dA.aG x).1);rw[h.dA]at q;exact q
    |some i=>simp only;have q:=(h.fo k (Z (l.put s.dA.aG x).1)).bR k i 6;rw[h.dA]at q;exact q
  ·exact h
def aX.order(h:aX one r s):aX one r.order s.order:=by
 unfold Room.order;rw[h.ready];cases s.ready with
 |none=>exact h
 |some o =>
  simp only;have q:=h.az o;cases hr:r.az o<;>cases g:s.az o<;>rw[hr,g]at q
  ·exact h
  ·exact q.elim
  ·exact q.elim
  ·rename_i a b;obtain⟨d,e,f,a1,a2⟩:=a;obtain⟨i,ba,bg,b1,b2⟩:=b;obtain⟨rfl,rfl,rfl⟩:d=i/\e=ba/\f=bg:=q;simp only;cases d.bD with
   |nil=>exact h
   |cons c t =>
    simp only;have j:=h.fO o (a:=⟨d.least,e,f,a1,a2⟩) (b:=⟨d.least,e,f,b1,b2⟩) ⟨rfl,rfl,rfl⟩;rw[show(r.aO.getD c.id ⟨(0,0),0,.zero⟩)=s.aO.getD c.id ⟨(0,0),0,.zero⟩ from by rw[h.aO]];exact aX.foldl _ (λr s k q=>q.iW _ k) gF j
def aX.gq(h:aX one r s){k:Int}(a:k≠one):aX one (r.gq k) (s.gq k):=by
 unfold Room.gq;rw[h.aD k a];cases s.aD k with
 |none=>exact h
 |some l =>
  simp only;split
  ·exact(h.fo k _).bR k _ _
  ·exact h.fo k _
def aX.fD(h:aX one r s){k:Int}(a:k≠one):aX one (r.fD k) (s.fD k):=by
 unfold Room.fD;rw[h.aD k a];obtain⟨S',b,B',c,Q',d,rfl⟩:=h.dest;dsimp only;cases b k with
 |none=>exact h
 |some l =>
  simp only;cases(l.eO r.dA.aG).2 with
  |none=>exact h.fo k (Z (l.eO r.dA.aG).1)
  |some i=>exact(h.fo k (Z (l.eO r.dA.aG).1)).bR k i 6
def aX.kg(h:aX one r s)(k:Int)(l:dP)(id:Nat)(f:Int):aX one (kg r k l id f) (kg s k l id f):=by
 unfold M.kg;split
 ·exact(h.fo k (Z l)).bR k id 1
 ·exact h.fo k (Z l)
def aX.nA(h:aX one r s){k:Int}(b:k≠one)(g:Bool):aX one (nA r k g) (nA s k g):=by
 unfold M.nA;split
 ·have c:=h.ji b 7;refine { c with bh:=λx a=>?_ };show(match r.bh k with | some y=>if y.cL then set r.bh k (Z ⟨y.own,false,0⟩) else r.bh | none=>r.bh) x=(match s.bh k with | some y=>if y.cL then set s.bh k (Z ⟨y.own,false,0⟩) else s.bh | none=>s.bh) x;rw[h.bh k b];cases s.bh k with
  |none=>exact h.bh x a
  |some y =>
   simp only;split
   ·exact yM (h.bh x a) _ rfl
   ·exact h.bh x a
 ·exact h
def aX.jS(h:aX one r s){k:Int}(b:k≠one)(a:Bool):aX one (r.jS k a) (s.jS k a):=by
 rw[kh,kh,h.aD k b];cases s.aD k with
 |none=>exact h
 |some l=>simp only;rw[h.dA];exact(h.kg k _ _ _).nA b _
def aX.cP(h:aX one r s)(o:bN):aX one (r.cP o) (s.cP o):=by
 unfold Room.cP;have q:=h.az o;cases hr:r.az o<;>cases c:s.az o<;>rw[hr,c]at q
 ·exact h
 ·exact q.elim
 ·exact q.elim
 ·rename_i a b;obtain⟨d,e,f,a1,a2⟩:=a;obtain⟨g,ba,bg,b1,b2⟩:=b;obtain⟨rfl,rfl,rfl⟩:d=g/\e=ba/\f=bg:=q;exact aX.foldl _ (λr s id q=>aX.foldl _ (λr s k q=>q.bR k id 8) gF q) _ (h.fO o ⟨rfl,rfl,rfl⟩)
def Na(w b:eK)(h:ahead w=Z b):(w.1=1->b=(0,0))/\(w.1=2->b=(1,0))/\(w.1≠1->w.1≠2->b=(w.1-1,w.2)):=by
 unfold ahead at h;split at h
 ·cases h
 split at h
 ·cases h;exact⟨λ_=>rfl,λq=>z,λq=>z⟩
 split at h
 ·cases h;exact⟨λq=>z,λ_=>rfl,λ_ q=>z⟩
 ·cases h;exact⟨λq=>z,λq=>z,λ_ _=>rfl⟩
def aX.returned(h:aX one r s)(w:eK)(hw:2<=w.1->w.2≠one):aX one (back r w) (back s w):=by
 have e:qz r w=qz s w:=by
  unfold qz;cases c:ahead w with
  |none=>rfl
  |some b =>
   obtain⟨a1,a2,a3⟩:=Na w b c;refine decide_eq_decide.2 (h.ret b λa=>?_);by_cases h1:w.1=1
   ·rw[a1 h1]at a;simp at a
   ·by_cases h2:w.1=2
    ·rw[a2 h2]at a;simp at a
    ·rw[a3 h1 h2]at a ⊢;exact hw (by simp at a;omega)
 unfold back;rw[e];split
 ·refine { h with ret:=λv d=>?_ };show v∈r.returned++[w]↔v∈s.returned++[w];rw[bt,bt,h.ret v d]
 ·exact h
def aX.jd(h:aX one r s)(w:eK)(hw:2<=w.1->w.2≠one)(a:0<=w.1):aX one (jd r w) (jd s w):=by
 unfold M.jd;by_cases h0:w.1=0
 ·rw[if_pos h0,if_pos h0];refine { h with dm:=rfl,bp:=?_ };show({ r.bp with jw:=r.bp.jw+r.dm.length }:nH)={ s.bp with jw:=s.bp.jw+s.dm.length };rw[h.bp,h.dm]
 ·rw[if_neg h0,if_neg h0];by_cases h1:w.1=1
  ·rw[if_pos h1,if_pos h1];exact aX.foldl Room.cP (λr s o q=>q.cP o) eX h
  ·rw[if_neg h1,if_neg h1];have h2:w.2≠one:=hw z;rw[h.aD w.2 h2];cases s.aD w.2 with
   |none=>exact h
   |some l =>
    simp only;split
    ·exact(h.fo w.2 _).fI w.2 _
    split
    ·exact(h.fo w.2 _).fI w.2 _
    ·exact(h.fo w.2 _).fI w.2 _
def aX.ku(h:aX one r s)(w:eK)(hw:2<=w.1->w.2≠one)(a:0<=w.1):aX one (r.ku w) (s.ku w):=(h.jd w hw a).returned w hw
def Gq{r:Room}{w:eK}(h:r.may w=true):w∈r.dF:=by
 unfold Room.may at h;simp only[Bool.and_eq_true,decide_eq_true_eq]at h;exact h.1
def aX.pick(h:aX one r s)(w:eK)(a:Bool)(hw:2<=w.1->w.2≠one):aX one (r.pick w a).1 (s.pick w a).1/\(r.pick w a).2=(s.pick w a).2:=by
 unfold Room.pick;rw[h.may w hw];by_cases hm:s.may w=true
 ·have b:¬(!s.may w)=true:=by rw[hm];simp
  rw[if_neg b,if_neg b];refine⟨?_,rfl⟩;have d:=(mA s w).1 (Gq hm);have g:0<=w.1:=by
   rcases d with q|q | ⟨q,_⟩
   ·rw[q];decide
   ·rw[q];decide
   ·omega
  have f:=h.cN;by_cases c:s.cN=true
  ·have e:r.cN=true:=by rw[f];exact c
   show aX one (if r.cN=true then _ else _) (if s.cN=true then _ else _);rw[if_pos c,if_pos e];exact h.ku w hw g
  ·have e:¬r.cN=true:=by rw[f];exact c
   show aX one (if r.cN=true then _ else _) (if s.cN=true then _ else _);rw[if_neg c,if_neg e];split
   ·exact h.read
   split
   ·exact h.order
   split
   ·exact h.gq (hw z)
   split
   ·exact h.fD (hw z)
   ·exact h.jS (hw z) a
 ·have b:(!s.may w)=true:=by simp[hm]
  rw[if_pos b,if_pos b];exact⟨h,rfl⟩
def MY(R:Room)(w:eK)(h2:2<=w.1)(hR:aX w.2 R r):aX w.2 (back R w) r:=by
 unfold back;split
 ·refine aX.trans { aX.refl w.2 R with ret:=λv a=>?_ } hR;show v∈R.returned++[w]↔v∈R.returned;rw[bt];constructor
  ·rintro(q|q)
   ·exact q
   ·simp at q;subst q;exact absurd rfl (a h2)
  ·exact .inl
 ·exact hR
def Ha(r:Room)(k:Int):aX k (r.gq k) r:=by
 unfold Room.gq;cases r.aD k with
 |none=>exact aX.refl _ _
 |some l =>
  simp only;split
  ·exact(aX.rT _ _ _).trans (aX.rX r _)
  ·exact aX.rX r _
def DE(r:Room)(k:Int):aX k (r.fD k) r:=by
 unfold Room.fD;cases r.aD k with
 |none=>exact aX.refl _ _
 |some l =>
  simp only;cases(l.eO r.dA.aG).2 with
  |none=>exact aX.rX r _
  |some i=>exact(aX.rT _ _ _).trans (aX.rX r _)
def IQ(r:Room)(k:Int)(a:Bool):aX k (r.jS k a) r:=by
 rw[kh];cases r.aD k with
 |none=>exact aX.refl _ _
 |some l =>
  simp only;generalize (l.write r.dA.aT a).1=d;generalize (l.write r.dA.aT a).2.1=id;generalize (l.write r.dA.aT a).2.2=f;have b:aX k (M.kg r k d id f) r:=by
   unfold M.kg;split
   ·exact(aX.rT _ _ _).trans (aX.rX r _)
   ·exact aX.rX r _
  generalize M.kg r k d id f=R at b ⊢;unfold M.nA;split
  ·have e:=(aX.QF (one:=k) R 7).trans b;refine { e with bh:=λx c=>?_ };show(match R.bh k with | some y=>if y.cL then set R.bh k (Z ⟨y.own,false,0⟩) else R.bh | none=>R.bh) x=_;cases R.bh k with
   |none=>exact b.bh x c
   |some y =>
    simp only;split
    ·exact(yL c).trans (b.bh x c)
    ·exact b.bh x c
  ·exact b
def J8(r:Room)(w:eK)(h2:2<=w.1):aX w.2 (M.jd r w) r:=by
 unfold M.jd;rw[if_neg z,if_neg z];cases r.aD w.2 with
 |none=>exact aX.refl _ _
 |some l =>
  simp only;split
  ·exact(aX.tI _ _).trans (aX.rX r _)
  split
  ·exact(aX.tI _ _).trans (aX.rX r _)
  ·exact(aX.tI _ _).trans (aX.rX r _)
def Lw(r:Room)(w:eK)(a:Bool)(h2:2<=w.1)(hw:w.2=one):aX one (r.pick w a).1 r:=by
 subst hw;unfold Room.pick;split
 ·exact aX.refl _ _
 show aX w.2 (if r.cN=true then _ else _) r;split
 ·exact MY _ w h2 (J8 r w h2)
 rw[if_neg z,if_neg z];split
 ·exact Ha r w.2
 split
 ·exact DE r w.2
 ·exact IQ r w.2 a
def Oo(r:Room)(x:Act)(h:4<=x.nv/\x.nv<=7/\x.sub=one\/x.nv=1/\2<=x.w.1/\x.w.2=one):aX one (r.act x).1 r:=by
 unfold Room.act;rcases h with⟨h1,h2,h3⟩ | ⟨h1,h2,h3⟩
 ·rw[if_neg z,if_neg z,if_neg z,if_neg z];subst h3;split
  ·unfold Room.iJ;repeat' split
   all_goals first|exact aX.refl _ _|exact(aX.rX { r with bh:=set r.bh x.sub (Z ⟨x.own,false,0⟩) } _).trans (aX.Pe r _)
  split
  ·unfold Room.dN;repeat' split
   all_goals first|exact aX.refl _ _|exact(aX.Br _ _).trans (aX.Pe r _)
  split
  ·unfold Room.iy;repeat' split
   all_goals first|exact aX.refl _ _|exact aX.Br _ _
  rw[if_pos z];unfold Room.jE;repeat' split
  all_goals first|exact aX.refl _ _|exact((aX.rX { (r.ji x.sub 7) with bh:=set r.bh x.sub I } _).trans (aX.Pe (r.ji x.sub 7) _)).trans (aX.QF r 7)
 ·rw[if_neg z,if_pos h1];exact Lw r x.w x.fq h2 h3
def aX.act(h:aX one r s)(x:Act)(e:¬(4<=x.nv/\x.nv<=7/\x.sub=one\/x.nv=1/\2<=x.w.1/\x.w.2=one)):aX one (r.act x).1 (s.act x).1/\(r.act x).2=(s.act x).2:=by
 have key:∀{a b:Room×Int},aX one a.1 b.1/\a.2=b.2->aX one (a.1,a.2,false).1 (b.1,b.2,false).1/\(a.1,a.2,false).2=(b.1,b.2,false).2:=λq=>⟨q.1,by rw[show _=_ from q.2]⟩;have d:4<=x.nv->x.nv<=7->x.sub≠one:=λa b c=>e (.inl ⟨a,b,c⟩);have hp:x.nv=1->2<=x.w.1->x.w.2≠one:=λa b c=>e (.inr ⟨a,b,c⟩);unfold Room.act;split
 ·exact key (h.fT x.b)
 split
 ·have q:=h.pick x.w x.fq (hp (by assumption));exact⟨q.1,by rw[show _=_ from q.2]⟩
 split
 ·exact key h.tick
 split
 ·exact key (h.gg x.jo x.s0 x.s1 x.s2)
 split
 ·exact key (h.iJ (d z z) _ _ _)
 split
 ·exact key (h.dN (d z z) _ _)
 split
 ·exact key (h.iy (d z z) _)
 split
 ·exact key (h.jE (d z z))
 split
 ·exact key h.fU
 ·exact⟨h,rfl⟩
end M
end
end Go.Proofs.YtkfblammcilfhaaGreatDoor
