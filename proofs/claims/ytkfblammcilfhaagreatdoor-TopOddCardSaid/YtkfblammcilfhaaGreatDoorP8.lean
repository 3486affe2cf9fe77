import Derived.ScopeJumps
import Derived.Test.YtkfblammcilfhaaGreatDoorP5
import Derived.Test.YtkfblammcilfhaaGreatDoorP6
set_option linter.all false
set_option maxRecDepth 100000
set_option maxHeartbeats 100000000
open Go.ChangeShapes Go.WideShapes Go.ChangeAt Go.RowKit Go.Proofs.Tryz
open Go renaming World->aw,zeroValue->ja,Calls->aF,bodyPost_ret->ax,results->aV,info_parts->cY,wpList_append_own->dM
open Go.Value renaming int->J,slice->ae,bool->ai,pointer->aq,tuple->aB,agg->cg
open Go.Proofs.Tryz renaming prog->af
open Go.RowKit.Below renaming refl->ao
open Nat renaming le_refl->aj,le_of_eq->lO,le_trans->aP
open Option renaming getD_none->gy,isSome_none->fy,getD_some->gS,isSome_some->fQ,none->I,some->Z
open Go.Instr renaming lookup->cD,entry->sF
open Go.Lit renaming int->dU
open List renaming mem_cons->fw,mem_cons_of_mem->dI,mem_filter->eL,length_filter_le->eE,length_mergeSort->oU,filter_append->ju
open List.Nodup renaming length_le_of_subset->dX
open Go.IntKind renaming i64->V,u32->ar,u16->aN,u8->bI
open Go.Ending renaming returned->av
open Or renaming inl->aJ,inr->aZ
namespace Go.Proofs.YtkfblammcilfhaaGreatDoor
section
structure sL where
 g:Nat
 mo:Nat
 ms:Nat
 mu:Nat
def sL.own(T:sL)(i:Nat):Prop:=i=T.g\/i=T.mo\/i=T.ms\/i=T.mu
abbrev vV(s:M.Sub):Value:=cg #[J ar s.own,ai s.cL,J V s.jo]
structure fA(w:aw)(T:sL)(or:Int->Option M.bN)(so:M.bN->Option Int)(su:Int->Option M.Sub)(N:Nat):Prop where
 cw:aK w T.g 208 #[.map (Z T.mo),.map (Z T.ms),.map (Z T.mu)]
 o:gA KU w T.mo (λx=>(or x).map pv) N
 s:gA KO w T.ms (λx=>(so x).map (J ar)) N
 u:gA KI w T.mu (λx=>(su x).map vV) N
 ne:T.mo≠T.ms/\T.mo≠T.mu/\T.ms≠T.mu
theorem yY:af.underlying 205=Z (.map KU.k 91):=underlying205
theorem BX:af.underlying 82=Z (.map KO.k 41):=underlying82
theorem sU:af.underlying 206=Z (.map KI.k 292):=underlying206
theorem KK(w:aw):(ja 91).run af w=.ok (pv (0,0)) w:=cC
theorem KM(w:aw):(ja 41).run af w=.ok (J ar 0) w:=cC
theorem Ib(w:aw):(ja 292).run af w=.ok (vV ⟨0,false,0⟩) w:=cC
section
variable {w w':aw} {T:sL} {or:Int->Option M.bN} {so:M.bN->Option Int} {su:Int->Option M.Sub} {N:Nat}
theorem fA.lt(h:fA w T or so su N):∀i,T.own i->i<w.heap.size:=by
 rintro i (rfl|rfl|rfl|rfl)
 ·exact h.cw.lt
 ·exact h.o.lt
 ·exact h.s.lt
 ·exact h.u.lt
theorem fA.dW{F:Nat->Prop}(h:fA w T or so su N)(u:cS F w w')(hF:∀i,T.own i->¬F i):fA w' T or so su N:=
 ⟨h.cw.dW u (hF _ (aJ rfl)),h.o.dW u (hF _ (aZ (aJ rfl))),h.s.dW u (hF _ (aZ (aZ (aJ rfl)))),h.u.dW u (hF _ (aZ (aZ (aZ rfl)))),h.ne⟩
theorem fA.below(h:fA w T or so su N)(u:aC w w'):fA w' T or so su N:=h.dW (F:=cr) (.bn u) (λ_ _=>id)
theorem fA.mono{M':Nat}(h:fA w T or so su N)(a:N<=M'):fA w T or so su M':=⟨h.cw,h.o.mono a,h.s.mono a,h.u.mono a,h.ne⟩
end
theorem FB(w:aw):aF af 34 #[] w λe w'=>∃T:sL,e=av (aq (Z ⟨T.g,0,I⟩))/\fA w' T (λ_=>I) (λ_=>I) (λ_=>I) 0/\aC w w'/\∀i,T.own i->w.heap.size<=i:=by
 have m1:=gA.made w KU;have m2:=gA.made (w.alloc (.map #[] 0)) KO;have m3:=gA.made ((w.alloc (.map #[] 0)).alloc (.map #[] 0)) KI;have a:aC w ((((w.alloc (.map #[] 0)).alloc (.map #[] 0)).alloc (.map #[] 0)).alloc (.cells #[.map (Z w.heap.size),.map (Z (w.heap.size+1)),.map (Z (w.heap.size+1+1))] 208)):=((((ao _ w).alloc (aj _) _).alloc dt _).alloc dZ _).alloc dZ _;have b:=aK.newAt (((w.alloc (.map #[] 0)).alloc (.map #[] 0)).alloc (.map #[] 0)) 208 #[.map (Z w.heap.size),.map (Z (w.heap.size+1)),.map (Z (w.heap.size+1+1))] (w.heap.size+1+1+1) dt;have a1:=((m1.below ((ao _ _).alloc (aj _) (.map #[] 0))).below ((ao _ _).alloc (aj _) (.map #[] 0))).below ((ao _ _).alloc (aj _) (.cells #[.map (Z w.heap.size),.map (Z (w.heap.size+1)),.map (Z (w.heap.size+1+1))] 208));have a2:=(m2.below ((ao _ _).alloc (aj _) (.map #[] 0))).below ((ao _ _).alloc (aj _) (.cells #[.map (Z w.heap.size),.map (Z (w.heap.size+1)),.map (Z (w.heap.size+1+1))] 208));have a3:=m3.below ((ao _ _).alloc (aj _) (.cells #[.map (Z w.heap.size),.map (Z (w.heap.size+1)),.map (Z (w.heap.size+1+1))] 208));simp only[World.size_alloc]at a2 a3;obtain⟨H1,c,d,f,h⟩:=gY a1 a2 a3 b a;clear m1 m2 m3 a1 a2 a3 b a;have j:=@run_makeMap af;go_enter func34,ntmps34;go_wp2_with fail;go_ret;refine⟨⟨w.heap.size+1+1+1,w.heap.size,w.heap.size+1,w.heap.size+1+1⟩,rfl,⟨f.O,H1.O,c.O,d.O,by show w.heap.size≠w.heap.size+1;omega,by show w.heap.size≠w.heap.size+1+1;omega,by show w.heap.size+1≠w.heap.size+1+1;omega⟩,h.O,?_⟩;rintro i (rfl|rfl|rfl|rfl)<;>simp<;>omega
theorem zC(p:Int)(w:aw):aF af 144 #[J V p] w λe w'=>e=av (ai (M.mB p))/\w'=w:=by
 unfold M.mB;go_enter func144,ntmps144;by_cases h1:0<=p
 ·by_cases h2:p<3
  ·go_wp2_with fail;go_ret;exact⟨by simp[h1,h2],rfl⟩
  ·go_wp2_with fail;go_ret;exact⟨by simp[h1,h2],rfl⟩
 ·go_wp2_with fail;go_ret;exact⟨by simp[h1];try omega,rfl⟩
theorem tX(p:Int)(w:aw):aF af 147 #[J V p] w λe w'=>e=av (ai (M.fY p))/\w'=w:=by
 unfold M.fY;go_enter func147,ntmps147;by_cases h1:0<=p
 ·by_cases h2:p<6
  ·go_wp2_with fail;go_ret;exact⟨by simp[h1,h2],rfl⟩
  ·go_wp2_with fail;go_ret;exact⟨by simp[h1,h2],rfl⟩
 ·go_wp2_with fail;go_ret;exact⟨by simp[h1];try omega,rfl⟩
section
variable (T:sL) (or:Int->Option M.bN) (so:M.bN->Option Int) (su:Int->Option M.Sub) (N:Nat) (w:aw) (h:fA w T or so su N)
include h
theorem vt(p:Int)(hp:-1000000000000<=p/\p<=1000000000000):aF af 146 #[aq (Z ⟨T.g,0,I⟩),J V p] w λe w'=>e=av (ai (so (p,0)).isSome)/\w'=w:=by
 have a:=h.s.my xM BX (p,0) (ir hp (by constructor<;>simp)) (KM w);have c1:=h.cw.cell 1;simp at c1;cases b:so (p,0) with
 |none =>
  simp only[b,Option.map_none,gy,fy]at a;have a:(cD 82 (.map (Z T.ms)) (cg #[J V p,J V 0]) true).run af w=.ok (aB #[J ar 0,ai false]) w:=a;go_enter func146,ntmps146;go_wp2_with fail;go_ret;exact⟨rfl,rfl⟩
 |some x =>
  simp only[b,Option.map_some,gS,fQ]at a;have a:(cD 82 (.map (Z T.ms)) (cg #[J V p,J V 0]) true).run af w=.ok (aB #[J ar x,ai true]) w:=a;go_enter func146,ntmps146;go_wp2_with fail;go_ret;exact⟨rfl,rfl⟩
theorem MH(x:Int)(f:(dU ar x).wf=true):aF af 123 #[aq (Z ⟨T.g,0,I⟩),J ar x] w λe w'=>e=av (aB #[pv ((or x).getD (0,0)),ai (or x).isSome])/\aC w w':=by
 have h2:=h.below ((ao _ w).alloc (aj _) (.cells #[J V 0,J V 0] 91));have c:=h2.o.my Hz yY x f (KK _);have i:=h2.cw.cell 0;simp at i;have c:(cD 205 (.map (Z T.mo)) (J ar x) true).run af (w.alloc (.cells #[J V 0,J V 0] 91))=.ok (aB #[pv ((or x).getD (0,0)),ai (or x).isSome]) (w.alloc (.cells #[J V 0,J V 0] 91)):=by
  refine c.trans ?_;cases or x<;>rfl
 obtain⟨a,b,d⟩:∃a b,(or x).getD (0,0)=(a,b):=⟨_,_,rfl⟩;rw[d]at c ⊢;generalize (or x).isSome=k at c ⊢;clear h h2 d;go_enter func123,ntmps123;go_wp2_with fail;refine ax (v:=aB #[pv (a,b),ai k]) (by simp[aV,results123,go_sem]) rfl ⟨rfl,?_⟩;exact((ao _ w).alloc (aj _) _).alloc dt _
theorem FJ(o:M.bN)(m:Gi o):aF af 142 #[aq (Z ⟨T.g,0,I⟩),pv o] w λe w'=>e=av (aB #[J ar ((so o).getD 0),ai (so o).isSome])/\aC w w':=by
 obtain⟨b,c⟩:=o;have h2:=h.below ((ao _ w).alloc (aj _) (.cells #[J V b,J V c] 91));have d:∀W,fA W T or so su N->(cD 82 (.map (Z T.ms)) (cg #[J V b,J V c]) true).run af W=.ok (aB #[J ar ((so (b,c)).getD 0),ai (so (b,c)).isSome]) W:=λW n=>by
  refine(n.s.my xM BX (b,c) m (KM _)).trans ?_;cases so (b,c)<;>rfl
 have f:=au d;generalize (so (b,c)).getD 0=a at f ⊢;generalize (so (b,c)).isSome=k at f ⊢;go_enter func142,ntmps142;go_upto_region 1 with fail;obtain⟨p,i⟩:=dH w.heap.size;rw[<-i];refine aW (λW=>aK W p 91 #[J V b,J V c]/\fA W T or so su N/\aC w W) ⟨aK.newAt _ _ _ _ i,h2,(ao _ w).alloc (aj _) _⟩ ?_;rintro W ⟨b3,j,l⟩;clear i h h2 d;have c1:=j.cw.cell 1;have r:=b3.cell 0;have t:=b3.cell 1;simp at c1 r t;have d:=f.O W.drew (j.dW (F:=cr) (cS.refl cr W).drew (λ_ _ q=>q));clear j b3;go_region;all_goals
  go_wp2_with fail;refine ax (v:=aB #[J ar a,ai k]) (by simp[aV,results142,go_sem]) rfl ⟨rfl,?_⟩;first|exact l|exact cd l _
theorem LO(s:Int)(i:(dU V s).wf=true):aF af 91 #[aq (Z ⟨T.g,0,I⟩),J V s] w λe w'=>e=av (aB #[J V ((su s).getD ⟨0,false,0⟩).jo,ai ((su s).getD ⟨0,false,0⟩).cL])/\aC w w':=by
 have c:(cD 206 (.map (Z T.mu)) (J V s) false).run af w=.ok (vV ((su s).getD ⟨0,false,0⟩)) w:=by
  refine(h.u.sW rB sU s i (Ib w)).trans ?_;cases su s<;>rfl
 have c2:=h.cw.cell 2;simp at c2;obtain⟨a,k,p,d⟩:∃a k p,(su s).getD ⟨0,false,0⟩=⟨a,k,p⟩:=⟨_,_,_,rfl⟩;rw[d]at c ⊢;clear h d;go_enter func91,ntmps91;go_upto_region 2 with fail;obtain⟨j,b⟩:=dH w.heap.size;rw[<-b];refine aW (λW=>aK W j 292 #[J ar a,ai k,J V p]/\aC w W) ?_ ?_
 ·exact⟨aK.newAt _ _ _ _ b,(ao _ w).alloc (aj _) _⟩
 rintro W ⟨b3,f⟩;clear b c c2;have l:=b3.cell 1;have m:=b3.cell 2;simp at l m;clear b3;go_region;all_goals
  go_wp2_with fail;refine ax (v:=aB #[J V p,ai k]) (by simp[aV,results91,go_sem]) rfl ⟨rfl,?_⟩;first|exact f|exact cd f _
end
def vv(su:Int->Option M.Sub)(s:Int):Int:=if !M.fY s then 1 else if(su s).isSome then 6 else 0
def Bu(su:Int->Option M.Sub)(s own:Int):Int->Option M.Sub:=if vv su s=0 then M.set su s (Z ⟨own,false,0⟩) else su
def sI(su:Int->Option M.Sub)(s:Int):Int:=if !M.fY s then 1 else if(su s).isNone then 5 else 0
def xr(su:Int->Option M.Sub)(s:Int):Int->Option M.Sub:=if sI su s=0 then M.set su s I else su
theorem vC{s:Int}(h:M.fY s=true):(dU V s).wf=true:=by simp[M.fY]at h;exact Ig z z
section
variable {T:sL} {or:Int->Option M.bN} {so:M.bN->Option Int} {su:Int->Option M.Sub} {N:Nat} {w:aw} (h:fA w T or so su N)
include h
theorem fA.put(c:N<1000000)(s:Int)(d:(dU V s).wf=true)(x:M.Sub) :
  ∃a,(Instr.mapUpdate 206 (.map (Z T.mu)) (J V s) (vV x)).run af w=.ok () a/\fA a T or so (M.set su s (Z x)) (N+1)/\cS (One T.mu) w a:=by
 obtain⟨a,f,g,b⟩:=h.u.nX rB sU c s (vV x) d;refine⟨a,f,⟨h.cw.dW b (λq=>h.u.ki h.cw q.symm),(h.o.dW b (λq=>h.ne.2.1 q)).mono z,(h.s.dW b (λq=>h.ne.2.2 q)).mono z,g.congr λy=>?_,h.ne⟩,b⟩;unfold M.set;by_cases e:y=s<;>simp[e]
theorem fA.drop(s:Int)(c:(dU V s).wf=true)(ty:TypeId) :
  ∃a,(Builtin.delete_ #[206,3] ty #[.map (Z T.mu),J V s]).run af w=.ok (aB #[]) a/\fA a T or so (M.set su s I) N/\cS (One T.mu) w a:=by
 obtain⟨a,d,f,b⟩:=h.u.Dw rB sU s c ty;refine⟨a,d,⟨h.cw.dW b (λq=>h.u.ki h.cw q.symm),h.o.dW b (λq=>h.ne.2.1 q),h.s.dW b (λq=>h.ne.2.2 q),f.congr λy=>?_,h.ne⟩,b⟩;unfold M.set;by_cases e:y=s<;>simp[e]
theorem fA.look(s:Int)(a:(dU V s).wf=true):(cD 206 (.map (Z T.mu)) (J V s) true).run af w=.ok (aB #[vV ((su s).getD ⟨0,false,0⟩),ai (su s).isSome]) w:=by
 refine(h.u.my rB sU s a (Ib w)).trans ?_;cases su s<;>rfl
end
theorem sL.CI(T:sL):∀i,One T.mu i->T.own i:=λi q=>aZ (aZ (aZ q))
section
variable (T:sL) (or:Int->Option M.bN) (so:M.bN->Option Int) (su:Int->Option M.Sub) (N:Nat) (w:aw) (h:fA w T or so su N)
include h
theorem Mm(s own:Int)(r:N<1000000):aF af 86 #[aq (Z ⟨T.g,0,I⟩),J V s,J ar own] w λe w'=>e=av (J V (vv su s))/\fA w' T or so (Bu su s own) (N+1)/\cS T.own w w':=by
 unfold Bu vv;have j:=au (tX s w);cases hm:M.fY s with
 |false =>
  rw[hm]at j;have t:=au h;clear h;go_enter func86,ntmps86;go_wp2_with (refine j.O.mono ?_;rintro e w2 ⟨rfl,c⟩;have b:=c.symm;subst b);go_ret;exact⟨dt,by simpa using t.O.mono z,cS.refl _ _⟩
 |true =>
  rw[hm]at j;have wf:=vC hm;have d:=h.look s wf;have c2:=h.cw.cell 2;simp at c2;cases m:su s with
  |some x =>
   rw[m]at d;simp only[gS,fQ]at d;obtain⟨a,k,p⟩:=x;have f:aC w (w.alloc (.cells #[J ar a,ai k,J V p] 292)):=(ao _ w).alloc (aj _) _;have u:=au (h.below f);clear h;go_enter func86,ntmps86;go_wp2_with (refine j.O.mono ?_;rintro e w2 ⟨rfl,c⟩;have b:=c.symm;subst b);go_ret;exact⟨dt,by simpa using u.O.mono z,.bn f⟩
  |none =>
   rw[m]at d;simp only[gy,fy]at d;have f:aC w (w.alloc (.cells #[J ar 0,ai false,J V 0] 292)):=(ao _ w).alloc (aj _) _;obtain⟨A,B,n,o⟩:=(h.below f).put r s wf ⟨own,false,0⟩;obtain⟨v,y⟩:=bu n ((cS.bn (F:=T.own) f).trans (o.mono λi _ q=>T.CI i q));have l:=(h.below f).cw.cell 2;simp at l;clear h n o;go_enter func86,ntmps86;go_wp2_with (refine j.O.mono ?_;rintro e w2 ⟨rfl,c⟩;have b:=c.symm;subst b);go_ret;exact⟨dt,by simpa using v.O,y.O⟩
theorem Cc(s:Int):aF af 92 #[aq (Z ⟨T.g,0,I⟩),J V s] w λe w'=>e=av (J V (sI su s))/\fA w' T or so (xr su s) N/\cS T.own w w':=by
 unfold xr sI;have j:=au (tX s w);cases hm:M.fY s with
 |false =>
  rw[hm]at j;have r:=au h;clear h;go_enter func92,ntmps92;go_wp2_with (refine j.O.mono ?_;rintro e w2 ⟨rfl,c⟩;have b:=c.symm;subst b);go_ret;exact⟨dt,by simpa using r.O,cS.refl _ _⟩
 |true =>
  rw[hm]at j;have wf:=vC hm;have d:=h.look s wf;have c2:=h.cw.cell 2;simp at c2;cases m:su s with
  |none =>
   rw[m]at d;simp only[gy,fy]at d;have f:aC w (w.alloc (.cells #[J ar 0,ai false,J V 0] 292)):=(ao _ w).alloc (aj _) _;have t:=au (h.below f);clear h;go_enter func92,ntmps92;go_wp2_with (refine j.O.mono ?_;rintro e w2 ⟨rfl,c⟩;have b:=c.symm;subst b);go_ret;exact⟨dt,by simpa using t.O,.bn f⟩
  |some x =>
   rw[m]at d;simp only[gS,fQ]at d;obtain⟨a,k,p⟩:=x;have f:aC w (w.alloc (.cells #[J ar a,ai k,J V p] 292)):=(ao _ w).alloc (aj _) _;obtain⟨y,A,n,o⟩:=(h.below f).drop s wf 0;obtain⟨u,v⟩:=bu n ((cS.bn (F:=T.own) f).trans (o.mono λi _ q=>T.CI i q));have l:=(h.below f).cw.cell 2;simp at l;clear h n o;go_enter func92,ntmps92;go_wp2_with (refine j.O.mono ?_;rintro e w2 ⟨rfl,c⟩;have b:=c.symm;subst b);go_ret;exact⟨dt,by simpa using u.O,v.O⟩
end
end
section
def xe(so:M.bN->Option Int)(su:Int->Option M.Sub)(s p:Int):Int:=
 if(!M.fY s || !M.mB p)=true then 1 else match su s with
  |none=>5
  |some x=>if(so (p,0)).isSome=false then 5 else if x.cL then 6 else 0
def Dr(so:M.bN->Option Int)(su:Int->Option M.Sub)(s p:Int):Int->Option M.Sub:=
 if xe so su s p=0 then M.set su s (Z ⟨((su s).getD ⟨0,false,0⟩).own,true,p⟩) else su
def BW(su:Int->Option M.Sub)(s:Int):Int:=if !M.fY s then 1 else if((su s).getD ⟨0,false,0⟩).cL then 0 else 5
def BV(su:Int->Option M.Sub)(s:Int):Int->Option M.Sub:=if BW su s=0 then M.set su s (Z ⟨((su s).getD ⟨0,false,0⟩).own,false,0⟩) else su
section
variable (T:sL) (or:Int->Option M.bN) (so:M.bN->Option Int) (su:Int->Option M.Sub) (N:Nat) (w:aw) (h:fA w T or so su N)
include h
theorem yC(s:Int)(y:N<1000000):aF af 115 #[aq (Z ⟨T.g,0,I⟩),J V s] w λe w'=>e=av (J V (BW su s))/\fA w' T or so (BV su s) (N+1)/\cS T.own w w':=by
 unfold BV BW;have j:=au (tX s w);cases hm:M.fY s with
 |false =>
  rw[hm]at j;have A:=au h;clear h;go_enter func115,ntmps115;go_wp2_with (refine j.O.mono ?_;rintro e w2 ⟨rfl,c⟩;have b:=c.symm;subst b);go_ret;exact⟨dt,by simpa using A.O.mono z,cS.refl _ _⟩
 |true =>
  rw[hm]at j;have wf:=vC hm;have d:=h.look s wf;have c2:=h.cw.cell 2;simp at c2;cases o:su s with
  |none =>
   rw[o]at d;simp only[gy,fy]at d;have f:aC w (w.alloc (.cells #[J ar 0,ai false,J V 0] 292)):=(ao _ w).alloc (aj _) _;have l:=au (h.below f);clear h;go_enter func115,ntmps115;go_wp2_with (refine j.O.mono ?_;rintro e w2 ⟨rfl,c⟩;have b:=c.symm;subst b);go_ret;exact⟨dt,by simpa using l.O.mono z,.bn f⟩
  |some x =>
   rw[o]at d;simp only[gS,fQ]at d;obtain⟨a,k,p⟩:=x;have f:aC w (w.alloc (.cells #[J ar a,ai k,J V p] 292)):=(ao _ w).alloc (aj _) _;obtain⟨l,b5⟩:=bu (h.below f) (aK.new w 292 #[J ar a,ai k,J V p]);clear h;cases k with
   |false =>
    go_enter func115,ntmps115;go_wp2_with (refine j.O.mono ?_;rintro e w2 ⟨rfl,c⟩;have b:=c.symm;subst b);go_ret;exact⟨dt,by simpa using l.O.mono z,.bn f⟩
   |true =>
    go_enter func115,ntmps115;go_upto_region 6 with(refine j.O.mono ?_;rintro e w2 ⟨rfl,c⟩;have b:=c.symm;subst b)
    obtain⟨B,m⟩:=dH w.heap.size;rw[<-m]at b5 ⊢;refine aW (λW=>aK W B 292 #[J ar a,ai true,J V p]/\fA W T or so su N/\aC w W) ⟨b5.O,l.O,f⟩ ?_;rintro W ⟨b3,n,bl⟩;clear m b5 l f d c2;have c2:=n.cw.cell 2;have C:=b3.cell 0;simp at c2 C;obtain⟨D,E,r,t⟩:=(n.dW (F:=cr) (cS.refl cr W).drew (λ_ _ q=>q)).put y s wf ⟨a,false,0⟩;obtain⟨u,v⟩:=bu r ((cS.bn (F:=T.own) bl).drew.trans (t.mono λi _ q=>T.CI i q));clear n b3 bl r t;go_region;all_goals
     go_wp2_with fail;go_ret;refine⟨dt,?_,?_⟩
     ·first
       |simpa using u.O
       |simpa using u.O.dW (F:=cr) ((cS.refl cr _).drewN _) (λ_ _ q=>q)
     ·first|exact v.O|exact v.O.drewN _
theorem Ak(s p:Int)(G:N<1000000):aF af 89 #[aq (Z ⟨T.g,0,I⟩),J V s,J V p] w λe w'=>e=av (J V (xe so su s p))/\fA w' T or so (Dr so su s p) (N+1)/\cS T.own w w':=by
 unfold Dr xe;obtain⟨f,l,v⟩:=bU (tX s w) (zC p w) h;cases hm:M.fY s with
 |false =>
  rw[hm]at f;clear h;go_enter func89,ntmps89;go_wp2_with (refine f.O.mono ?_;rintro e w2 ⟨rfl,c⟩;have b:=c.symm;subst b);go_ret;exact⟨dt,by simpa using v.O.mono z,cS.refl _ _⟩
 |true =>
  cases hp:M.mB p with
  |false =>
   rw[hm]at f;rw[hp]at l;clear h;go_enter func89,ntmps89;go_wp2_with (first
    |(refine f.O.mono ?_;rintro e w2 ⟨rfl,c⟩;have b:=c.symm;subst b)
    |(refine l.O.mono ?_;rintro e w2 ⟨rfl,c⟩;have b:=c.symm;subst b))
   go_ret;exact⟨dt,by simpa using v.O.mono z,cS.refl _ _⟩
  |true =>
   rw[hm]at f;rw[hp]at l;have wf:=vC hm;have r:-1000000000000<=p/\p<=1000000000000:=by simp[M.mB]at hp;omega
   have d:=h.look s wf;have c2:=h.cw.cell 2;simp at c2;cases y:su s with
   |none =>
    rw[y]at d;simp only[gy,fy]at d;have j:aC w (w.alloc (.cells #[J ar 0,ai false,J V 0] 292)):=(ao _ w).alloc (aj _) _;have m:=au (h.below j);clear h;go_enter func89,ntmps89;go_wp2_with (first
     |(refine f.O.mono ?_;rintro e w2 ⟨rfl,c⟩;have b:=c.symm;subst b)
     |(refine l.O.mono ?_;rintro e w2 ⟨rfl,c⟩;have b:=c.symm;subst b))
    go_ret;exact⟨dt,by simpa using m.O.mono z,.bn j⟩
   |some x =>
    rw[y]at d;simp only[gS,fQ]at d;obtain⟨a,k,t⟩:=x;have j:aC w (w.alloc (.cells #[J ar a,ai k,J V t] 292)):=(ao _ w).alloc (aj _) _;obtain⟨m,n,b5⟩:=bU (h.below j) (vt T or so su N _ (h.below j) p r) (aK.new w 292 #[J ar a,ai k,J V t]);clear h;cases A:(so (p,0)).isSome with
    |false =>
     rw[A]at n;go_enter func89,ntmps89;go_wp2_with (first
      |(refine f.O.mono ?_;rintro e w2 ⟨rfl,c⟩;have b:=c.symm;subst b)
      |(refine l.O.mono ?_;rintro e w2 ⟨rfl,c⟩;have b:=c.symm;subst b)
      |(refine n.O.mono ?_;rintro e w2 ⟨rfl,c⟩;have b:=c.symm;subst b))
     go_ret;exact⟨dt,by simpa using m.O.mono z,.bn j⟩
    |true =>
     rw[A]at n;cases k with
     |true =>
      have H:=b5.O.cell 1;simp at H;go_enter func89,ntmps89;go_wp2_with (first
       |(refine f.O.mono ?_;rintro e w2 ⟨rfl,c⟩;have b:=c.symm;subst b)
       |(refine l.O.mono ?_;rintro e w2 ⟨rfl,c⟩;have b:=c.symm;subst b)
       |(refine n.O.mono ?_;rintro e w2 ⟨rfl,c⟩;have b:=c.symm;subst b))
      go_ret;exact⟨dt,by simpa using m.O.mono z,.bn j⟩
     |false =>
      go_enter func89,ntmps89;go_wp2_with (first
       |(refine f.O.mono ?_;rintro e w2 ⟨rfl,c⟩;have b:=c.symm;subst b)
       |(refine l.O.mono ?_;rintro e w2 ⟨rfl,c⟩;have b:=c.symm;subst b)
       |(refine n.O.mono ?_;rintro e w2 ⟨rfl,c⟩;have b:=c.symm;subst b))
      obtain⟨K,o⟩:=dH w.heap.size;rw[<-o]at b5 ⊢;refine gN (λW=>aK W K 292 #[J ar a,ai false,J V t]/\fA W T or so su N/\aC w W) ⟨b5.O,m.O,j⟩ ?_;rintro W ⟨b3,u,bl⟩;clear o b5 m j d c2;have c2:=u.cw.cell 2;have L:=b3.cell 0;simp at c2 L;obtain⟨P,Q,B,C⟩:=(u.dW (F:=cr) (cS.refl cr W).drew (λ_ _ q=>q)).put G s wf ⟨a,true,p⟩;obtain⟨D,E⟩:=bu B ((cS.bn (F:=T.own) bl).drew.trans (C.mono λi _ q=>T.CI i q));clear u b3 bl B C;go_region;all_goals
       go_wp2_with fail;go_ret;refine⟨dt,?_,?_⟩
       ·first
         |simpa using D.O
         |simpa using D.O.dW (F:=cr) ((cS.refl cr _).drewN _) (λ_ _ q=>q)
       ·first|exact E.O|exact E.O.drewN _
end
end
def oR(su:Int->Option M.Sub)(q:M.Sub->Bool)(s:Int):Bool:=match su s with | some x=>q x | none=>false
def tJ(su:Int->Option M.Sub)(q:M.Sub->Bool):List Int:=M.gF.filter (oR su q)
def Bb:∀(l m:List Int),l.Pairwise (· < ·)->m.Pairwise (· < ·)->(∀x,x∈l↔x∈m)->l=m
 |[],[],_,_,_=>rfl
 |[],b::m,_,_,h=>by have:=(h b).2 dt;simp at this
 |a::l,[],_,_,h=>by have:=(h a).1 dt;simp at this
 |a::l,b::m,h1,h2,h=>by
  have d:=List.pairwise_cons.1 h1;have f:=List.pairwise_cons.1 h2;have e:a=b:=by
   rcases fw.1 ((h a).1 dt) with e|e
   ·exact e
   ·rcases fw.1 ((h b).2 dt) with g|g
    ·exact g.symm
    ·have:=d.1 b g;have:=f.1 a e;omega
  subst e;congr 1;refine Bb l m d.2 f.2 λx=>⟨λc=>?_,λc=>?_⟩
  ·rcases fw.1 ((h x).1 (dI _ c)) with e|e
   ·have:=d.1 x c;omega
   ·exact e
  ·rcases fw.1 ((h x).2 (dI _ c)) with e|e
   ·have:=f.1 x c;omega
   ·exact e
def Al{l:List Int}(h:l.Nodup):(sorted l).Pairwise (· < ·):=by
 have h1:(sorted l).Pairwise (λa b=>decide (a<=b)=true):=List.pairwise_mergeSort (λa b c h1 h2=>by simp at *;omega) (λa b=>dZ) _;have h2:(sorted l).Nodup:=(List.mergeSort_perm _ _).nodup_iff.2 h;exact(List.pairwise_and_iff.2 ⟨h1,h2⟩).imp (λ{a b} q=>by have:=q.1;have:=q.2;simp at *;omega)
def Io{su:Int->Option M.Sub}{q:M.Sub->Bool}(c:∀s,(su s).isSome=true->M.fY s=true){done:List Int}(d:done.Nodup)(a:∀s,(su s).isSome=true->s∈done):sorted (done.filter (oR su q))=tJ su q:=by
 refine Bb _ _ (Al (d.filter _)) (List.Pairwise.filter _ (by unfold M.gF;decide)) λx=>?_;rw[List.mem_mergeSort,eL];unfold tJ;rw[eL];constructor
 ·rintro⟨h1,h2⟩;refine⟨?_,h2⟩;have:(su x).isSome=true:=by unfold oR at h2;cases b:su x with | none=>simp[b]at h2 | some y=>rfl
  have hm:=c x this;simp only[M.fY,Bool.and_eq_true,decide_eq_true_eq]at hm;unfold M.gF;have:x=0\/x=1\/x=2\/x=3\/x=4\/x=5:=z;simpa using this
 ·rintro⟨h1,h2⟩;refine⟨a x ?_,h2⟩;unfold oR at h2;cases b:su x with | none=>simp[b]at h2 | some y=>rfl
def I3(r:Nat)(p:Int)(s:M.Sub)(w:aw)(b:aK w r 3 #[J V p]):aF af 207 #[vV s,aq (Z ⟨r,0,I⟩)] w λe w'=>e=av (ai (s.cL&&decide (s.jo=p)))/\aC w w':=by
 have d:=b.cell 0;have lt:=b.lt;simp at d;obtain⟨a,k,c⟩:=s;cases k with
 |false =>
  go_enter func207,ntmps207;go_wp2_with fail;go_ret;exact⟨rfl,(ao _ w).alloc (aj _) _⟩
 |true =>
  by_cases e:c=p
  ·subst e;go_enter func207,ntmps207;go_wp2_with fail;go_ret;exact⟨dt,(ao _ w).alloc (aj _) _⟩
  ·have f:(c==p)=false:=by simpa using e
   go_enter func207,ntmps207;go_wp2_with fail;go_ret;exact⟨by simp[e],(ao _ w).alloc (aj _) _⟩
def DL(r:Nat)(p:Int)(s:M.Sub)(w:aw)(b:aK w r 41 #[J ar p]):aF af 228 #[vV s,aq (Z ⟨r,0,I⟩)] w λe w'=>e=av (ai (decide (s.own=p)))/\aC w w':=by
 have c:=b.cell 0;have lt:=b.lt;simp at c;obtain⟨a,k,d⟩:=s;by_cases e:a=p
 ·subst e;go_enter func228,ntmps228;go_wp2_with fail;go_ret;exact⟨dt,(ao _ w).alloc (aj _) _⟩
 ·have f:(a==p)=false:=by simpa using e
  go_enter func228,ntmps228;go_wp2_with fail;go_ret;exact⟨by simp[e],(ao _ w).alloc (aj _) _⟩
def KZ(a1:Addr)(q:M.Sub->Bool)(gX:aw->Prop)(hI:∀w w',aC w w'->gX w->gX w')
  (hf:∀s W,gX W->aF af 207 #[vV s,aq (Z a1)] W λe w'=>e=av (ai (q s))/\aC W w')
  (T:sL) (or:Int->Option M.bN) (so:M.bN->Option Int) (su:Int->Option M.Sub) (N:Nat) (w:aw) (h:fA w T or so su N) (hN:N<=1000000) (hk:∀s,(su s).isSome=true->M.fY s=true) (h0:gX w) :
  aF af 206 #[aq (Z ⟨T.g,0,I⟩),.func (.func 207) #[] #[aq (Z a1)]] w λe w'=>∃v,e=av v/\w'.ownsRow w.heap.size 3 1 v (tJ su q).length ((tJ su q).map (J V))/\aC w w':=by
 obtain⟨ds,f,hM,hF,mK⟩:=h.u;have hG:=h.cw;obtain⟨i0,t,L,P,Q⟩:=cY wE;obtain⟨HI,SG,SH,SI⟩:=cA t L P Q;clear t L P Q;have c2:=hG.cell 2;simp at c2;have lm:=hM.lt;have B:w.ownsRow w.heap.size 3 1 (ae I 0 0) 0 []:=⟨dt,aJ ⟨rfl,rfl⟩⟩;obtain⟨HM,HF,SJ,H0,SK⟩:=gY hM hF hf h0 hI;clear hM hG hF h hf h0 hI;go_enter func206,ntmps206;go_wp2_with (at_range;go_loud (refine uK _ sU rfl _ rfl T.mu ds _ rfl HM.O ?_));intro w1 r1 u1 s1;have o1:=du B u1 (λi t=>by cases t);have B1:aC w w1:=u1.below (aj _) (λ_ q=>q.elim);obtain⟨r,k⟩:=dH w.heap.size;rw[<-k]at r1 ⊢;have SL:w.heap.size<=r:=lO k.symm;have rm:r≠T.mu:=z;clear k;obtain⟨SM,SN,SO⟩:=bU r1 o1 B1;clear B HM c2 u1 o1 r1 B1 s1;go_wp2_with fail;go_loopw [5] (λpv wr=>∃done,kY KI wr T.mu r ds f done/\wr.ownsRow w.heap.size 3 1 pv (done.filter (oR su q)).length ((done.filter (oR su q)).map (J V))/\aC w wr/\(∀i,pv.ownBlock=Z i->i≠r)) (λ_ wr=>wr.rangeLeft T.mu r);case atStart=>exact⟨[],SM.O,by simpa using SN.O,SO.O,λi t=>by cases t⟩
 case round =>
  obtain⟨done,hr,own,bl,fr⟩:=hrel;obtain⟨A,c,rfl⟩:=bA own;go_wp2_with (at_next;go_loud (refine vR _ rB rfl _ rfl T.mu r ds _ done rfl hr ?d ?q));case d =>
   intro C;have b:=hr.sub;have hn:(done.filter (oR su q)).length<=1000000:=aP (eE _ _) (aP (dX b.1 b.2) (aP mK hN));have he:=Io (q:=q) hk b.1 (λs D=>C s (by
    have:=HF.O s
    by_cases hd:s∈ds
    ·exact hd
    ·rw[if_neg hd]at this;cases o:su s with | none=>rw[o]at D;cases D | some y=>rw[o]at this;cases this))
   have D:=ze wr own hn;obtain⟨HS,HE,BL,OL⟩:=cA D he bl own.lt;clear D he own bl fr hr C b;go_wp2_with (refine HS.O.mono ?_;rintro e w5 ⟨rfl,o5,g5⟩);go_ret;refine⟨_,rfl,by rw[<-HE.O,oU];exact o5,?_⟩;exact BL.O.trans ((eT g5).below BL.O.size (λi q=>(OL.O i q).1))
  case q =>
   intro a w2 SP SU l R u2 o E;have j:=HF.O a;rw[if_pos SP]at j;obtain⟨x,hx,S⟩:∃x,su a=Z x/\f a=vV x:=by
    cases D:su a with
    |none=>rw[D]at j;cases j
    |some x=>rw[D]at j;exact⟨x,rfl,by simpa using j.symm⟩
   have SV:(sF (aq (Z ⟨r,0,I⟩))).run af w2=.ok (aB #[J V a,vV x]) w2:=by rw[<-S];exact E
   clear E;have U:(done++[a]).filter (oR su q)=done.filter (oR su q)++if q x then[a] else[]:=by
    rw[ju];congr 1;have:oR su q a=q x:=by unfold oR;rw[hx]
    cases K:q x<;>simp[this,K]
   have o2:=du own u2 (λi t q=>fr i t q);have b2:=bl.trans (u2.below bl.size (λi q=>by rw[show i=r from q];exact SL));have rl:=l.lt;have X:=SK.O _ _ (b2.alloc b2.size (.cells #[J ar x.own,ai x.cL,J V x.jo] 292)) H0.O;have HC:=au (SJ.O x _ X);have dn:done.length<=1000000:=by have q:=l.sub;have q2:=dX q.1 q.2;simp at q2;omega
   have SW:(done.filter (oR su q)).length<=1000000:=aP (eE _ _) dn;obtain⟨G,H,m,Y,p,aI⟩:=lH (o2.alloc (.cells #[J ar x.own,ai x.cL,J V x.jo] 292)) (b2.alloc b2.size (.cells #[J ar x.own,ai x.cL,J V x.jo] 292)) (l.dW (F:=cr) ((cS.refl _ _).alloc (.cells #[J ar x.own,ai x.cL,J V x.jo] 292)) id id) U fr (show(w2.alloc (.cells #[J ar x.own,ai x.cL,J V x.jo] 292)).rangeLeft T.mu r<wr.rangeLeft T.mu r by rw[l.kj (F:=cr) ((cS.refl _ _).alloc _) id id];exact R);have SX:w2.heap.size<(w2.alloc (.cells #[J ar x.own,ai x.cL,J V x.jo] 292)).heap.size:=dt;have SQ:=au (λi (q:(ae A (done.filter (oR su q)).length c).ownBlock=Z i)=>(G.O.lt i q));clear o2 b2 l U own bl hr fr o X u2 R dn j S;cases K:q x with
   |false =>
    rw[K]at HC;go_wp2_with (refine HC.O.mono ?_;rintro e w3 ⟨rfl,b3⟩);go_roundw;case rel =>
     refine⟨done++[a],m.O.dW (F:=cr) (.bn b3) id id,?_,sh H.O b3,p.O⟩;rw[Y.O];simpa[K]using du G.O (.bn (F:=cr) b3) (λ_ _ q=>q)
    case measure=>rw[m.O.kj (F:=cr) (.bn b3) id id];exact aI.O
   |true =>
    rw[K]at HC;go_wp2_with (first|(refine HC.O.mono ?_;rintro e w3 ⟨rfl,b3⟩;have df:=du G.O (.bn (F:=cr) b3) (λ_ _ q=>q);have OW:=au df;clear df)|(at_builtin;go_loud (refine dV _ rfl _ _ 36 rfl w.heap.size 3 i0 (J V 0) 1 8 underlying36 HI.O SG.O SH.O SI.O rfl aR _ _ _ rfl (OW.O.alloc _) ⟨w3.heap.size,0,I⟩ 1 1 [J V a] rfl rfl (fB w3 3 #[J V a]) tk ?c3 ?c4 ?c5 ?_)));all_goals first
     |exact rfl
     |(unfold maxLen;omega)
     |omega
     |(have:=(sh H.O b3).size;simp;omega)
     |intro v5 w5 n g5 eI
    have u5:=eT g5;have hA:∀i,(ae A (done.filter (oR su q)).length c).ownBlock=Z i->w.heap.size<=i:=λi q=>(SQ.O i q).1;have uu:=((cS.bn (F:=cr) b3).alloc (.cells #[J V a] 3));have R5:=m.O.dW uu id id;have R6:=R5.dW u5 (λq=>by have:=hA _ q;omega) (λq=>p.O _ q rfl);have U6:=((cS.bn (F:=λi=>w.heap.size<=i) (sh H.O b3)).alloc (.cells #[J V a] 3)).trans (u5.mono λi _ q=>hA i q);have B5:=U6.below (aj _) (λi q=>q);have L5:=R5.kj u5 (λq=>by have:=hA _ q;omega) (λq=>p.O _ q rfl);have L6:=m.O.kj uu id id;have F5:∀i,v5.ownBlock=Z i->i≠r:=λi q=>by
     rcases eI i q with q|q
     ·exact p.O i q
     ·have:=R5.lt;have:=m.O.lt;have:=b3.size;omega
    obtain⟨A5,c5,rfl⟩:=bA n;obtain⟨K1,K2,K3,K4⟩:=cA n R6 B5 F5;have K5:w5.rangeLeft T.mu r<wr.rangeLeft T.mu r:=by rw[L5,L6];exact aI.O
    clear n R6 B5 F5 R5 uu u5 g5 eI L5 L6 hA U6;go_wp2_with fail;go_roundw;case rel =>
     refine⟨done++[a],K2.O,?_,K3.O,K4.O⟩;rw[Y.O];simpa[K]using K1.O
    case measure=>exact K5
def KY(a1:Addr)(q:M.Sub->Bool)(gX:aw->Prop)(hI:∀w w',aC w w'->gX w->gX w')
  (hf:∀s W,gX W->aF af 228 #[vV s,aq (Z a1)] W λe w'=>e=av (ai (q s))/\aC W w')
  (T:sL) (or:Int->Option M.bN) (so:M.bN->Option Int) (su:Int->Option M.Sub) (N:Nat) (w:aw) (h:fA w T or so su N) (hN:N<=1000000) (hk:∀s,(su s).isSome=true->M.fY s=true) (h0:gX w) :
  aF af 206 #[aq (Z ⟨T.g,0,I⟩),.func (.func 228) #[] #[aq (Z a1)]] w λe w'=>∃v,e=av v/\w'.ownsRow w.heap.size 3 1 v (tJ su q).length ((tJ su q).map (J V))/\aC w w':=by
 obtain⟨ds,f,hM,hF,mK⟩:=h.u;have hG:=h.cw;obtain⟨i0,t,L,P,Q⟩:=cY wE;obtain⟨HI,SG,SH,SI⟩:=cA t L P Q;clear t L P Q;have c2:=hG.cell 2;simp at c2;have lm:=hM.lt;have B:w.ownsRow w.heap.size 3 1 (ae I 0 0) 0 []:=⟨dt,aJ ⟨rfl,rfl⟩⟩;obtain⟨HM,HF,SJ,H0,SK⟩:=gY hM hF hf h0 hI;clear hM hG hF h hf h0 hI;go_enter func206,ntmps206;go_wp2_with (at_range;go_loud (refine uK _ sU rfl _ rfl T.mu ds _ rfl HM.O ?_));intro w1 r1 u1 s1;have o1:=du B u1 (λi t=>by cases t);have B1:aC w w1:=u1.below (aj _) (λ_ q=>q.elim);obtain⟨r,k⟩:=dH w.heap.size;rw[<-k]at r1 ⊢;have SL:w.heap.size<=r:=lO k.symm;have rm:r≠T.mu:=z;clear k;obtain⟨SM,SN,SO⟩:=bU r1 o1 B1;clear B HM c2 u1 o1 r1 B1 s1;go_wp2_with fail;go_loopw [5] (λpv wr=>∃done,kY KI wr T.mu r ds f done/\wr.ownsRow w.heap.size 3 1 pv (done.filter (oR su q)).length ((done.filter (oR su q)).map (J V))/\aC w wr/\(∀i,pv.ownBlock=Z i->i≠r)) (λ_ wr=>wr.rangeLeft T.mu r);case atStart=>exact⟨[],SM.O,by simpa using SN.O,SO.O,λi t=>by cases t⟩
 case round =>
  obtain⟨done,hr,own,bl,fr⟩:=hrel;obtain⟨A,c,rfl⟩:=bA own;go_wp2_with (at_next;go_loud (refine vR _ rB rfl _ rfl T.mu r ds _ done rfl hr ?d ?q));case d =>
   intro C;have b:=hr.sub;have hn:(done.filter (oR su q)).length<=1000000:=aP (eE _ _) (aP (dX b.1 b.2) (aP mK hN));have he:=Io (q:=q) hk b.1 (λs D=>C s (by
    have:=HF.O s
    by_cases hd:s∈ds
    ·exact hd
    ·rw[if_neg hd]at this;cases o:su s with | none=>rw[o]at D;cases D | some y=>rw[o]at this;cases this))
   have D:=ze wr own hn;obtain⟨HS,HE,BL,OL⟩:=cA D he bl own.lt;clear D he own bl fr hr C b;go_wp2_with (refine HS.O.mono ?_;rintro e w5 ⟨rfl,o5,g5⟩);go_ret;refine⟨_,rfl,by rw[<-HE.O,oU];exact o5,?_⟩;exact BL.O.trans ((eT g5).below BL.O.size (λi q=>(OL.O i q).1))
  case q =>
   intro a w2 SP SU l R u2 o E;have j:=HF.O a;rw[if_pos SP]at j;obtain⟨x,hx,S⟩:∃x,su a=Z x/\f a=vV x:=by
    cases D:su a with
    |none=>rw[D]at j;cases j
    |some x=>rw[D]at j;exact⟨x,rfl,by simpa using j.symm⟩
   have SV:(sF (aq (Z ⟨r,0,I⟩))).run af w2=.ok (aB #[J V a,vV x]) w2:=by rw[<-S];exact E
   clear E;have U:(done++[a]).filter (oR su q)=done.filter (oR su q)++if q x then[a] else[]:=by
    rw[ju];congr 1;have:oR su q a=q x:=by unfold oR;rw[hx]
    cases K:q x<;>simp[this,K]
   have o2:=du own u2 (λi t q=>fr i t q);have b2:=bl.trans (u2.below bl.size (λi q=>by rw[show i=r from q];exact SL));have rl:=l.lt;have X:=SK.O _ _ (b2.alloc b2.size (.cells #[J ar x.own,ai x.cL,J V x.jo] 292)) H0.O;have HC:=au (SJ.O x _ X);have dn:done.length<=1000000:=by have q:=l.sub;have q2:=dX q.1 q.2;simp at q2;omega
   have SW:(done.filter (oR su q)).length<=1000000:=aP (eE _ _) dn;obtain⟨G,H,m,Y,p,aI⟩:=lH (o2.alloc (.cells #[J ar x.own,ai x.cL,J V x.jo] 292)) (b2.alloc b2.size (.cells #[J ar x.own,ai x.cL,J V x.jo] 292)) (l.dW (F:=cr) ((cS.refl _ _).alloc (.cells #[J ar x.own,ai x.cL,J V x.jo] 292)) id id) U fr (show(w2.alloc (.cells #[J ar x.own,ai x.cL,J V x.jo] 292)).rangeLeft T.mu r<wr.rangeLeft T.mu r by rw[l.kj (F:=cr) ((cS.refl _ _).alloc _) id id];exact R);have SX:w2.heap.size<(w2.alloc (.cells #[J ar x.own,ai x.cL,J V x.jo] 292)).heap.size:=dt;have SQ:=au (λi (q:(ae A (done.filter (oR su q)).length c).ownBlock=Z i)=>(G.O.lt i q));clear o2 b2 l U own bl hr fr o X u2 R dn j S;cases K:q x with
   |false =>
    rw[K]at HC;go_wp2_with (refine HC.O.mono ?_;rintro e w3 ⟨rfl,b3⟩);go_roundw;case rel =>
     refine⟨done++[a],m.O.dW (F:=cr) (.bn b3) id id,?_,sh H.O b3,p.O⟩;rw[Y.O];simpa[K]using du G.O (.bn (F:=cr) b3) (λ_ _ q=>q)
    case measure=>rw[m.O.kj (F:=cr) (.bn b3) id id];exact aI.O
   |true =>
    rw[K]at HC;go_wp2_with (first|(refine HC.O.mono ?_;rintro e w3 ⟨rfl,b3⟩;have df:=du G.O (.bn (F:=cr) b3) (λ_ _ q=>q);have OW:=au df;clear df)|(at_builtin;go_loud (refine dV _ rfl _ _ 36 rfl w.heap.size 3 i0 (J V 0) 1 8 underlying36 HI.O SG.O SH.O SI.O rfl aR _ _ _ rfl (OW.O.alloc _) ⟨w3.heap.size,0,I⟩ 1 1 [J V a] rfl rfl (fB w3 3 #[J V a]) tk ?c3 ?c4 ?c5 ?_)));all_goals first
     |exact rfl
     |(unfold maxLen;omega)
     |omega
     |(have:=(sh H.O b3).size;simp;omega)
     |intro v5 w5 n g5 eI
    have u5:=eT g5;have hA:∀i,(ae A (done.filter (oR su q)).length c).ownBlock=Z i->w.heap.size<=i:=λi q=>(SQ.O i q).1;have uu:=((cS.bn (F:=cr) b3).alloc (.cells #[J V a] 3));have R5:=m.O.dW uu id id;have R6:=R5.dW u5 (λq=>by have:=hA _ q;omega) (λq=>p.O _ q rfl);have U6:=((cS.bn (F:=λi=>w.heap.size<=i) (sh H.O b3)).alloc (.cells #[J V a] 3)).trans (u5.mono λi _ q=>hA i q);have B5:=U6.below (aj _) (λi q=>q);have L5:=R5.kj u5 (λq=>by have:=hA _ q;omega) (λq=>p.O _ q rfl);have L6:=m.O.kj uu id id;have F5:∀i,v5.ownBlock=Z i->i≠r:=λi q=>by
     rcases eI i q with q|q
     ·exact p.O i q
     ·have:=R5.lt;have:=m.O.lt;have:=b3.size;omega
    obtain⟨A5,c5,rfl⟩:=bA n;obtain⟨K1,K2,K3,K4⟩:=cA n R6 B5 F5;have K5:w5.rangeLeft T.mu r<wr.rangeLeft T.mu r:=by rw[L5,L6];exact aI.O
    clear n R6 B5 F5 R5 uu u5 g5 eI L5 L6 hA U6;go_wp2_with fail;go_roundw;case rel =>
     refine⟨done++[a],K2.O,?_,K3.O,K4.O⟩;rw[Y.O];simpa[K]using K1.O
    case measure=>exact K5
def xQ(T:sL)(or:Int->Option M.bN)(so:M.bN->Option Int)(su:Int->Option M.Sub)(N:Nat)(w:aw)(h:fA w T or so su N)(f:N<=1000000)(i:∀s,(su s).isSome=true->M.fY s=true)(p:Int) :
  aF af 141 #[aq (Z ⟨T.g,0,I⟩),J V p] w λe w'=>∃v,e=av v/\w'.ownsRow w.heap.size 3 1 v (tJ su λs=>s.cL&&decide (s.jo=p)).length ((tJ su λs=>s.cL&&decide (s.jo=p)).map (J V))/\aC w w':=by
 have c:=(ao w.heap.size w).alloc (aj _) (.cells #[J V p] 3);have d:=aK.new w 3 #[J V p];have hw:=KZ ⟨w.heap.size,0,I⟩ (λs=>s.cL&&decide (s.jo=p)) (λW=>aK W w.heap.size 3 #[J V p]) (λa b u q=>q.kept u) (λs W j=>I3 w.heap.size p s W j) T or so su N _ (h.below c) f i d;have k:=au hw;clear h d hw;go_enter func141,ntmps141;go_wp2_with (refine k.O.mono ?_;rintro e w2 ⟨v,rfl,own,b2⟩);go_ret;exact⟨_,rfl,CA own dt,c.trans (b2.mono c.size)⟩
def Aj(T:sL)(or:Int->Option M.bN)(so:M.bN->Option Int)(su:Int->Option M.Sub)(N:Nat)(w:aw)(h:fA w T or so su N)(f:N<=1000000)(i:∀s,(su s).isSome=true->M.fY s=true)(p:Int) :
  aF af 180 #[aq (Z ⟨T.g,0,I⟩),J ar p] w λe w'=>∃v,e=av v/\w'.ownsRow w.heap.size 3 1 v (tJ su λs=>decide (s.own=p)).length ((tJ su λs=>decide (s.own=p)).map (J V))/\aC w w':=by
 have c:=(ao w.heap.size w).alloc (aj _) (.cells #[J ar p] 41);have d:=aK.new w 41 #[J ar p];have hw:=KY ⟨w.heap.size,0,I⟩ (λs=>decide (s.own=p)) (λW=>aK W w.heap.size 41 #[J ar p]) (λa b u q=>q.kept u) (λs W j=>DL w.heap.size p s W j) T or so su N _ (h.below c) f i d;have k:=au hw;clear h d hw;go_enter func180,ntmps180;go_wp2_with (refine k.O.mono ?_;rintro e w2 ⟨v,rfl,own,b2⟩);go_ret;exact⟨_,rfl,CA own dt,c.trans (b2.mono c.size)⟩
section
structure RS(w0:aw)(g:Nat)(W:aw)(rd:M.Rd):Prop where
 rd:iG W g rd
 u:cS (One g) w0 W
section
variable {w0 W W':aw} {g:Nat} {rd OE:M.Rd}
def RS.start(h:iG w0 g rd):RS w0 g w0 rd:=⟨h,cS.refl _ _⟩
def RS.call(h:RS w0 g W rd)(R:iG W' g OE)(u:cS (One g) W W'):RS w0 g W' OE:=⟨R,h.u.trans u⟩
def RS.alloc(h:RS w0 g W rd)(o:Obj):RS w0 g (W.alloc o) rd:=⟨h.rd.below ((ao _ _).alloc (aj _) o),h.u.alloc o⟩
def RS.below(h:RS w0 g W rd)(b:aC W W'):RS w0 g W' rd:=⟨h.rd.below b,h.u.then b⟩
def RS.set(h:RS w0 g W rd){r:Nat}{t:TypeId}{cs:Array Value}(a:aK W r t cs)(h1:t≠231)(h2:t≠5)(hr:w0.heap.size<=r)(i:Nat)(v:Value):RS w0 g (W.setCell ⟨r,i,I⟩ v) rd:=
 ⟨h.rd.bC a h1 h2 i v,h.u.setCell (p:=⟨r,i,I⟩) (aZ hr) v⟩
def RS.ne(h:RS w0 g W rd){r:Nat}{t:TypeId}{cs:Array Value}(a:aK W r t cs)(h1:t≠231):¬One g r:=by
 obtain⟨c,b⟩:=h.rd.cw;exact aK.jf a b h1
def RS.cw(h:RS w0 g W rd){r:Nat}{t:TypeId}{cs:Array Value}(a:aK W r t cs)(h1:t≠231)(u:cS (One g) W W'):aK W' r t cs:=a.dW u (h.ne a h1)
end
def AU(g:Nat)(r:M.Rd)(w:aw)(h:iG w g r):aF af 325 #[aq (Z ⟨g,0,I⟩)] w λe w'=>e=av (J ar (r.num 3).1)/\iG w' g (r.num 3).2/\cS (One g) w w':=by
 have k:=au h;clear h;go_enter func325,ntmps325;go_wp2_with (first|(go_at_call 100;go_in));refine(qQ g r 3 w k.O z).mono ?_;rintro e w1 ⟨⟨A,m,c,rfl,d,o,p,t⟩,l,u1⟩;have f:0<=(r.num 3).1/\(r.num 3).1<=16777215:=ev k.O 3 z;have i:m<=4:=by have:(r.take 3).1.length<=3:=qP r 3;have:=d.len;omega
 have a:(r.num 3).1=M.bO (r.take 3).1:=rfl;have b:(r.num 3).2=(r.take 3).2:=rfl;rw[a]at f;obtain⟨q,j,n,s⟩:=cA d l a b;clear d l a b;go_wp2_with fail;refine(tW A m c _ w1 q.O i o p).mono ?_;generalize M.bO (r.take 3).1=u at f n ⊢;obtain⟨b1,b2⟩:=f;rintro e w2 ⟨rfl,rfl⟩;go_wp2_with fail;go_ret;exact⟨by rw[n.O];rfl,by rw[s.O];exact j.O,u1⟩
def FK(n:Int)(w:aw):aF af 324 #[J .u64 n,J V 24] w λe w'=>(∃v,e=av (J V v))/\w'=w:=by
 go_enter func324,ntmps324;go_wp2_with fail;go_ret;exact⟨⟨_,rfl⟩,rfl⟩
def Mu(g:Nat)(d0:M.Rd)(w:aw)(h:iG w g d0):aF af 300 #[aq (Z ⟨g,0,I⟩)] w λe w'=>(∃i k l m t:Int,e=av (cg #[J ar i,J ar k,J ar l,J ar m,J ar t]))/\iG w' g (M.iD [4,4,4,4,4] d0)/\cS (One g) w w':=by
 have H0:=au (RS.start h);clear h;go_enter func300,ntmps300;go_upto_region 2 with fail;obtain⟨r2,G⟩:=dH w.heap.size;obtain⟨f,H⟩:=dH (w.heap.size+1);rw[<-H,<-G];have g2:w.heap.size<=r2:=z;have g3:w.heap.size<=f:=z;have n23:r2≠f:=z;refine aW (λW=>RS w g W d0/\aK W r2 281 #[J ar 0,J ar 0,J ar 0,J ar 0,J ar 0]/\aK W f 281 #[J ar 0,J ar 0,J ar 0,J ar 0,J ar 0]) ⟨(H0.O.alloc _).alloc _,(aK.newAt _ _ _ _ G).alloc _,aK.newAt _ _ _ _ (by simp[H])⟩ ?_;clear G H H0;rintro W0 ⟨S,b,a⟩;obtain⟨x,P0,Q0⟩:=bU S b a;clear S b a;go_wp2_with fail;refine(kK g d0 W0 x.O.rd).mono ?_;have K:∃p,p=M.Rd.num d0 4:=⟨_,rfl⟩;obtain⟨⟨i,d1⟩,n⟩:=K;rw[<-n];have L:=ev x.O.rd 4 z;rw[<-n]at L;have N:=au n;clear n;simp only at L;obtain⟨mK,SG⟩:=L;rintro e v0 ⟨rfl,R,u⟩;have S:=x.O.call R u;have b:=x.O.cw P0.O aR u;have a:=x.O.cw Q0.O aR u;have F:=a.cell 0;have f0:=a.frozen 0;simp at F;obtain⟨HS,c,d⟩:=bU S b a;clear S b a R u x P0 Q0;go_wp2_with fail;have S:=HS.O;have b:=c.O;have a:=d.O;refine gu (λW=>RS w g W d1/\aK W r2 281 #[J ar 0,J ar 0,J ar 0,J ar 0,J ar 0]/\aK W f 281 #[J ar i,J ar 0,J ar 0,J ar 0,J ar 0]) ⟨S.set a aR aR g3 0 _,b.dS (p:=⟨f,0,I⟩) n23 _,by simpa using a.bC 0 (J ar i)⟩ ?_;clear HS c d S b a F f0;rintro W1 ⟨S,b,a⟩;obtain⟨y,P1,Q1⟩:=bU S b a;clear S b a;go_wp2_with fail;refine(kK g d1 W1 y.O.rd).mono ?_;have P:∃p,p=M.Rd.num d1 4:=⟨_,rfl⟩;obtain⟨⟨k,d2⟩,o⟩:=P;rw[<-o];have Q:=ev y.O.rd 4 z;rw[<-o]at Q;have T:=au o;clear o;simp only at Q;obtain⟨SH,SI⟩:=Q;rintro e v1 ⟨rfl,R,u⟩;have S:=y.O.call R u;have b:=y.O.cw P1.O aR u;have a:=y.O.cw Q1.O aR u;have c1:=a.cell 1;have f1:=a.frozen 1;simp at c1;obtain⟨HS,c,d⟩:=bU S b a;clear S b a R u y P1 Q1;go_wp2_with fail;have S:=HS.O;have b:=c.O;have a:=d.O;refine gu (λW=>RS w g W d2/\aK W r2 281 #[J ar 0,J ar 0,J ar 0,J ar 0,J ar 0]/\aK W f 281 #[J ar i,J ar k,J ar 0,J ar 0,J ar 0]) ⟨S.set a aR aR g3 1 _,b.dS (p:=⟨f,1,I⟩) n23 _,by simpa using a.bC 1 (J ar k)⟩ ?_;clear HS c d S b a c1 f1;rintro W2 ⟨S,b,a⟩;obtain⟨A,P2,Q2⟩:=bU S b a;clear S b a;go_wp2_with fail;refine(kK g d2 W2 A.O.rd).mono ?_;have U:∃p,p=M.Rd.num d2 4:=⟨_,rfl⟩;obtain⟨⟨l,d3⟩,q⟩:=U;rw[<-q];have X:=ev A.O.rd 4 z;rw[<-q]at X;have Y:=au q;clear q;simp only at X;obtain⟨SJ,SK⟩:=X;rintro e v2 ⟨rfl,R,u⟩;have S:=A.O.call R u;have b:=A.O.cw P2.O aR u;have a:=A.O.cw Q2.O aR u;have c2:=a.cell 2;have f2:=a.frozen 2;simp at c2;obtain⟨HS,c,d⟩:=bU S b a;clear S b a R u A P2 Q2;go_wp2_with fail;have S:=HS.O;have b:=c.O;have a:=d.O;refine gu (λW=>RS w g W d3/\aK W r2 281 #[J ar 0,J ar 0,J ar 0,J ar 0,J ar 0]/\aK W f 281 #[J ar i,J ar k,J ar l,J ar 0,J ar 0]) ⟨S.set a aR aR g3 2 _,b.dS (p:=⟨f,2,I⟩) n23 _,by simpa using a.bC 2 (J ar l)⟩ ?_;clear HS c d S b a c2 f2;rintro W3 ⟨S,b,a⟩;obtain⟨B,P3,Q3⟩:=bU S b a;clear S b a;go_wp2_with fail;refine(kK g d3 W3 B.O.rd).mono ?_;have aI:∃p,p=M.Rd.num d3 4:=⟨_,rfl⟩;obtain⟨⟨m,d4⟩,r⟩:=aI;rw[<-r];have q3:=ev B.O.rd 4 z;rw[<-r]at q3;have df:=au r;clear r;simp only at q3;obtain⟨SL,SM⟩:=q3;rintro e v3 ⟨rfl,R,u⟩;have S:=B.O.call R u;have b:=B.O.cw P3.O aR u;have a:=B.O.cw Q3.O aR u;have c3:=a.cell 3;have f3:=a.frozen 3;simp at c3;obtain⟨HS,c,d⟩:=bU S b a;clear S b a R u B P3 Q3;go_wp2_with fail;have S:=HS.O;have b:=c.O;have a:=d.O;refine gu (λW=>RS w g W d4/\aK W r2 281 #[J ar 0,J ar 0,J ar 0,J ar 0,J ar 0]/\aK W f 281 #[J ar i,J ar k,J ar l,J ar m,J ar 0]) ⟨S.set a aR aR g3 3 _,b.dS (p:=⟨f,3,I⟩) n23 _,by simpa using a.bC 3 (J ar m)⟩ ?_;clear HS c d S b a c3 f3;rintro W4 ⟨S,b,a⟩;obtain⟨C,P4,Q4⟩:=bU S b a;clear S b a;go_wp2_with fail;refine(kK g d4 W4 C.O.rd).mono ?_;have eI:∃p,p=M.Rd.num d4 4:=⟨_,rfl⟩;obtain⟨⟨t,d5⟩,s⟩:=eI;rw[<-s];have q4:=ev C.O.rd 4 z;rw[<-s]at q4;have gX:=au s;clear s;simp only at q4;obtain⟨SN,SO⟩:=q4;rintro e v4 ⟨rfl,R,u⟩;have S:=C.O.call R u;have b:=C.O.cw P4.O aR u;have a:=C.O.cw Q4.O aR u;have c4:=a.cell 4;have f4:=a.frozen 4;simp at c4;obtain⟨HS,c,d⟩:=bU S b a;clear S b a R u C P4 Q4;go_upto_region 7 with fail;have S:=HS.O;have b:=c.O;have a:=d.O;refine aW (λW=>RS w g W d5/\aK W r2 281 #[J ar 0,J ar 0,J ar 0,J ar 0,J ar 0]/\aK W f 281 #[J ar i,J ar k,J ar l,J ar m,J ar t]) ⟨S.set a aR aR g3 4 _,b.dS (p:=⟨f,4,I⟩) n23 _,by simpa using a.bC 4 (J ar t)⟩ ?_;clear HS c d S b a c4 f4;rintro W5 ⟨S,b,a⟩;obtain⟨G5,P5,Q5⟩:=bU S b a;clear S b a;have j:=Q5.O;have k0:=j.cell 0;have k1:=j.cell 1;have k2:=j.cell 2;have k3:=j.cell 3;have k4:=j.cell 4;have j:=P5.O;have F:=j.cell 0;have f0:=j.frozen 0;have c1:=j.cell 1;have f1:=j.frozen 1;have c2:=j.cell 2;have f2:=j.frozen 2;have c3:=j.cell 3;have f3:=j.frozen 3;have c4:=j.cell 4;have f4:=j.frozen 4;have Z0:=P5.O;have S0:=G5.O;have S1:=S0.set Z0 aR aR g2 0 (J ar i);have Z1:=Z0.bC 0 (J ar i);have S2:=S1.set Z1 aR aR g2 1 (J ar k);have Z2:=Z1.bC 1 (J ar k);have S3:=S2.set Z2 aR aR g2 2 (J ar l);have Z3:=Z2.bC 2 (J ar l);have S4:=S3.set Z3 aR aR g2 3 (J ar m);have Z4:=Z3.bC 3 (J ar m);have S5:=S4.set Z4 aR aR g2 4 (J ar t);have Z5:=Z4.bC 4 (J ar t);have SS:=S5;have D:=Z5;clear S0 Z0 S1 Z1 S2 Z2 S3 Z3 S4 Z4 S5 Z5;have z0:=D.cell 0;have z1:=D.cell 1;have z2:=D.cell 2;have z3:=D.cell 3;have z4:=D.cell 4;simp at k0 F z0 k1 c1 z1 k2 c2 z2 k3 c3 z3 k4 c4 z4;have E:=au SS;clear D SS j;go_wp2_with fail;refine ax (v:=cg #[J ar i,J ar k,J ar l,J ar m,J ar t]) (by simp[aV,results300,go_sem,z0,z1,z2,z3,z4]) rfl ⟨⟨i,k,l,m,t,rfl⟩,?_,E.O.u⟩;have e:M.iD [4,4,4,4,4] d0=d5:=by
  simp only[M.iD];rw[<-N.O,<-T.O,<-Y.O,<-df.O,<-gX.O]
 rw[e];exact E.O.rd
def BK(g:Nat)(d0:M.Rd)(w:aw)(h:iG w g d0):aF af 301 #[aq (Z ⟨g,0,I⟩)] w λe w'=>(∃i k x2 l m o C:Int,e=av (cg #[J ar i,J bI k,J .i32 x2,J ar l,J ar m,J ar o,J ar C]))/\iG w' g (M.iD [4,1,3,4,4,4,4] d0)/\cS (One g) w w':=by
 have H0:=au (RS.start h);clear h;go_enter func301,ntmps301;go_upto_region 2 with fail;obtain⟨r2,U⟩:=dH w.heap.size;obtain⟨f,X⟩:=dH (w.heap.size+1);rw[<-X,<-U];have g2:w.heap.size<=r2:=z;have g3:w.heap.size<=f:=z;have n23:r2≠f:=z;refine aW (λW=>RS w g W d0/\aK W r2 462 #[J ar 0,J bI 0,J .i32 0,J ar 0,J ar 0,J ar 0,J ar 0]/\aK W f 462 #[J ar 0,J bI 0,J .i32 0,J ar 0,J ar 0,J ar 0,J ar 0]) ⟨(H0.O.alloc _).alloc _,(aK.newAt _ _ _ _ U).alloc _,aK.newAt _ _ _ _ (by simp[X])⟩ ?_;clear U X H0;rintro W0 ⟨S,b,a⟩;obtain⟨E,P0,Q0⟩:=bU S b a;clear S b a;go_wp2_with fail;refine(kK g d0 W0 E.O.rd).mono ?_;have Y:∃p,p=M.Rd.num d0 4:=⟨_,rfl⟩;obtain⟨⟨i,d1⟩,q⟩:=Y;rw[<-q];have q0:=ev E.O.rd 4 z;rw[<-q]at q0;have aI:=au q;clear q;simp only at q0;obtain⟨SO,SP⟩:=q0;rintro e v0 ⟨rfl,R,u⟩;have S:=E.O.call R u;have b:=E.O.cw P0.O aR u;have a:=E.O.cw Q0.O aR u;have Q:=a.cell 0;have f0:=a.frozen 0;simp at Q;obtain⟨HS,c,d⟩:=bU S b a;clear S b a R u E P0 Q0;go_wp2_with fail;have S:=HS.O;have b:=c.O;have a:=d.O;refine gu (λW=>RS w g W d1/\aK W r2 462 #[J ar 0,J bI 0,J .i32 0,J ar 0,J ar 0,J ar 0,J ar 0]/\aK W f 462 #[J ar i,J bI 0,J .i32 0,J ar 0,J ar 0,J ar 0,J ar 0]) ⟨S.set a aR aR g3 0 _,b.dS (p:=⟨f,0,I⟩) n23 _,by simpa using a.bC 0 (J ar i)⟩ ?_;clear HS c d S b a Q f0;rintro W1 ⟨S,b,a⟩;obtain⟨F,P1,Q1⟩:=bU S b a;clear S b a;go_wp2_with fail;refine(lW g d1 W1 F.O.rd).mono ?_;have df:∃p,p=M.Rd.num d1 1:=⟨_,rfl⟩;obtain⟨⟨k,d2⟩,r⟩:=df;rw[<-r];have q1:=ev F.O.rd 1 z;rw[<-r]at q1;have eI:=au r;clear r;simp only at q1;obtain⟨SQ,SU⟩:=q1;rintro e v1 ⟨rfl,R,u⟩;have S:=F.O.call R u;have b:=F.O.cw P1.O aR u;have a:=F.O.cw Q1.O aR u;have c1:=a.cell 1;have f1:=a.frozen 1;simp at c1;obtain⟨HS,c,d⟩:=bU S b a;clear S b a R u F P1 Q1;go_wp2_with fail;have S:=HS.O;have b:=c.O;have a:=d.O;refine gu (λW=>RS w g W d2/\aK W r2 462 #[J ar 0,J bI 0,J .i32 0,J ar 0,J ar 0,J ar 0,J ar 0]/\aK W f 462 #[J ar i,J bI k,J .i32 0,J ar 0,J ar 0,J ar 0,J ar 0]) ⟨S.set a aR aR g3 1 _,b.dS (p:=⟨f,1,I⟩) n23 _,by simpa using a.bC 1 (J bI k)⟩ ?_;clear HS c d S b a c1 f1;rintro W2 ⟨S,b,a⟩;obtain⟨G,P2,Q2⟩:=bU S b a;clear S b a;go_wp2_with fail;refine(AU g d2 W2 G.O.rd).mono ?_;have gX:∃p,p=M.Rd.num d2 3:=⟨_,rfl⟩;obtain⟨⟨x2,d3⟩,s⟩:=gX;rw[<-s];have q2:=ev G.O.rd 3 z;rw[<-s]at q2;have mK:=au s;clear s;simp only at q2;obtain⟨SV,SW⟩:=q2;rintro e v2 ⟨rfl,R,u⟩;have S:=G.O.call R u;have b:=G.O.cw P2.O aR u;have a:=G.O.cw Q2.O aR u;obtain⟨HS,c,d⟩:=bU S b a;have c2:=a.cell 2;have f2:=a.frozen 2;simp at c2;clear S b a R u G P2 Q2;go_wp2_with fail;refine(FK _ _).mono ?_;rintro e v9 ⟨⟨y,rfl⟩,e9⟩;subst e9;go_wp2_with fail;generalize wrap32 y=n;have S:=HS.O;have b:=c.O;have a:=d.O;refine gu (λW=>RS w g W d3/\aK W r2 462 #[J ar 0,J bI 0,J .i32 0,J ar 0,J ar 0,J ar 0,J ar 0]/\aK W f 462 #[J ar i,J bI k,J .i32 n,J ar 0,J ar 0,J ar 0,J ar 0]) ⟨S.set a aR aR g3 2 _,b.dS (p:=⟨f,2,I⟩) n23 _,by simpa using a.bC 2 (J .i32 n)⟩ ?_;clear HS c d S b a c2 f2;rintro W3 ⟨S,b,a⟩;obtain⟨H,P3,Q3⟩:=bU S b a;clear S b a;go_wp2_with fail;refine(kK g d3 W3 H.O.rd).mono ?_;have SG:∃p,p=M.Rd.num d3 4:=⟨_,rfl⟩;obtain⟨⟨l,d4⟩,t⟩:=SG;rw[<-t];have q3:=ev H.O.rd 4 z;rw[<-t]at q3;have SH:=au t;clear t;simp only at q3;obtain⟨SX,SY⟩:=q3;rintro e v3 ⟨rfl,R,u⟩;have S:=H.O.call R u;have b:=H.O.cw P3.O aR u;have a:=H.O.cw Q3.O aR u;have c3:=a.cell 3;have f3:=a.frozen 3;simp at c3;obtain⟨HS,c,d⟩:=bU S b a;clear S b a R u H P3 Q3;go_wp2_with fail;have S:=HS.O;have b:=c.O;have a:=d.O;refine gu (λW=>RS w g W d4/\aK W r2 462 #[J ar 0,J bI 0,J .i32 0,J ar 0,J ar 0,J ar 0,J ar 0]/\aK W f 462 #[J ar i,J bI k,J .i32 n,J ar l,J ar 0,J ar 0,J ar 0]) ⟨S.set a aR aR g3 3 _,b.dS (p:=⟨f,3,I⟩) n23 _,by simpa using a.bC 3 (J ar l)⟩ ?_;clear HS c d S b a c3 f3;rintro W4 ⟨S,b,a⟩;obtain⟨K,P4,Q4⟩:=bU S b a;clear S b a;go_wp2_with fail;refine(kK g d4 W4 K.O.rd).mono ?_;have SI:∃p,p=M.Rd.num d4 4:=⟨_,rfl⟩;obtain⟨⟨m,d5⟩,x⟩:=SI;rw[<-x];have q4:=ev K.O.rd 4 z;rw[<-x]at q4;have SJ:=au x;clear x;simp only at q4;obtain⟨SZ,Ta⟩:=q4;rintro e v4 ⟨rfl,R,u⟩;have S:=K.O.call R u;have b:=K.O.cw P4.O aR u;have a:=K.O.cw Q4.O aR u;have c4:=a.cell 4;have f4:=a.frozen 4;simp at c4;obtain⟨HS,c,d⟩:=bU S b a;clear S b a R u K P4 Q4;go_wp2_with fail;have S:=HS.O;have b:=c.O;have a:=d.O;refine gu (λW=>RS w g W d5/\aK W r2 462 #[J ar 0,J bI 0,J .i32 0,J ar 0,J ar 0,J ar 0,J ar 0]/\aK W f 462 #[J ar i,J bI k,J .i32 n,J ar l,J ar m,J ar 0,J ar 0]) ⟨S.set a aR aR g3 4 _,b.dS (p:=⟨f,4,I⟩) n23 _,by simpa using a.bC 4 (J ar m)⟩ ?_;clear HS c d S b a c4 f4;rintro W5 ⟨S,b,a⟩;obtain⟨L,P5,Q5⟩:=bU S b a;clear S b a;go_wp2_with fail;refine(kK g d5 W5 L.O.rd).mono ?_;have SK:∃p,p=M.Rd.num d5 4:=⟨_,rfl⟩;obtain⟨⟨o,d6⟩,A⟩:=SK;rw[<-A];have q5:=ev L.O.rd 4 z;rw[<-A]at q5;have SL:=au A;clear A;simp only at q5;obtain⟨Tb,Tc⟩:=q5;rintro e v5 ⟨rfl,R,u⟩;have S:=L.O.call R u;have b:=L.O.cw P5.O aR u;have a:=L.O.cw Q5.O aR u;have c5:=a.cell 5;have f5:=a.frozen 5;simp at c5;obtain⟨HS,c,d⟩:=bU S b a;clear S b a R u L P5 Q5;go_wp2_with fail;have S:=HS.O;have b:=c.O;have a:=d.O;refine gu (λW=>RS w g W d6/\aK W r2 462 #[J ar 0,J bI 0,J .i32 0,J ar 0,J ar 0,J ar 0,J ar 0]/\aK W f 462 #[J ar i,J bI k,J .i32 n,J ar l,J ar m,J ar o,J ar 0]) ⟨S.set a aR aR g3 5 _,b.dS (p:=⟨f,5,I⟩) n23 _,by simpa using a.bC 5 (J ar o)⟩ ?_;clear HS c d S b a c5 f5;rintro W6 ⟨S,b,a⟩;obtain⟨N,P6,Q6⟩:=bU S b a;clear S b a;go_wp2_with fail;refine(kK g d6 W6 N.O.rd).mono ?_;have SM:∃p,p=M.Rd.num d6 4:=⟨_,rfl⟩;obtain⟨⟨C,d7⟩,B⟩:=SM;rw[<-B];have q6:=ev N.O.rd 4 z;rw[<-B]at q6;have SN:=au B;clear B;simp only at q6;obtain⟨Td,Te⟩:=q6;rintro e v6 ⟨rfl,R,u⟩;have S:=N.O.call R u;have b:=N.O.cw P6.O aR u;have a:=N.O.cw Q6.O aR u;have T:=a.cell 6;have f6:=a.frozen 6;simp at T;obtain⟨HS,c,d⟩:=bU S b a;clear S b a R u N P6 Q6;go_upto_region 9 with fail;have S:=HS.O;have b:=c.O;have a:=d.O;refine aW (λW=>RS w g W d7/\aK W r2 462 #[J ar 0,J bI 0,J .i32 0,J ar 0,J ar 0,J ar 0,J ar 0]/\aK W f 462 #[J ar i,J bI k,J .i32 n,J ar l,J ar m,J ar o,J ar C]) ⟨S.set a aR aR g3 6 _,b.dS (p:=⟨f,6,I⟩) n23 _,by simpa using a.bC 6 (J ar C)⟩ ?_;clear HS c d S b a T f6;rintro W7 ⟨S,b,a⟩;obtain⟨G7,P7,Q7⟩:=bU S b a;clear S b a;have j:=Q7.O;have k0:=j.cell 0;have k1:=j.cell 1;have k2:=j.cell 2;have k3:=j.cell 3;have k4:=j.cell 4;have k5:=j.cell 5;have k6:=j.cell 6;have j:=P7.O;have Q:=j.cell 0;have f0:=j.frozen 0;have c1:=j.cell 1;have f1:=j.frozen 1;have c2:=j.cell 2;have f2:=j.frozen 2;have c3:=j.cell 3;have f3:=j.frozen 3;have c4:=j.cell 4;have f4:=j.frozen 4;have c5:=j.cell 5;have f5:=j.frozen 5;have T:=j.cell 6;have f6:=j.frozen 6;have Z0:=P7.O;have S0:=G7.O;have S1:=S0.set Z0 aR aR g2 0 (J ar i);have Z1:=Z0.bC 0 (J ar i);have S2:=S1.set Z1 aR aR g2 1 (J bI k);have Z2:=Z1.bC 1 (J bI k);have S3:=S2.set Z2 aR aR g2 2 (J .i32 n);have Z3:=Z2.bC 2 (J .i32 n);have S4:=S3.set Z3 aR aR g2 3 (J ar l);have Z4:=Z3.bC 3 (J ar l);have S5:=S4.set Z4 aR aR g2 4 (J ar m);have Z5:=Z4.bC 4 (J ar m);have S6:=S5.set Z5 aR aR g2 5 (J ar o);have Z6:=Z5.bC 5 (J ar o);have S7:=S6.set Z6 aR aR g2 6 (J ar C);have Z7:=Z6.bC 6 (J ar C);have SS:=S7;have D:=Z7;clear S0 Z0 S1 Z1 S2 Z2 S3 Z3 S4 Z4 S5 Z5 S6 Z6 S7 Z7;have z0:=D.cell 0;have z1:=D.cell 1;have z2:=D.cell 2;have z3:=D.cell 3;have z4:=D.cell 4;have z5:=D.cell 5;have z6:=D.cell 6;simp at k0 Q z0 k1 c1 z1 k2 c2 z2 k3 c3 z3 k4 c4 z4 k5 c5 z5 k6 T z6;have P:=au SS;clear D SS j;go_wp2_with fail;refine ax (v:=cg #[J ar i,J bI k,J .i32 n,J ar l,J ar m,J ar o,J ar C]) (by simp[aV,results301,go_sem,z0,z1,z2,z3,z4,z5,z6]) rfl ⟨⟨i,k,n,l,m,o,C,rfl⟩,?_,P.O.u⟩;have e:M.iD [4,1,3,4,4,4,4] d0=d7:=by
  simp only[M.iD];rw[<-aI.O,<-eI.O,<-mK.O,<-SH.O,<-SJ.O,<-SL.O,<-SN.O]
 rw[e];exact P.O.rd
end
def yO(a:Bool)(body:M.cQ)(d:M.Rd):M.cQ×M.Rd:=
 if a then(match M.pg body with | some kept=>(kept,if 0<d.left.length then d.fail 2 else d) | none=>([],d.fail 2)) else(body,d)
def xO{xs k:List Int}(h:M.pg xs=Z k):k=xs.take k.length/\k.length<=xs.length:=by
 unfold M.pg at h;split at h
 ·cases h
 ·split at h
  ·cases h
  ·simp only[Option.some.injEq]at h;subst h;simp
def AE(g:Nat)(d0:M.Rd)(w:aw)(h:iG w g d0)(hl:d0.left.length<=200):aF af 272 #[aq (Z ⟨g,0,I⟩)] w λe w' =>
  (∃b:Sl,e=av (cg #[J bI (M.fJ d0).1.count,J bI (M.fJ d0).1.type,ae b.a b.n b.c])/\b.B w' (M.fJ d0).1.body)/\iG w' g (M.fJ d0).2/\cS (One g) w w':=by
 obtain⟨H0,HL⟩:=bu (RS.start h) hl;clear h hl;go_enter func272,ntmps272;go_upto_region 1 with fail;obtain⟨r2,e2⟩:=dH w.heap.size;rw[<-e2];have g2:w.heap.size<=r2:=z;refine aW (λW=>RS w g W d0/\aK W r2 286 #[J bI 0,J bI 0,ae I 0 0]) ⟨H0.O.alloc _,aK.newAt _ _ _ _ e2⟩ ?_;clear e2 H0;rintro W0 ⟨S,f⟩;obtain⟨G0,P0⟩:=bu S f;clear S f;go_wp2_with fail;refine(lW g d0 W0 G0.O.rd).mono ?_;have SU:∃p,p=M.Rd.num d0 1:=⟨_,rfl⟩;obtain⟨⟨d,d1⟩,x⟩:=SU;rw[<-x];have q1:=ev G0.O.rd 1 z;rw[<-x]at q1;have aI:=au x;clear x;simp only at q1;obtain⟨df,SV⟩:=q1;rintro e W1 ⟨rfl,R,u⟩;have S:=G0.O.call R u;have f:=G0.O.cw P0.O aR u;obtain⟨G1,P1⟩:=bu S f;clear S f R u G0 P0;go_wp2_with fail;refine(lW g d1 W1 G1.O.rd).mono ?_;have SW:∃p,p=M.Rd.num d1 1:=⟨_,rfl⟩;obtain⟨⟨x2,d2⟩,y⟩:=SW;rw[<-y];have q2:=ev G1.O.rd 1 z;rw[<-y]at q2;have eI:=au y;clear y;simp only at q2;obtain⟨Tg,Th⟩:=q2;rintro e W2 ⟨rfl,R,u⟩;have S:=G1.O.call R u;have f:=G1.O.cw P1.O aR u;obtain⟨G2,P2⟩:=bu S f;clear S f R u G1 P1;go_wp2_with fail;refine(qH g d2 W2 G2.O.rd).mono ?_;have SX:∃p,p=M.Rd.num d2 2:=⟨_,rfl⟩;obtain⟨⟨x3,d3⟩,C⟩:=SX;rw[<-C];have q3:=ev G2.O.rd 2 z;rw[<-C]at q3;have gX:=au C;clear C;simp only at q3;obtain⟨Ti,SY⟩:=q3;rintro e W3 ⟨rfl,R,u⟩;have S:=G2.O.call R u;have f:=G2.O.cw P2.O aR u;obtain⟨G3,P3⟩:=bu S f;clear S f R u G2 P2;have o:bits .and bI d 31=d % 32:=bits_mask bI 8 aR wraps_u8 5 aR d df z;obtain⟨pb,k⟩:=dH (decide (d / 32 % 2=1));have D:=(Fv d ⟨df,SV⟩).2;rw[<-k]at D;obtain⟨mK,SG,E⟩:=bU k o D;clear k o D;go_upto_region 2 with fail;go_cut [20] (λs wc=>s=ai (decide (d<128)||decide (191<d))/\wc=W3);case first =>
  by_cases h1:d<128
  ·go_wp2_with fail;go_meet;exact⟨by simp[h1],rfl⟩
  ·go_wp2_with fail;go_meet;exact⟨by rw[show decide (d<128)=false from by simpa using h1];first|rfl|simp,rfl⟩
 case rest =>
  obtain⟨rfl,rfl⟩:=hcut;go_upto_if 20 with fail;go_cut [] (λW=>RS w g W (if d<128\/191<d then d3.fail 2 else d3)/\aK W r2 286 #[J bI 0,J bI 0,ae I 0 0]);case first =>
   by_cases Y:d<128\/191<d
   ·have q:(decide (d<128)||decide (191<d))=true:=by simpa using Y
    rw[q];have HF:=au Y;clear Y q;go_wp2_with fail;refine(mP g d3 2 _ G3.O.rd).mono ?_;rintro e v6 ⟨rfl,F,u6⟩;have G:=G3.O.cw P3.O aR u6;have H:=G3.O.call F u6;obtain⟨r,t⟩:=bu H G;clear F u6 H G;go_wp2_with fail;go_meet;rw[if_pos HF.O];exact⟨r.O,t.O⟩
   ·have q:(decide (d<128)||decide (191<d))=false:=by simpa using Y
    rw[q];have HF:=au Y;clear Y q;go_wp2_with fail;go_meet;rw[if_neg HF.O];exact⟨G3.O,P3.O⟩
  case rest =>
   obtain⟨S4,B4⟩:=hcut;have L:(if d<128\/191<d then d3.fail 2 else d3).left.length<=200:=by
    have l3:=nC gX.O.symm (nC eI.O.symm (nC aI.O.symm HL.O));split
    ·exact aP (xD _ _) l3
    ·exact l3
   obtain⟨d4,N⟩:=dH (if d<128\/191<d then d3.fail 2 else d3);rw[<-N]at S4 L;obtain⟨SZ,G4,P4,SH⟩:=cA N S4 B4 L;have Tf:x3<=65535:=SY;clear N S4 B4 G3 P3 L;go_wp2_with fail;refine(Cu g d4 (4*x3) _ G4.O.rd z (lE SH.O)).mono ?_;rintro e v10 ⟨⟨A,m,c,rfl,T,SI,P,hz⟩,R5,u5⟩;have B5:=G4.O.cw P4.O aR u5;have S5:=G4.O.call R5 u5;have hlen:(d4.take (4*x3)).1.length<=200:=aP (xc _ _) SH.O;obtain⟨⟨body,d5⟩,Q⟩:∃p,p=d4.take (4*x3):=⟨_,rfl⟩;rw[<-Q]at T S5 hlen;simp only at T S5 hlen;obtain⟨K,SJ⟩:=dH (yO pb body d5);obtain⟨Ta,HT,l,P5,i,SK,SL,SM⟩:=qh Q T S5 B5 SJ (⟨T,SI,P,hz⟩:Sl.B v10 ⟨A,m,c⟩ body) hlen T.len;have D:=E.O;clear Q T S5 B5 SJ R5 u5 G4 P4 hlen;go_upto_if 30 with fail;go_cut [6] (λs W=>∃b:Sl,s=ae b.a b.n b.c/\b.B W K.1/\RS w g W K.2/\aK W r2 286 #[J bI 0,J bI 0,ae I 0 0]);case first =>
    cases pb with
    |false =>
     have e:K=(body,d5):=i.O;have HE:=au e;clear i e;go_wp2_with fail;go_meet;rw[HE.O];exact⟨⟨A,m,c⟩,rfl,SK.O,l.O,P5.O⟩
    |true =>
     go_wp2_with fail;refine(Fu A m c body _ HT.O (by have:=SL.O;have:=SM.O;omega) SI).mono ?_;cases hu:M.pg body with
     |none =>
      have e:K=([],d5.fail 2):=by rw[i.O];unfold yO;rw[hu];rfl
      have HE:=au e;clear i e hu;rintro e w9 ⟨rfl,U⟩;subst U;go_wp2_with fail;refine(mP g d5 2 _ l.O.rd).mono ?_;rintro e v11 ⟨rfl,F,u6⟩;have G:=l.O.cw P5.O aR u6;have H:=l.O.call F u6;obtain⟨r,t⟩:=bu H G;clear F u6 H G;go_wp2_with fail;go_meet;rw[HE.O];exact⟨.nil,rfl,Sl.vG,r.O,t.O⟩
     |some kept =>
      have e:K=(kept,if 0<d5.left.length then d5.fail 2 else d5):=by rw[i.O];unfold yO;rw[hu];rfl
      have HE:=au e;obtain⟨k1,k2⟩:=xO hu;have SN:kept.length<=m:=by have:=SM.O;omega
      have SO:=au SN;clear i e hu k1 k2 SN;rintro e w9 ⟨⟨rfl,TK⟩,U⟩;subst U;have SP:=au TK;clear TK;by_cases SQ:0<d5.left.length
      ·have X:=au SQ;go_wp2_with fail;refine(lr g d5 _ l.O.rd).mono ?_;rintro e w9 ⟨rfl,U⟩;subst U;go_wp2_with fail;refine(mP g d5 2 _ l.O.rd).mono ?_;rintro e v11 ⟨rfl,F,u6⟩;have G:=l.O.cw P5.O aR u6;have H:=l.O.call F u6;have T6:TB v11 A kept.length kept:=by
        obtain⟨cb,Tb⟩:=l.O.rd.cw;exact SP.O.one u6 Tb aR
       obtain⟨r,t,Tc⟩:=bU H G T6;clear F u6 H G T6;go_wp2_with fail;go_meet;rw[HE.O];simp only[if_pos X.O];exact⟨⟨A,kept.length,c⟩,rfl,⟨Tc.O,by have:=SO.O;show kept.length<=c;omega,P,hz⟩,r.O,t.O⟩
      ·have X:=au SQ;go_wp2_with fail;refine(lr g d5 _ l.O.rd).mono ?_;rintro e w9 ⟨rfl,U⟩;subst U;go_wp2_with fail;go_meet;rw[HE.O];simp only[if_neg X.O];exact⟨⟨A,kept.length,c⟩,rfl,⟨SP.O,by have:=SO.O;show kept.length<=c;omega,P,hz⟩,l.O,P5.O⟩
   case rest =>
    obtain⟨b,rfl,q,S,f⟩:=hcut;have o:=SG.O;have eC:M.fJ d0=(⟨d % 32,x2,K.1⟩,K.2):=by
     unfold M.fJ;rw[<-aI.O];simp only;rw[<-eI.O];simp only;rw[<-gX.O];simp only;rw[<-SZ.O,<-Ta.O];simp only;rw[i.O];unfold yO;have k:=mK.O;cases pb with
     |false =>
      rw[if_neg (of_decide_eq_false k.symm)];rfl
     |true =>
      rw[if_pos (of_decide_eq_true k.symm)];cases M.pg body<;>rfl
    have j:=f;have c0:=j.cell 0;have c1:=j.cell 1;have c2:=j.cell 2;have f0:=j.frozen 0;have f1:=j.frozen 1;have f2:=j.frozen 2;have S1:=S.set f aR aR g2 0 (J bI (d % 32));have Z1:=f.bC 0 (J bI (d % 32));have S2:=S1.set Z1 aR aR g2 1 (J bI x2);have Z2:=Z1.bC 1 (J bI x2);have S3:=S2.set Z2 aR aR g2 2 (ae b.a b.n b.c);have Z3:=Z2.bC 2 (ae b.a b.n b.c);have T1:=q.tl.bC f aR 0 (J bI (d % 32));have T2:=T1.bC Z1 aR 1 (J bI x2);have T3:=T2.bC Z2 aR 2 (ae b.a b.n b.c);have z0:=Z3.cell 0;have z1:=Z3.cell 1;have z2:=Z3.cell 2;simp at c0 c1 c2 z0 z1 z2;obtain⟨HS,Td,Te⟩:=bU S3 (⟨T3,q.le,q.max,q.zero⟩:Sl.B _ b K.1) eC;clear S1 S2 S3 Z1 Z2 Z3 T1 T2 T3 S f q j eC i l P5 SK HT mK E;go_wp2_with fail;refine ax (v:=cg #[J bI (d % 32),J bI x2,ae b.a b.n b.c]) (by simp[aV,results272,go_sem,z0,z1,z2]) rfl ?_;rw[Te.O];exact⟨⟨b,rfl,Td.O⟩,HS.O.rd,HS.O.u⟩
def yV{P:Program}{a:Act}{w:aw}{Q:Exit->Act->aw->Prop}{c rest:Code}(l:Nat)(b:Act->aw->Prop)(d:Act->aw->Nat)(h:findLabel c l=Z (.seq .skip rest))
  (first:(∀a w,b a w->rest.wp P (Exit.jump l b Q) a w)->c.wp P (Exit.jump l b Q) a w)
  (pass:∀a w,b a w->rest.wp P (Exit.jump l (λa' w'=>b a' w'/\d a' w'<d a w) Q) a w):(Code.scope c).wp P Q a w:=by
 refine wp_scope_jumps l b d h (first λa w f=>wp_mono (pass a w f) λe a2 w2 g=>?_) (λa w f=>wp_seq (wp_skip (pass a w f)));cases e with
 |goto l=>exact⟨g.1,g.2.1⟩
 |_=>exact g
def IC:(af.info? 286).map (λi=>(i.zero,i.size,i.bytes))=Z (Z (cg #[J bI 0,J bI 0,ae I 0 0]),3,32):=cC
def lh(W:aw)(x:M.Chunk)(c:List Value):Prop:=∃b:Sl,c=[J bI x.count,J bI x.type,ae b.a b.n b.c]/\b.B W x.body/\b.n<=200/\(0<=x.count/\x.count<=31)/\(0<=x.type/\x.type<=255)
def lh.typed{w w':aw}{x:M.Chunk}{c:List Value}{F:Nat->Prop}{ts:List TypeId}(h:lh w x c)(u:cS F w w')(T:Typed w F ts)(ht:5∉ts):lh w' x c:=by
 obtain⟨b,h1,h2,h3⟩:=h;exact⟨b,h1,h2.typed u T ht,h3⟩
def lh.below{w w':aw}{x:M.Chunk}{c:List Value}(h:lh w x c)(u:aC w w'):lh w' x c:=by
 obtain⟨b,h1,h2,h3⟩:=h;exact⟨b,h1,h2.below u,h3⟩
def EJ(w:aw):∀(x:M.Chunk) c,lh w x c->c.length=3:=by
 rintro x c ⟨b,rfl,_⟩;rfl
def wh(W:aw)(v:Value):Nat:=match v with
 | aq (some p)=>(match W.cell? ⟨p.block,0,I⟩ with | some (ae _ n _)=>n | _=>0)
 |_=>0
def iG.len{W:aw}{g:Nat}{d:M.Rd}(h:iG W g d):wh W (aq (Z ⟨g,0,I⟩))=d.left.length:=by
 obtain⟨A,n,c,b,e,_⟩:=h;have a:=b.cell 0;simp at a;unfold wh;simp only[a];exact e.len.symm
structure PU(w:aw)(b:M.cQ)(W:aw)(g:Nat)(v:Value)(L:List M.Chunk)(q:List (List Value))(f:Nat)(d:M.Rd):Prop where
 hg:w.heap.size<=g
 rd:iG W g d
 ok:d.Ok
 PA:d.left.length<=200
 lf:d.left.length<=4*f
 f1:1<=f
 len:L.length+f<=60
 eq:M.jN 60 ⟨b,0⟩=(L++(M.jN f d).1,(M.jN f d).2)
 own:W.ownsRow w.heap.size 286 3 v L.length q.flatten
 fit:Fit (lh W) L q
 fN:aC w W
def PV(w:aw)(A:Option Addr)(n c:Nat)(b:M.cQ)(a':Act)(W:aw):Prop:=
 ∃(g:Nat) (v:Value) (L:List M.Chunk) (q:List (List Value)) (f:Nat) (d:M.Rd) (u6 u7 u8 u9 u10 u11 u12 u13 u14 u15 u16 u17 u18 u19:Value),
  a'={ tmps:=#[ae A n c,undef,ae I 0 0,J V 0,aq (Z ⟨g,0,I⟩),v,u6,u7,u8,u9,u10,u11,u12,u13,u14,u15,u16,u17,u18,u19,undef,undef,undef,undef,undef,undef],defers:=[] }/\PU w b W g v L q f d
def xk{W:aw}{g:Nat}{d:M.Rd}(h:iG W g d):(0<=(M.fJ d).1.count/\(M.fJ d).1.count<=31)/\(0<=(M.fJ d).1.type/\(M.fJ d).1.type<=255):=by
 obtain⟨f,i,n,d1,d2,d3,d5,body,j,l,o,p,e⟩:=M.tR d;rw[e];have k:=ev h 1 z;rw[j]at k;simp only at k;refine⟨⟨by show 0<=f % 32;omega,by show f % 32<=31;omega⟩,?_⟩;have b:i=M.bO (d1.take 1).1:=by
  have:i=(d1.num 1).1:=by rw[l]
  rw[this];rfl
 have m:∀y∈(d1.take 1).1,0<=y/\y<=255:=λy hy=>by
  have a:=Dn d1 1 y hy;have c:d1=(d.take 1).2:=by
   have:d1=(d.num 1).2:=by rw[j]
   rw[this];rfl
  rw[c]at a;have:y∈d.left:=by
   unfold M.Rd.take at a;split at a
   ·exact a
   ·split at a
    ·unfold M.Rd.fail at a;split at a
     ·exact a
     ·simp at a
    ·exact List.mem_of_mem_drop a
  exact h.wA y this
 have:=tV _ m;have hlen:(d1.take 1).1.length<=1:=qP d1 1;have h2:(256:Int) ^ (d1.take 1).1.length<=256 ^ 1:=Lq hlen;rw[b];have h3:(256:Int) ^ 1=256:=aR;show 0<=M.bO (d1.take 1).1/\M.bO (d1.take 1).1<=255;omega
def zo(d:M.Rd):(M.fJ d).1.body.length<=d.left.length:=by
 obtain⟨a,j,b,d1,d2,d3,d5,body,c,f,g,h,e⟩:=M.tR d;rw[e];have l1:d1.left.length<=d.left.length:=by have:=M.uR d 1;rw[c]at this;exact this
 have l2:d2.left.length<=d1.left.length:=by have:=M.uR d1 1;rw[f]at this;exact this
 have l3:d3.left.length<=d2.left.length:=by have:=M.uR d2 2;rw[g]at this;exact this
 have l4:(if a<128\/191<a then d3.fail 2 else d3).left.length<=d3.left.length:=by
  split
  ·exact M.se _ _
  ·exact aj _
 have l5:body.length<=(if a<128\/191<a then d3.fail 2 else d3).left.length:=by have:=xc (if a<128\/191<a then d3.fail 2 else d3) (4*b);rw[h]at this;exact this
 show(if a / 32 % 2=1 then(match M.pg body with | some kept=>(kept,if 0<d5.left.length then d5.fail 2 else d5) | none=>([],d5.fail 2)) else(body,d5)).1.length<=_;split
 ·split
  ·rename_i k i;have:=(xO i).2;show k.length<=_;omega
  ·exact Nat.zero_le _
 ·show body.length<=_;omega
def I7(A:Option Addr)(n c:Nat)(b:M.cQ)(w:aw)(h:TB w A n b)(eI:n<=c)(hz:A=I->c=0)(hn:n<=100000):aF af 225 #[ae A n c] w λe w' =>
  (∃(v:Value) (q:List (List Value)),e=av (aB #[v,J V (M.splitB b).2])/\∀l,(M.splitB b).1=Z l->w'.ownsRow w.heap.size 286 3 v l.length q.flatten/\Fit (lh w') l q/\l.length<=60)/\aC w w':=by
 have B:=h.len;by_cases Tc:200<n
 ·have e0:M.splitB b=(I,4):=by unfold M.splitB;rw[if_pos z]
  rw[e0];clear e0 B h hz eI;go_enter func225,ntmps225;go_wp2_with fail;go_step3;go_wp2_with fail;simp only[Exit.noGoto];refine ax (v:=aB #[ae I 0 0,J V 4]) (by simp[aV,results225,go_sem]) rfl ⟨⟨ae I 0 0,[],rfl,λl B=>by cases B⟩,ao _ _⟩
 ·obtain⟨i0,hi,gX,mK,SG⟩:=cY IC;obtain⟨HI,SN,SO,SP,HN,HL⟩:=lH hi gX mK SG (wz A n c b w h hn hz) B;clear hi gX mK SG h B hz eI hn;go_enter func225,ntmps225;go_wp2_with fail;refine yV 0 (PV w A n c b) (λa' W=>wh W (a'.tmps.getD 4 undef)) rfl ?_ ?_
  ·intro again;have AG:=au again;clear again;go_wp2_with (go_at_call 47;refine HN.O.mono ?_;rintro e w1 ⟨⟨g,rfl,hg,hR⟩,b1⟩;have HG:=au hg;have HR:=au hR;have HB:=au b1;clear hg hR b1);go_step3;rename_i hK;refine hK _ _ (AG.O _ _ ?_);refine⟨g,ae I 0 0,[],[],60,⟨b,0⟩,_,_,_,_,_,_,_,_,_,_,_,_,_,_,rfl,⟨HG.O,HR.O,.new b,?_,?_,z,dt,dt,⟨rfl,aJ ⟨rfl,rfl⟩⟩,trivial,HB.O⟩⟩
   ·have:=HL.O;show b.length<=200;omega
   ·have:=HL.O;show b.length<=4*60;omega
  ·rintro a' W ⟨g,v,L,q,f,d,u6,u7,u8,u9,u10,u11,u12,u13,u14,u15,u16,u17,u18,u19,rfl,S⟩;obtain⟨A5,c5,hv⟩:=bA S.own;obtain⟨HV,HS⟩:=bu hv S;have hlen:=S.len;subst hv;clear S;go_wp2_with fail;refine(AE g d W HS.O.rd HS.O.PA).mono ?_;rintro e W1 ⟨⟨bs,rfl,C⟩,R1,u1⟩;obtain⟨D,E⟩:=M.Cs HS.O.ok;obtain⟨F,G⟩:=xk HS.O.rd;have H:=zo d;have m:M.jN f d=if 0<(M.fJ d).2.left.length then((M.fJ d).1::(M.jN (f-1) (M.fJ d).2).1,(M.jN (f-1) (M.fJ d).2).2) else([(M.fJ d).1],(M.fJ d).2):=by
    have hf:=HS.O.f1;obtain⟨f',rfl⟩:∃f',f=f'+1:=⟨f-1,z⟩;rw[M.jN];rfl
   obtain⟨⟨s,d'⟩,SH⟩:∃p,p=M.fJ d:=⟨_,rfl⟩;rw[<-SH]at C R1 D E F G H m ⊢;simp only at C R1 D E F G H m ⊢;have T1:Typed W (One g) [231]:=HS.O.rd.typed;have rO:=Cy HS.O.own u1 T1 aR;have P:Fit (lh W1) L q:=HS.O.fit.mono λx k SQ=>SQ.typed u1 T1 aR;have Q:aC w W1:=HS.O.fN.trans (u1.below HS.O.fN.size λi hi=>by cases hi;exact HS.O.hg);obtain⟨SI,SU,SV,SW,SX,SY,R,u,SJ,T⟩:=PG C R1 D E (And.intro F G) H m rO P Q;clear C R1 D E F G H m rO P Q u1 T1 SH;go_wp2_with (at_builtin;go_loud (refine dM _ rfl _ _ 373 rfl w.heap.size 286 i0 (cg #[J bI 0,J bI 0,ae I 0 0]) 3 32 underlying373 HI.O SN.O SO.O SP.O rfl aR _ _ _ rfl (u.O.alloc _) ⟨W1.heap.size,0,I⟩ 1 1 [J bI s.count,J bI s.type,ae bs.a bs.n bs.c] rfl rfl (fB W1 286 _) tk ?c3 ?c4 ?c5 ?_));case c3=>unfold maxLen;omega
   case c4=>omega
   case c5=>have:=T.O.size;simp;omega
   intro v5 W5 U g5 _;have T5:Typed (W1.alloc (.cells #[J bI s.count,J bI s.type,ae bs.a bs.n bs.c] 286)) (λi=>(ae A5 L.length c5).ownBlock=Z i) [286]:=ib (u.O.alloc _);have U5:=cS.wx g5;have SK:iG W5 g d':=((SU.O.below ((ao _ _).alloc (aj _) _)).tc U5 T5 aR aR);have r:=T.O;have X:aC w W5:=(r.alloc r.size _).grown g5 (by have:=r.size;simp;omega) (λj hj=>by have:=(u.O.lt j hj).1;omega);have Y:W5.ownsRow w.heap.size 286 3 v5 (L++[s]).length (q++[[J bI s.count,J bI s.type,ae bs.a bs.n bs.c]]).flatten:=by simpa using U
   have aI:Fit (lh W5) (L++[s]) (q++[[J bI s.count,J bI s.type,ae bs.a bs.n bs.c]]):=by
    have al:aC W1 (W1.alloc (.cells #[J bI s.count,J bI s.type,ae bs.a bs.n bs.c] 286)):=(ao _ _).alloc (aj _) _;refine Fit.snoc (SJ.O.mono λx k SQ=>(SQ.below al).typed U5 T5 aR) ⟨bs,rfl,(SI.O.below al).typed U5 T5 aR,?_,SX.O⟩;have:=SI.O.tl.len;have:=SY.O;have:=HS.O.PA;omega
   obtain⟨t,df,SL,SM⟩:=cA SK X Y aI;clear SK X Y aI T5 U5 g5 U r;go_wp2_with fail;refine(lr g d' _ t.O).mono ?_;rintro e w9 ⟨rfl,e9⟩;subst e9;by_cases K:0<d'.left.length
   ·have SZ:=au K;go_wp2_with fail;go_step3;have m:=R.O;rw[if_pos K]at m;have Td:=SW.O;have Te:=HS.O.lf;have Ta:=HS.O.f1;have Tf:=HS.O.PA;have Tb:=HS.O.len;refine⟨rfl,⟨g,v5,L++[s],_,f-1,d',_,_,_,_,_,_,_,_,_,_,_,_,_,_,rfl,⟨HS.O.hg,t.O,SV.O,z,z,z,dZ,?_,SL.O,SM.O,df.O⟩⟩,?_⟩
    ·rw[HS.O.eq,m];simp
    ·have e1:wh w9 (aq (Z ⟨g,0,I⟩))=d'.left.length:=t.O.len;have e2:wh W (aq (Z ⟨g,0,I⟩))=d.left.length:=HS.O.rd.len;show wh w9 (aq (Z ⟨g,0,I⟩))<wh W (aq (Z ⟨g,0,I⟩));rw[e1,e2];omega
   ·have SZ:=au K;have m:=R.O;rw[if_neg K]at m;have heq:=HS.O.eq;rw[m]at heq;have o:M.splitB b=if d'.end_≠0 then(I,d'.end_) else(Z (L++[s]),0):=by
     unfold M.splitB;rw[if_neg (lE HL.O),heq]
    have N:=au o;have Tb:=HS.O.len;have Ta:=HS.O.f1;clear m heq o;go_wp2_with fail;refine(qy g d' _ t.O).mono ?_;rintro e w8 ⟨rfl,e8⟩;subst e8;by_cases he:d'.end_=0
    ·have o:=N.O;rw[if_neg (by simpa using he)]at o;have y:=au o;rw[he];clear he o N;go_wp2_with fail;simp only[Exit.jump];refine ax (v:=aB #[v5,J V 0]) (by simp[aV,results225,go_sem]) rfl ?_;rw[y.O];exact⟨⟨v5,_,rfl,λl B=>by simp only[Option.some.injEq]at B;subst B;exact⟨SL.O,SM.O,dZ⟩⟩,df.O⟩
    ·have o:=N.O;rw[if_pos he]at o;have y:=au o;have Tg:(d'.end_ !=0)=true:=by simpa using he
     clear he o N;go_wp2_with fail;simp only[Exit.jump];refine ax (v:=aB #[ae I 0 0,J V d'.end_]) (by simp[aV,results225,go_sem]) rfl ?_;rw[y.O];exact⟨⟨ae I 0 0,[],rfl,λl B=>by cases B⟩,df.O⟩
def N1:(af.info? 396).map (λi=>(i.zero,i.size,i.bytes))=Z (Z (cg #[J ar 0,J bI 0]),2,8):=cC
def Mx:(af.info? 42).map (λi=>(i.zero,i.size,i.bytes))=Z (Z (J aN 0),1,2):=cC
def BQ(x:Int)(c:List Value):Prop:=(dU ar x).wf=true/\∃y,c=[J ar x,J bI y]
def Jr{w w':aw}{base:Nat}{e:TypeId}{size n:Nat}{v:Value}{xs:List Value}{g:Nat}(h:w.ownsRow base e size v n xs)(u:cS (One g) w w')(hg:v.ownBlock≠Z g):w'.ownsRow base e size v n xs:=
 du h u λi a q=>hg (by rw[a,show i=g from q])
def RS.grown{w0 w w':aw}{g:Nat}{d:M.Rd}{v:Value}{base:Nat}{e:TypeId}{size n:Nat}{xs:List Value}(h:RS w0 g w d)(own:w.ownsRow base e size v n xs)(a:w0.heap.size<=base)(gr:w.grownBy w' v.ownBlock)(h1:e≠231)(h2:e≠5):RS w0 g w' d:=by
 have T:=ib own;have U:=cS.wx gr;refine⟨h.rd.tc U T (by simpa using Ne.symm h1) (by simpa using Ne.symm h2),h.u.step U λi b=>aZ ?_⟩;exact aP a (own.lt i b).1
def RS.own{w0 w w':aw}{g:Nat}{d:M.Rd}{v:Value}{base:Nat}{e:TypeId}{size n:Nat}{xs:List Value}(h:RS w0 g w d)(own:w.ownsRow base e size v n xs)(u:cS (One g) w w')(h1:e≠231):w'.ownsRow base e size v n xs:=by
 obtain⟨c,a⟩:=h.rd.cw;exact Jr own u (λq=>ej own a h1 q.symm)
def Ct(g:Nat)(d0:M.Rd)(w:aw)(h:iG w g d0)(ok:d0.Ok)(hl:d0.left.length<=200):aF af 303 #[aq (Z ⟨g,0,I⟩)] w λe w' =>
  (∃(v:Value) (q:List (List Value)),e=av v/\w'.ownsRow w.heap.size 396 2 v (M.iE 30 d0).1.length q.flatten/\Fit BQ (M.iE 30 d0).1 q/\(M.iE 30 d0).1.length<=30)/\iG w' g (M.iE 30 d0).2/\cS (One g) w w':=by
 obtain⟨i0,hi,P,Q,T⟩:=cY N1;obtain⟨HI,SG,SH,SI,H0,b,HL⟩:=lV hi P Q T (RS.start h) ok hl;clear hi P Q T h ok hl;go_enter func303,ntmps303;go_wp2_with fail;go_loopw [3] (λv wr=>∃(L:List Int) (q:List (List Value)) (f:Nat) (d:M.Rd),RS w g wr d/\d.Ok/\d.left.length<=8*f/\L.length+f<=30/\M.iE 30 d0=(L++(M.iE f d).1,(M.iE f d).2)/\wr.ownsRow w.heap.size 396 2 v L.length q.flatten/\Fit BQ L q) (λ_ wr=>wh wr (aq (Z ⟨g,0,I⟩)));case atStart=>exact⟨[],[],30,d0,H0.O,b.O,by have:=HL.O;omega,dt,dt,⟨rfl,aJ ⟨rfl,rfl⟩⟩,trivial⟩
 case round =>
  clear H0 b HL;obtain⟨L,q,f,d,S,ok,hf,hlen,heq,own,fit⟩:=hrel;obtain⟨A5,c5,rfl⟩:=bA own;obtain⟨HS,b,HF,U,HO,m⟩:=lH S ok hf heq own fit;clear S ok hf heq own fit;by_cases r:0<d.left.length
  ·have SM:1<=f:=by have:=HF.O;omega
   have a:M.iE f d=((d.num 4).1::(M.iE (f-1) (M.iD [4,1,3] d)).1,(M.iE (f-1) (M.iD [4,1,3] d)).2):=by
    obtain⟨f',rfl⟩:∃f',f=f'+1:=⟨f-1,z⟩;rw[M.iE,if_pos r];rfl
   obtain⟨c,SJ⟩:=bu a r;clear a;go_wp2_with (go_at_call 53;refine(lr g d _ HS.O.rd).mono ?_;rintro e w9 ⟨rfl,e9⟩;subst e9);refine(kK g d _ HS.O.rd).mono ?_;have q4:=ev HS.O.rd 4 z;obtain⟨⟨t,d1⟩,x⟩:∃p,p=M.Rd.num d 4:=⟨_,rfl⟩;rw[<-x]at q4 ⊢;have k:=au x;simp only at q4;have W:=Ca q4;obtain⟨qa,qb⟩:=q4;clear x;rintro e W1 ⟨rfl,R,u⟩;have O1:=HS.O.own HO.O u aR;have S1:=HS.O.call R u;obtain⟨l,Y,SK⟩:=bU S1 O1 W;clear R u S1 O1 W;go_wp2_with fail;refine(lW g d1 _ l.O.rd).mono ?_;obtain⟨⟨x1,d2⟩,y⟩:∃p,p=M.Rd.num d1 1:=⟨_,rfl⟩;rw[<-y];have A:=au y;clear y;rintro e W2 ⟨rfl,R,u⟩;have O2:=l.O.own Y.O u aR;have S2:=l.O.call R u;obtain⟨B,C⟩:=bu S2 O2;clear R u S2 O2 l Y;go_upto_region 4 with fail;obtain⟨r4,e4⟩:=dH W2.heap.size;rw[<-e4];have al:aC W2 (W2.alloc (.cells #[J ar t,J bI x1] 396)):=(ao _ _).alloc (aj _) _;refine aW (λX=>RS w g X d2/\aK X r4 396 #[J ar t,J bI x1]/\X.ownsRow w.heap.size 396 2 (ae A5 L.length c5) L.length q.flatten/\w.heap.size<=r4/\(∀i,(ae A5 L.length c5).ownBlock=Z i->i≠r4)) ⟨B.O.alloc _,aK.newAt _ _ _ _ e4,du C.O (.bn (F:=cr) al) (λi _ q=>q.elim),?_,?_⟩ ?_
   ·have:=B.O.u.size;omega
   ·intro i hi;have:=(C.O.lt i hi).2;omega
   clear al e4 B C;rintro X ⟨S3,H,O3,g4,n4⟩;obtain⟨j,aI,df⟩:=bU S3 H O3;clear S3 H O3 n4;go_wp2_with fail;refine(AU g d2 _ j.O.rd).mono ?_;obtain⟨⟨x3,d3⟩,D⟩:∃p,p=M.Rd.num d2 3:=⟨_,rfl⟩;rw[<-D];have E:=au D;clear D;rintro e W4 ⟨rfl,R,u⟩;have O4:=j.O.own df.O u aR;have H:=j.O.cw aI.O aR u;have S4:=j.O.call R u;have k0:=H.cell 0;have k1:=H.cell 1;simp at k0 k1;obtain⟨eI,G⟩:=bu S4 O4;have SN:=S4.u.size;clear R u S4 O4 H j aI df;go_wp2_with (at_builtin;go_loud (refine dM _ rfl _ _ 274 rfl w.heap.size 396 i0 (cg #[J ar 0,J bI 0]) 2 8 underlying274 HI.O SG.O SH.O SI.O rfl aR _ _ _ rfl (G.O.alloc _) ⟨W4.heap.size,0,I⟩ 1 1 [J ar t,J bI x1] rfl rfl (fB W4 396 _) tk ?c3 ?c4 ?c5 ?_));case c3=>unfold maxLen;omega
   case c4=>omega
   case c5=>simp;omega
   intro v5 W5 n g5 _;have S5:=(eI.O.alloc _).grown (G.O.alloc _) (aj _) g5 aR aR;have o:W5.ownsRow w.heap.size 396 2 v5 (L++[t]).length (q++[[J ar t,J bI x1]]).flatten:=by simpa using n
   obtain⟨gX,SL⟩:=bu S5 o;clear S5 o n g5 eI G k0 k1;go_wp2_with fail;go_roundw;case rel =>
    have e3:M.iD [4,1,3] d=d3:=by
     simp only[M.iD];rw[<-k.O,<-A.O,<-E.O]
    have mK:=M.Im [4,1,3] b.O;rw[e3]at mK;refine⟨L++[t],_,f-1,d3,gX.O,mK,?_,dZ,?_,SL.O,m.O.snoc ⟨SK.O,x1,rfl⟩⟩
    ·have n1:=M.jn b.O (s:=4) z;have K:=b.O.num 4;rw[<-k.O]at n1 K;have n2:=M.jn K (s:=1) z;have N:=K.num 1;simp only at n1 n2 N;rw[<-A.O]at n2 N;have n3:=M.jn N (s:=3) z;simp only at n2 n3;rw[<-E.O]at n3;simp only at n3;have:=HF.O;omega
    ·rw[U.O,c.O,e3];have:(d.num 4).1=t:=by rw[<-k.O]
     rw[this];simp
   case measure =>
    have n1:=M.jn b.O (s:=4) z;have K:=M.uR d1 1;have N:=M.uR d2 3;rw[<-k.O]at n1;rw[<-A.O]at K;rw[<-E.O]at N;simp only at n1 K N;rw[gX.O.rd.len,HS.O.rd.len];have:=SJ.O;omega
  ·have a:M.iE f d=([],d):=by
    cases f with
    |zero=>rfl
    |succ f=>rw[M.iE,if_neg r]
   have c:=au a;clear a;go_wp2_with (go_at_call 53;refine(lr g d _ HS.O.rd).mono ?_;rintro e w9 ⟨rfl,e9⟩;subst e9);go_ret;have e1:M.iE 30 d0=(L,d):=by rw[U.O,c.O];simp
   rw[e1];exact⟨⟨_,q,rfl,HO.O,m.O,by show L.length<=30;omega⟩,HS.O.rd,HS.O.u⟩
end Go.Proofs.YtkfblammcilfhaaGreatDoor
