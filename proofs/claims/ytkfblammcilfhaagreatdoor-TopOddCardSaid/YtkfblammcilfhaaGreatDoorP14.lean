import Derived.Deep.MidRow
import Derived.Test.YtkfblammcilfhaaGreatDoorP11
import Derived.Test.YtkfblammcilfhaaGreatDoorP12
set_option linter.all false
set_option maxRecDepth 100000
set_option maxHeartbeats 100000000
open Go.ChangeShapes Go.WideShapes Go.ChangeAt Go.RowKit Go.Proofs.Tryz
open Go.Proofs.Tryz renaming prog->af
open Go renaming World->aw,Ending->rJ,Calls->aF,bodyPost_ret->ax,results->aV,info_parts->cY,bodyPost_end->dq,results_none->bT,results_tmp2->ew
open Go.RowKit.Below renaming refl->ao
open Nat renaming le_refl->aj,le_succ->cZ,zero_le->gG,zero_add->cO,le_trans->aP
open Go.Instr renaming lookup->cD
open Option renaming isSome_iff_exists->dw,toList_some->rC,none->I,some->Z
open List renaming take_add_one->ee,filter_append->ju,mem_filter->eL,getElem?_map->dE,getElem?_eq_getElem->ay,getD_eq_getElem?_getD->bE,length_filter_le->eE,length_take->ix,append_nil->kE,take_length->cT,map_append->fL,length_append->cG
open Go.Value renaming int->J,slice->ae,bool->ai,pointer->aq,tuple->aB,agg->cg
open Go.RowKit renaming intOf->bS
open Go.IntKind renaming i64->V,u32->ar,u16->aN,u8->bI
open Go.Ending renaming returned->av
open Or renaming inl->aJ,inr->aZ
namespace Go.Proofs.YtkfblammcilfhaaGreatDoor
section
theorem vT:af.underlying 54=Z (.map KI.k 120):=underlying54
theorem BY:af.underlying 55=Z (.map KO.k 173):=underlying55
theorem BS(w:aw):(zeroValue 120).run af w=.ok (aq I) w:=cC
theorem Ic(w:aw):(zeroValue 173).run af w=.ok (aq I) w:=cC
def kk(B:RB)(w:aw)(v:Value)(R':M.Room)(N':Nat)(e:rJ)(w':aw):Prop:=∃B',e=av v/\aL w' B' R' N'/\fK w w' B B'
theorem gA.fr{κ:Type}[DecidableEq κ]{S:Keys κ}{w w':aw}{b N:Nat}{F:κ->Option Value}(h:gA S w b F N)(u:cS (One b) w w'):Fr (One b) w w':=.jT u (λi a=>by cases a;exact h.mut)
section
variable {B:RB} {R:M.Room} {N:Nat} {w:aw} (h:aL w B R N)
include h
theorem aL.cw:aK w B.g 61 (oS B R):=h.part .aG
theorem tN:aF af 20 #[aq (Z ⟨B.g,0,I⟩)] w λe w'=>e=av (J V R.cJ)/\w'=w:=by
 have a:=h.cw.cell 9;simp at a;clear h;go_enter func20,ntmps20;go_wp2_with fail;go_ret;exact⟨rfl,rfl⟩
theorem nM:aF af 22 #[aq (Z ⟨B.g,0,I⟩)] w λe w'=>e=av (cg #[J V R.bp.jw,J V R.bp.cI,J V R.bp.gR,J V R.bp.ff,J V R.bp.fP])/\aC w w':=by
 have a:=h.cw.cell 16;have b:=h.cw.cell 17;have c:=h.cw.cell 18;have d:=h.cw.cell 19;have f:=h.cw.cell 20;simp at a b c d f;have lt:=h.cw.lt;clear h;go_enter func22,ntmps22;go_wp2_with fail;refine ax (v:=cg #[J V R.bp.jw,J V R.bp.cI,J V R.bp.gR,J V R.bp.ff,J V R.bp.fP]) (by simp[aV,results22,go_sem]) rfl ⟨rfl,(ao _ w).alloc (aj _) _⟩
theorem An:aF af 43 #[aq (Z ⟨B.g,0,I⟩)] w λe w'=>e=av (J V R.fU.2)/\aL w' B R.fU.1 N/\fK w w' B B:=by
 have c:=h.cw.cell 7;have f7:=h.cw.frozen 7;simp at c;have H:=au h;clear h;cases a:R.cN
 ·have b:R.fU=({ R with cN:=true },0):=by unfold M.Room.fU;simp[a]
  have d:=au b;rw[a]at c;clear b a;go_enter func43,ntmps43;go_wp2_with fail;go_ret;rw[d.O];have f:=H.O.rq (cJ:=R.cJ) (cN:=true) (bp:=R.bp) (w':=w.setCell ⟨B.g,7,I⟩ (ai true)) ((Fr.refl (One B.g) w).setCell H.O.cw (.inl rfl) aR aR 7 _) (by simpa using H.O.cw.bC 7 (ai true)) { H.O.et with };exact⟨rfl,f.1,f.2⟩
 ·have b:R.fU=(R,7):=by unfold M.Room.fU;simp[a]
  have d:=au b;rw[a]at c;clear b a;go_enter func43,ntmps43;go_wp2_with fail;go_ret;rw[d.O];exact⟨rfl,H.O,fK.refl _ _⟩
theorem aL.zI{w1 w2:aw}{s:Int}{L:LB}{l:M.dP}(b1:aC w w1)(g:ca w1 L R.dA.aG R.dA.aT l N)(b:∀i,L.own i->w.heap.size<=i)(u:cS (One B.lm) w1 w2)
  (j:gA KI w2 B.lm (M.set (λs=>(B.lb s).map qx) s (Z (qx L))) N) :
  aL w2 { B with lb:=M.set B.lb s (Z L) } { R with aD:=M.set R.aD s (Z l) } N/\fK w w2 B { B with lb:=M.set B.lb s (Z L) }:=by
 have c:gA KI w B.lm (λs=>(B.lb s).map qx) N:=h.part .aD;have m:=c.lt;have d:=(c.below b1).fr u;refine h.IW (λY=>Y=.aD\/Y=.fo s) (.fo s) ?_ ?_ rfl ?_ ?_ { h.et with }
 ·exact(Fr.bn b1).step d (λi a=>aJ ⟨.aD,aJ rfl,a⟩)
 ·rintro Y (rfl|rfl)
  ·refine gA.congr j λt=>?_;show M.set (λs=>(B.lb s).map qx) s (Z (qx L)) t=(M.set B.lb s (Z L) t).map qx;unfold M.set;split<;>rfl
  ·show lX _ (M.set R.aD s (Z l) s) (M.set B.lb s (Z L) s);simp only[M.set,if_true];exact g.fr d (λi a q=>by have:=b i a;rw[show i=B.lm from q]at this;omega)
 ·intro Y f k;cases Y with
  |fo t =>
   have e:t≠s:=λe=>f (aZ (e ▸ rfl));show lX _ (M.set R.aD s (Z l) t) (M.set B.lb s (Z L) t);simp only[M.set,if_neg e];exact k
  |aD=>exact absurd (aJ rfl) f
  |_=>exact k
 ·intro Y i a;cases Y with
  |fo t =>
   obtain⟨K,q,a⟩:=a;simp only[M.set]at q;split at q
   ·rename_i e;simp only[Option.some.injEq]at q;subst q e;exact aZ ⟨rfl,b i a⟩
   ·exact aJ ⟨K,q,a⟩
  |_=>exact aJ a
theorem Ba(s own dQ aU:Int)(hN:N<=900000)(ho:0<=own/\own<=4294967295)(hs:0<=dQ/\dQ<=65535)(ht:0<=aU/\aU<=4294967295) :
  aF af 39 #[aq (Z ⟨B.g,0,I⟩),J V s,J ar own,J aN dQ,J ar aU] w (kk B w (J V (R.iJ s own dQ aU).2) (R.iJ s own dQ aU).1 (N+2)):=by
 have Q:=h.cw.cell 7;have v:=h.cw.cell 11;simp at Q v;obtain⟨res,c⟩:=dH (R.iJ s own dQ aU);rw[<-c];have j:fA w B.t R.cW R.aQ R.bh N:=h.part .table;have k:(1<=R.dA.aG/\R.dA.aG<=8)/\1<=R.dA.aT/\R.dA.aT<=10:=by
  have:=h.et.dA;simp[M.jr]at this;omega
 have C:=au (Mm B.t R.cW R.aQ R.bh N w j s own z);have D:=j.ni;obtain⟨U,H⟩:=bu D h;clear j D;cases o:R.cN
 ·rw[o]at Q;by_cases f:vv R.bh s=0
  ·have p:R.iJ s own dQ aU=({ R with bh:=M.set R.bh s (Z ⟨own,false,0⟩),aD:=M.set R.aD s (Z (.new own dQ aU)) },0):=by
    unfold M.Room.iJ;unfold vv at f;rw[o];by_cases a:M.fY s=true
    ·by_cases b:(R.bh s).isSome=true
     ·simp[a,b]at f
     ·simp[a,b]
    ·simp[a]at f
   have hm:M.fY s=true:=by
    unfold vv at f;cases a:M.fY s
    ·simp[a]at f
    ·rfl
   have F:=vC hm;rw[p]at c;subst c;have m:Bu R.bh s own=M.set R.bh s (Z ⟨own,false,0⟩):=by unfold Bu;rw[if_pos f]
   rw[f,m]at C;have HW:=au F;clear p f m F hm o h;go_enter func39,ntmps39;go_upto_region 6 with(go_big_may;go_at_call 86;refine C.O.mono ?_;rintro e w1 ⟨rfl,S,u1⟩)
   have G:=(H.O.mono (cZ N)).kS (Fr.jT u1 U.O) (or:=R.cW) (so:=R.aQ) S;have n:=au G;clear G S u1 Q v;have d:=n.O.1.cw;have x:=d.cell 12;have c1:=d.cell 1;have X:=d.cell 6;simp at x c1 X;have SH:=au d;have y:gA KI w1 B.lm (λs=>(B.lb s).map qx) (N+1):=n.O.1.part .aD;have Y:B.lm≠B.g:=y.ki d;have SI:=d.lt;have K:=au y;clear d y;have aI:=au (λW=>LX R.dA.aG R.dA.aT own dQ aU W k.1.1 k.1.2 k.2 ho hs ht);go_region_held3 (λW=>W.cell? ⟨B.g,12,I⟩=Z (.map (Z B.lm))/\W.cell? ⟨B.g,1,I⟩=Z (J V R.dA.aG)/\W.cell? ⟨B.g,6,I⟩=Z (J V R.dA.aT)) (first|(with_reducible exact⟨cE x,cE c1,cE X⟩)|(with_reducible exact⟨d12,d1,d6⟩)|(with_reducible exact⟨a12,a1,a6⟩)) (first|(go_at_call 87;refine(aI.O _).mono ?_;rintro e w9 ⟨L,rfl,hL,r,b9⟩;have A:aC w1 w9:=(by with_reducible exact eW b9);have d12:=aM A x;have d1:=aM A c1;have d6:=aM A X;obtain⟨w2,u,hM,u2⟩:=(K.O.below A).nX rB vT z s (qx L) HW.O;have u:(Instr.mapUpdate 54 (.map (Z B.lm)) (J V s) (aq (Z ⟨L.g,0,I⟩))).run af w9=.ok () w2:=u;have f2:=((K.O.below A).fr u2);have T:¬One B.lm B.g:=(λq=>Y (show B.g=B.lm from q).symm);have a12:=dD f2 T d12;have a1:=dD f2 T d1;have a6:=dD f2 T d6;have df:=au A;have HL:=au hL;have P:=au r;have eI:=au hM;have gX:=au u2;clear A hL r hM u2 f2 T b9));all_goals
    go_wp2_with fail;go_ret;have SG:=(n.O.1.mono (cZ (N+1))).zI (s:=s) (l:=.new own dQ aU) df.O (HL.O.mono (gG _)) (λi hi=>by have a:=P.O i hi;exact a) gX.O eI.O;exact⟨_,rfl,SG.1,n.O.2.trans SG.2⟩
  ·have p:R.iJ s own dQ aU=(R,vv R.bh s):=by
    unfold M.Room.iJ;unfold vv at f ⊢;rw[o];by_cases a:M.fY s=true
    ·by_cases b:(R.bh s).isSome=true
     ·simp[a,b]
     ·simp[a,b]at f
    ·simp[a]
   rw[p]at c;subst c;have m:Bu R.bh s own=R.bh:=by unfold Bu;rw[if_neg f]
   rw[m]at C;have mK:(vv R.bh s !=0)=true:=by simpa using f
   clear p m o h;generalize vv R.bh s=E at C mK f;go_enter func39,ntmps39;go_wp2_with (go_at_call 86;refine C.O.mono ?_;rintro e w1 ⟨rfl,S,u1⟩);go_ret;have G:=(H.O.mono (cZ N)).kS (Fr.jT u1 U.O) (or:=R.cW) (so:=R.aQ) (su:=R.bh) S;exact⟨B,rfl,G.1.mono (cZ _),G.2⟩
 ·have p:R.iJ s own dQ aU=(R,7):=by unfold M.Room.iJ;simp[o]
  rw[p]at c;subst c;rw[o]at Q;clear p o h C U v;go_enter func39,ntmps39;go_wp2_with fail;go_ret;exact⟨B,rfl,H.O.mono z,fK.refl _ _⟩
end
end
section
section
variable {B:RB} {R:M.Room} {N:Nat} {w:aw} (h:aL w B R N)
include h
theorem aL.jq{s:Int}{l:M.dP}(b:R.aD s=Z l):∃L,B.lb s=Z L/\ca w L R.dA.aG R.dA.aT l N:=by
 have a:lX _ (R.aD s) (B.lb s):=h.part (.fo s);rw[b]at a;exact a.some
theorem aL.CG{s:Int}(b:R.aD s=I):B.lb s=I:=by
 have a:lX _ (R.aD s) (B.lb s):=h.part (.fo s);rw[b]at a;exact a.none
theorem aL.uS(s:Int)(b:(Lit.int V s).wf=true):(cD 54 (.map (Z B.lm)) (J V s) true).run af w=.ok (aB #[((B.lb s).map qx).getD (aq I),ai (R.aD s).isSome]) w:=by
 have a:gA KI w B.lm (λs=>(B.lb s).map qx) N:=h.part .aD;have c:lX _ (R.aD s) (B.lb s):=h.part (.fo s);refine(a.my rB vT s b (BS w)).trans ?_;rw[c.isSome];cases B.lb s<;>rfl
theorem aL.kW(s:Int)(b:(Lit.int V s).wf=true):(cD 54 (.map (Z B.lm)) (J V s) false).run af w=.ok (((B.lb s).map qx).getD (aq I)) w:=by
 have a:gA KI w B.lm (λs=>(B.lb s).map qx) N:=h.part .aD;exact a.sW rB vT s b (BS w)
theorem aL.JO{w2:aw}{s:Int}(u:cS (One B.lm) w w2)(d:gA KI w2 B.lm (M.set (λs=>(B.lb s).map qx) s I) N) :
  aL w2 { B with lb:=M.set B.lb s I } { R with aD:=M.set R.aD s I } N/\fK w w2 B { B with lb:=M.set B.lb s I }:=by
 have b:gA KI w B.lm (λs=>(B.lb s).map qx) N:=h.part .aD;have f:=b.fr u;refine h.IW (λY=>Y=.aD\/Y=.fo s) .aD (f.mono λi _ q=>⟨.aD,aJ rfl,q⟩) ?_ rfl ?_ ?_ { h.et with }
 ·rintro Y (rfl|rfl)
  ·refine gA.congr d λt=>?_;show M.set (λs=>(B.lb s).map qx) s I t=(M.set B.lb s I t).map qx;unfold M.set;split<;>rfl
  ·show lX _ (M.set R.aD s I s) (M.set B.lb s I s);simp only[M.set,if_true];trivial
 ·intro Y c k;cases Y with
  |fo t =>
   have e:t≠s:=λe=>c (aZ (e ▸ rfl));show lX _ (M.set R.aD s I t) (M.set B.lb s I t);simp only[M.set,if_neg e];exact k
  |aD=>exact absurd (aJ rfl) c
  |_=>exact k
 ·intro Y i a;cases Y with
  |fo t =>
   obtain⟨K,q,a⟩:=a;simp only[M.set]at q;split at q
   ·cases q
   ·exact aJ ⟨K,q,a⟩
  |_=>exact aJ a
theorem FP(s:Int)(W:N<1000000):aF af 42 #[aq (Z ⟨B.g,0,I⟩),J V s] w (kk B w (J V (R.jE s).2) (R.jE s).1 N):=by
 have D:=h.cw.cell 7;have p:=h.cw.cell 11;simp at D p;obtain⟨res,c⟩:=dH (R.jE s);rw[<-c];have f:fA w B.t R.cW R.aQ R.bh N:=h.part .table;obtain⟨r,G,H⟩:=bU (Cc B.t R.cW R.aQ R.bh N w f s) f.ni h;clear f;cases m:R.cN
 ·rw[m]at D;by_cases d:sI R.bh s=0
  ·have hm:M.fY s=true:=by
    unfold sI at d;cases a:M.fY s
    ·simp[a]at d
    ·rfl
   have n:R.jE s=({ R with bh:=M.set R.bh s I,di:=BN R.di s 7,aD:=M.set R.aD s I },0):=by
    unfold M.Room.jE;unfold sI at d;by_cases b:(R.bh s).isNone=true
    ·rw[hm,b]at d;simp at d
    ·rw[if_neg (by rw[m];simp),if_neg (by rw[hm];simp),if_neg b];rfl
   have u:=vC hm;rw[n]at c;subst c;have j:xr R.bh s=M.set R.bh s I:=by unfold xr;rw[if_pos d]
   rw[d,j]at r;have X:=au u;clear n d j u hm m h;go_enter func42,ntmps42;go_upto_region 6 with(go_big_may;go_at_call 92;refine r.O.mono ?_;rintro e w1 ⟨rfl,F,u1⟩)
   have k:=au (H.O.kS (Fr.jT u1 G.O) (or:=R.cW) (so:=R.aQ) F);clear F u1 D p;have x:=k.O.1.cw;have Q:=x.cell 0;simp at Q;clear x;have q:eD w1 B.bg B.bm R.di N:=k.O.1.part .di;obtain⟨Y,K⟩:=bu (yx B.bg B.bm N R.di s 7 w1 q z W) q.ni;clear q;go_upto_region 7 with(go_big_may;go_at_call 93;refine Y.O.mono ?_;rintro e w2 ⟨⟨v,rfl⟩,S,u2⟩)
   have l:=au (k.O.1.ve (Fr.jT u2 (λi hi=>K.O i (aZ hi))) S);clear S u2 Q;have y:=l.O.1.cw;have L:=y.cell 12;simp at L;clear y;have A:gA KI w2 B.lm (λs=>(B.lb s).map qx) N:=l.O.1.part .aD;obtain⟨w3,o,T,u3⟩:=A.Dw rB vT s X.O 0;have o:(Builtin.delete_ #[54,3] 0 #[.map (Z B.lm),J V s]).run af w2=.ok (aB #[]) w3:=o;have C:=au (l.O.1.JO u3 T);clear A T u3;go_wp2_with fail;go_ret;exact⟨_,rfl,C.O.1,(k.O.2.trans l.O.2).trans C.O.2⟩
  ·have n:R.jE s=(R,sI R.bh s):=by
    unfold M.Room.jE;unfold sI at d ⊢;rw[m];cases a:M.fY s
    ·simp[a]
    ·cases b:(R.bh s).isNone
     ·rw[a,b]at d;simp at d
     ·simp
   rw[n]at c;subst c;have j:xr R.bh s=R.bh:=by unfold xr;rw[if_neg d]
   rw[j]at r;have P:(sI R.bh s !=0)=true:=by simpa using d
   clear n j m h;generalize sI R.bh s=E at r P d;go_enter func42,ntmps42;go_wp2_with (go_at_call 92;refine r.O.mono ?_;rintro e w1 ⟨rfl,F,u1⟩);go_ret;have U:=H.O.kS (Fr.jT u1 G.O) (or:=R.cW) (so:=R.aQ) (su:=R.bh) F;exact⟨B,rfl,U.1,U.2⟩
 ·have n:R.jE s=(R,7):=by unfold M.Room.jE;simp[m]
  rw[n]at c;subst c;rw[m]at D;clear n m h r G p;go_enter func42,ntmps42;go_wp2_with fail;go_ret;exact⟨B,rfl,H.O,fK.refl _ _⟩
theorem vq{s aY:Int}{l:M.dP}{L:LB}(a:R.aD s=Z l)(b:B.lb s=Z L):aF af 90 #[aq (Z ⟨L.g,0,I⟩),J V aY] w (kk B w (J V (R.fj s aY).2) (R.fj s aY).1 N):=by
 obtain⟨k,e,d⟩:=h.jq a;rw[b]at e;cases e;have j:R.fj s aY=({ R with aD:=M.set R.aD s (Z (l.iy aY).1) },(l.iy aY).2):=by unfold M.Room.fj;rw[a]
 rw[j];refine(JM L R.dA.aG R.dA.aT l N w d aY).mono ?_;rintro e w1 ⟨rfl,hA1,f⟩;have c:=h.qJ a b (f.mono λi _ q=>aJ q) hA1 rfl (λi q=>aJ q);exact⟨_,rfl,c.1,c.2⟩
theorem Jb(s aY:Int)(v:(R.bh s).isSome=true->(R.aD s).isSome=true):aF af 41 #[aq (Z ⟨B.g,0,I⟩),J V s,J V aY] w (kk B w (J V (R.iy s aY).2) (R.iy s aY).1 N):=by
 have G:=h.cw.cell 7;have k:=h.cw.cell 11;have c:=h.cw.cell 12;simp at G k c;obtain⟨res,a⟩:=dH (R.iy s aY);rw[<-a];have H:=au h;cases r:R.cN
 ·rw[r]at G;have m:R.iy s aY=if(!M.fY s || !M.there aY)=true then(R,1) else if(R.of s).isNone=true then(R,5) else R.fj s aY:=by
   unfold M.Room.iy;rw[if_neg (by rw[r];simp)]
  by_cases h0:s<0
  ·have d:R.iy s aY=(R,1):=by rw[m,if_pos (by simp[M.fY];left;omega)]
   rw[d]at a;subst a;clear m d r h v k c;go_enter func41,ntmps41;go_wp2_with fail;go_ret;exact⟨B,rfl,H.O,fK.refl _ _⟩
  by_cases h6:6<=s
  ·have d:R.iy s aY=(R,1):=by rw[m,if_pos (by simp[M.fY];left;omega)]
   rw[d]at a;subst a;have d0:decide (s<0)=false:=decide_eq_false h0;clear m d r h v k c;go_enter func41,ntmps41;go_wp2_with fail;go_ret;exact⟨B,rfl,H.O,fK.refl _ _⟩
  have d0:decide (s<0)=false:=decide_eq_false h0;have d6:decide (6<=s)=false:=decide_eq_false h6;have hm:M.fY s=true:=by simp[M.fY];omega
  have n:=vC hm;cases ht:M.there aY
  ·have d:R.iy s aY=(R,1):=by rw[m,if_pos (by simp[ht])]
   rw[d]at a;subst a;clear m d r h v k c hm n;go_enter func41,ntmps41;go_wp2_with (go_at_call 88;refine(kU aY w).mono ?_;rintro e w1 ⟨rfl,hw⟩;have o:=hw.symm;subst o;rw[ht]);go_ret;exact⟨B,rfl,H.O,fK.refl _ _⟩
  rw[if_neg (by rw[hm,ht];simp)]at m;have p:fA w B.t R.cW R.aQ R.bh N:=h.part .table;have A:=LO B.t R.cW R.aQ R.bh N w p s n;have f:R.of s=if((R.bh s).getD ⟨0,false,0⟩).cL then Z ((R.bh s).getD ⟨0,false,0⟩).jo else I:=by
   unfold M.Room.of;cases R.bh s with
   |none=>rfl
   |some x=>rfl
  cases j:((R.bh s).getD ⟨0,false,0⟩).cL
  ·rw[j]at f A;have d:R.iy s aY=(R,5):=by rw[m,f];rfl
   rw[d]at a;subst a;have y:=au A;clear m d r h v c hm n p A f j;go_enter func41,ntmps41;go_wp2_with (first
    |(go_at_call 88;refine(kU aY w).mono ?_;rintro e w1 ⟨rfl,hw⟩;have o:=hw.symm;subst o;rw[ht])
    |(go_at_call 91;refine y.O.mono ?_;rintro e w1 ⟨rfl,b1⟩))
   go_ret;exact⟨B,rfl,H.O.below b1,⟨rfl,.bn b1,λi q=>aJ q⟩⟩
  ·rw[j]at f A;have S:(R.bh s).isSome=true:=by
    cases q:R.bh s with
    |none=>rw[q]at j;cases j
    |some x=>rfl
   obtain⟨l,K⟩:=dw.1 (v S);obtain⟨L,P,_⟩:=h.jq K;have d:R.iy s aY=R.fj s aY:=by rw[m,f];rfl
   rw[d]at a;subst a;obtain⟨y,C⟩:=bu A (And.intro K P);have D:∀W,aC w W->(cD 54 (.map (Z B.lm)) (J V s) false).run af W=.ok (aq (Z ⟨L.g,0,I⟩)) W:=λW b=>by
    have T:=(h.below b).kW s n;rw[P]at T;exact T
   have Q:=au D;have Y:=h.cw.lt;have u:∀W,aC w W->W.cell? ⟨B.g,12,I⟩=Z (.map (Z B.lm)):=λW b=>aM b c;have E:=au u;clear m d r h v hm n p A f j S K P D c u;go_enter func41,ntmps41;go_wp2_with (first
    |(go_at_call 88;refine(kU aY w).mono ?_;rintro e w1 ⟨rfl,hw⟩;have o:=hw.symm;subst o;rw[ht])
    |(go_at_call 91;refine y.O.mono ?_;rintro e w1 ⟨rfl,b1⟩;have U:=Q.O w1 b1;have c:=E.O w1 b1;have F:=au b1;clear b1)
    |(go_at_call 90;refine(vq (H.O.below F.O) C.O.1 C.O.2).mono ?_;rintro e w2 ⟨B',rfl,hR,X⟩))
   go_ret;exact⟨B',rfl,hR,(⟨rfl,.bn F.O,λi q=>aJ q⟩:fK w w1 B B).trans X⟩
 ·have d:R.iy s aY=(R,7):=by unfold M.Room.iy;simp[r]
  rw[d]at a;subst a;rw[r]at G;clear d r h k c v;go_enter func41,ntmps41;go_wp2_with fail;go_ret;exact⟨B,rfl,H.O,fK.refl _ _⟩
end
end
section
theorem AV(k:Nat)(h:k<6):M.gF[k]? = Z (k:Int):=by
 rcases(z:k=0\/k=1\/k=2\/k=3\/k=4\/k=5) with rfl|rfl|rfl|rfl|rfl|rfl<;>rfl
theorem I2(p:Int->Bool)(k:Nat)(h:k<6):(M.gF.take (k+1)).filter p=(M.gF.take k).filter p++if p k then[(k:Int)] else[]:=by
 rw[ee,AV k h,ju];simp only[rC];cases hp:p (k:Int)<;>simp[hp]
theorem Fo(R:M.Room):Fair.wl (Fair.yj (M.gF.filter λs=>(R.aD s).isSome)) 6=R.dF:=by
 have key:∀k:Nat,k<6->Fair.yj (M.gF.filter λs=>(R.aD s).isSome) k=(R.aD (k:Int)).isSome:=by
  intro k a;have hm:((k:Int))∈M.gF:=List.mem_of_getElem? (AV k a);unfold Fair.yj;simp[eL,hm]
 generalize (M.gF.filter λs=>(R.aD s).isSome)=l at key ⊢;unfold M.Room.dF;have b:Fair.yj l 0=(R.aD 0).isSome:=key 0 z;have c:Fair.yj l 1=(R.aD 1).isSome:=key 1 z;have d:Fair.yj l 2=(R.aD 2).isSome:=key 2 z;have e:Fair.yj l 3=(R.aD 3).isSome:=key 3 z;have f:Fair.yj l 4=(R.aD 4).isSome:=key 4 z;have g:Fair.yj l 5=(R.aD 5).isSome:=key 5 z;unfold Fair.wl Fair.wl Fair.wl Fair.wl Fair.wl Fair.wl Fair.wl;simp only[b,c,d,e,f,g,M.gF,List.flatMap_cons,List.flatMap_nil,Fair.three];simp
theorem DM{w:aw}{base n c:Nat}{A:Option Addr}{l:List Int}(h:w.ownsRow base 3 1 (ae A n c) n (l.map (J V))):Fair.sk w w.heap.size A n l:=by
 refine⟨by simpa using h.1,λh0=>?_⟩;have p:l.length=n:=by simpa using h.1
 rcases h.2 with⟨_,e⟩ | ⟨g,cap,dx,e,r,a,f,j,k,b⟩
 ·omega
 ·injection e with m s t
  subst m;have a:aK w g 3 dx:=a;refine⟨g,0,rfl,a.lt,λi o=>?_⟩;rw[cO,a.cell i];have d:=congrArg (λq:List Value=>q[i]?) b;simp only[Nat.mul_one]at d;rw[List.getElem?_take_of_lt o,Array.getElem?_toList,dE,ay z]at d;rw[d,bE,ay z];rfl
section
variable {B:RB} {R:M.Room} {N:Nat} {w:aw} (h:aL w B R N)
include h
theorem vo:aF af 74 #[aq (Z ⟨B.g,0,I⟩)] w λe w'=>(∃A m c,e=av (ae A m c)/\m<=c/\c<=maxLen/\Fair.rP w' w'.heap.size A m R.dF/\(∀a,A=Z a->w.heap.size<=a.block))/\aC w w':=by
 obtain⟨i0,C,t,u,v⟩:=cY uU;obtain⟨HI,E,F,G⟩:=cA C t u v;have d:=h.cw.cell 12;simp at d;have H:=au h;have j:w.ownsRow w.heap.size 3 1 (ae I 0 0) 0 []:=⟨dt,aJ ⟨rfl,rfl⟩⟩;have X:=ao w.heap.size w;have K:=au (Fo R);have l:∀W,aC w W->W.cell? ⟨B.g,12,I⟩=Z (.map (Z B.lm)):=λW b=>aM b d;have HC:=au l;clear h C t u v l d;go_enter func74,ntmps74;go_wp2_with fail;go_loopw [3,7] (λa i wr=>∃k:Nat,i=J V k/\k<=6/\wr.ownsRow w.heap.size 3 1 a ((M.gF.take k).filter λs=>(R.aD s).isSome).length (((M.gF.take k).filter λs=>(R.aD s).isSome).map (J V))/\aC w wr) (λa i _=>6-(bS i).toNat);case atStart=>exact⟨0,rfl,z,j,X⟩
 case round =>
  clear j X;obtain⟨k,rfl,hk,own,f⟩:=hrel;have aI:=f.size;by_cases N:k<6
  ·have n:=I2 (λs=>(R.aD s).isSome) k N;have r:=(H.O.below f).uS (k:Int) (Ig z z);have d:=HC.O wr f;obtain⟨P,Y,rfl⟩:=bA own;have df:((k:Int)<6):=z;have hlen:((M.gF.take k).filter λs=>(R.aD s).isSome).length<=6:=aP (eE _ _) (by rw[ix];have:M.gF.length=6:=rfl;omega);generalize ((B.lb (k:Int)).map qx).getD (aq I)=lv at r;cases hp:(R.aD (k:Int)).isSome
   ·rw[hp]at r n;simp only[Bool.false_eq_true,if_false,kE]at n;obtain⟨x,o,D⟩:=bU own f n;clear own f n hp;go_wp2_with fail;go_roundw;case rel=>exact⟨k+1,by go_num,z,by rw[D.O];exact x.O,o.O⟩
    case measure=>simp[bS];omega
   ·rw[hp]at r n;simp only[if_true]at n;obtain⟨x,o,D⟩:=bU own f n;clear own f n hp;generalize ((M.gF.take k).filter λs=>(R.aD s).isSome)=L at x D hlen ⊢;go_wp2_with (at_builtin;go_loud (refine dV _ rfl _ _ 36 rfl w.heap.size 3 i0 (J V 0) 1 8 underlying36 HI.O E.O F.O G.O rfl aR _ _ _ rfl (x.O.alloc _) ⟨wr.heap.size,0,I⟩ 1 1 [J V k] rfl rfl (fB wr 3 #[J V k]) tk ?c3 ?c4 ?c5 ?_));case c3=>unfold maxLen;omega
    case c4=>omega
    case c5=>simp;omega
    intro v5 w5 p g5 _;have u5:=eT g5;have bb:aC w w5:=(o.O.alloc o.O.size (.cells #[J V k] 3)).trans (u5.below dZ (λi C=>((x.O.alloc (.cells #[J V k] 3)).lt i C).1));obtain⟨Q,S⟩:=bu p bb;clear p g5 u5 bb;go_wp2_with fail;go_roundw;case rel=>exact⟨k+1,by go_num,z,by rw[D.O];simpa using Q.O,S.O⟩
    case measure=>simp[bS];omega
  ·have T:k=6:=z;subst T;have q:M.gF.take 6=M.gF:=rfl;rw[q]at own;obtain⟨P,Y,rfl⟩:=bA own;have y:Fair.sk wr wr.heap.size P ((M.gF.filter λs=>(R.aD s).isSome).length) (M.gF.filter λs=>(R.aD s).isSome):=DM own;have hlen:(M.gF.filter λs=>(R.aD s).isSome).length<=6:=eE _ _;obtain⟨U,o⟩:=bu (Fair.Dk P _ Y _ wr y z) f;clear own f y q hlen;go_wp2_with (go_at_call 132;refine U.O.mono ?_;rintro e w9 ⟨⟨A9,m9,c9,rfl,hm,hx,hw⟩,b9⟩);go_ret;exact⟨⟨_,_,_,rfl,hm,hx,by rw[<-K.O];exact hw.1,λa e=>aP o.O.size (hw.2 a e)⟩,o.O.trans (b9.mono o.O.size)⟩
theorem vY:aF af 74 #[aq (Z ⟨B.g,0,I⟩)] w λe w'=>(∃A m c,e=av (ae A m c)/\m<=c/\c<=maxLen/\Fair.rP w' w'.heap.size A m R.dF)/\aC w w':=(vo h).mono λe w' ⟨⟨A,m,c,a,d,f,i,_⟩,b⟩=>⟨⟨A,m,c,a,d,f,i⟩,b⟩
end
end
section
theorem Jx:(af.info? 91).map (λi=>(i.zero,i.size,i.bytes))=Z (Z (pv (0,0)),2,16):=cC
abbrev zw(o:M.bN):List Value:=[J V o.1,J V o.2]
def ei(R:M.Room)(m:Nat):List M.bN:=(M.eX.take m).filter λo=>(R.az o).isSome
theorem DT(k j:Nat)(a:k<3)(b:j<3):M.eX[3*k+j]? = Z ((k:Int),(j:Int)):=by
 rcases(z:k=0\/k=1\/k=2) with rfl|rfl|rfl<;>rcases(z:j=0\/j=1\/j=2) with rfl|rfl|rfl<;>rfl
theorem Et(R:M.Room)(k j:Nat)(a:k<3)(b:j<3):ei R (3*k+(j+1))=ei R (3*k+j)++if(R.az ((k:Int),(j:Int))).isSome then[((k:Int),(j:Int))] else[]:=by
 unfold ei;rw[show 3*k+(j+1)=(3*k+j)+1 from z,ee,DT k j a b,ju];simp only[rC];cases hp:(R.az ((k:Int),(j:Int))).isSome<;>simp[hp]
theorem re(R:M.Room)(m:Nat):(ei R m).length<=9:=aP (eE _ _) (by rw[ix];have:M.eX.length=9:=rfl;omega)
section
variable {B:RB} {R:M.Room} {N:Nat} {w:aw} (h:aL w B R N)
include h
theorem aL.Ea(o:M.bN)(b:Gi o):(cD 55 (.map (Z B.sm)) (pv o) true).run af w=.ok (aB #[((B.sb o).map tS).getD (aq I),ai (R.az o).isSome]) w:=by
 have a:gA KO w B.sm (λs=>(B.sb s).map tS) N:=h.part .az;have c:lX _ (R.az o) (B.sb o):=h.part (.fO o);refine(a.my xM BY o b (Ic w)).trans ?_;rw[c.isSome];cases B.sb o<;>rfl
theorem aL.jU(o:M.bN)(b:Gi o):(cD 55 (.map (Z B.sm)) (pv o) false).run af w=.ok (((B.sb o).map tS).getD (aq I)) w:=by
 have a:gA KO w B.sm (λs=>(B.sb s).map tS) N:=h.part .az;exact a.sW xM BY o b (Ic w)
theorem aL.iB{o:M.bN}{s:M.eu}(b:R.az o=Z s):∃S,B.sb o=Z S/\gh w S R.dA.eJ R.dA.cX s N:=by
 have a:lX _ (R.az o) (B.sb o):=h.part (.fO o);rw[b]at a;exact a.some
theorem qw:aF af 71 #[aq (Z ⟨B.g,0,I⟩)] w λe w'=>∃v,e=av v/\w'.ownsRow w.heap.size 91 2 v (ei R 9).length ((ei R 9).flatMap zw)/\aC w w':=by
 obtain⟨i0,x,r,t,u⟩:=cY Jx;obtain⟨HI,A,C,D⟩:=cA x r t u;have m:=h.cw.cell 13;simp at m;have H:=au h;have n:w.ownsRow w.heap.size 91 2 (ae I 0 0) (ei R 0).length ((ei R 0).flatMap zw):=⟨by simp[ei],aJ ⟨rfl,rfl⟩⟩;have U:=ao w.heap.size w;have o:∀W,aC w W->W.cell? ⟨B.g,13,I⟩=Z (.map (Z B.sm)):=λW b=>aM b m;have HC:=au o;have lg:=h.cw.lt;have lm:B.sm<w.heap.size:=(show gA KO w B.sm (λs=>(B.sb s).map tS) N from h.part .az).lt;clear h x r t u o m;go_enter func71,ntmps71;go_wp2_with fail;go_loopw [3,9] (λa i wr=>∃k:Nat,i=J V k/\k<=3/\wr.ownsRow w.heap.size 91 2 a (ei R (3*k)).length ((ei R (3*k)).flatMap zw)/\aC w wr) (λa i _=>3-(bS i).toNat);case atStart=>exact⟨0,rfl,z,n,U⟩
 case round =>
  clear n U;obtain⟨k,rfl,hk,own,c⟩:=hrel;by_cases E:k<3
  ·have aI:((k:Int)<3):=z;obtain⟨A',c',rfl⟩:=bA own;obtain⟨d,f⟩:=bu own c;clear own c;go_wp2_with fail;go_loopw [3,12] (λa i wr=>∃j:Nat,i=J V j/\j<=3/\wr.ownsRow w.heap.size 91 2 a (ei R (3*k+j)).length ((ei R (3*k+j)).flatMap zw)/\aC w wr) (λa i _=>3-(bS i).toNat);case atStart=>exact⟨0,rfl,z,d.O,f.O⟩
   case round =>
    clear d f;obtain⟨j,rfl,hj,own,c⟩:=hrel;have df:=c.size;by_cases F:j<3
    ·have eI:((j:Int)<3):=z;have X:=Et R k j E F;have G:=re R (3*k+j);obtain⟨A5,c5,rfl⟩:=bA own;have y:aC w (wr.alloc (.cells #[J V k,J V j] 91)):=c.alloc c.size _;have m:=HC.O _ y;have l:=((H.O.below y).below (cd (ao _ _) 1)).Ea ((k:Int),(j:Int)) (ir ⟨by show(-1000000000000:Int)<=k;omega,by show(k:Int)<=1000000000000;omega⟩ ⟨by show(-1000000000000:Int)<=j;omega,by show(j:Int)<=1000000000000;omega⟩);have l:(cD 55 (.map (Z B.sm)) (cg #[J V k,J V j]) true).run af (wr.alloc (.cells #[J V k,J V j] 91)).drew=.ok (aB #[((B.sb ((k:Int),(j:Int))).map tS).getD (aq I),ai (R.az ((k:Int),(j:Int))).isSome]) (wr.alloc (.cells #[J V k,J V j] 91)).drew:=l;generalize ((B.sb ((k:Int),(j:Int))).map tS).getD (aq I)=lv at l;obtain⟨d,f,q⟩:=bU own y X;clear own c y X;cases hp:(R.az ((k:Int),(j:Int))).isSome
     ·rw[hp]at l q;simp only[Bool.false_eq_true,if_false,kE]at q;go_wp2_with fail;go_region;all_goals
       go_wp2_with fail;go_roundw;case rel=>exact⟨j+1,by go_num,z,by rw[q.O];exact d.O.alloc _,by first|exact f.O|exact cd f.O 1⟩
       case measure=>simp[bS];omega
     ·rw[hp]at l q;simp only[if_true]at q;go_wp2_with fail;go_region;all_goals
       obtain⟨r6,K⟩:=dH wr.heap.size;rw[<-K];refine gN (λY=>aK Y r6 91 #[J V k,J V j]/\Y.ownsRow w.heap.size 91 2 (ae A5 (ei R (3*k+j)).length c5) (ei R (3*k+j)).length ((ei R (3*k+j)).flatMap zw)/\aC w Y) ⟨(aK.newAt _ _ _ _ K).drew,d.O.alloc _,cd f.O 1⟩ ?_;clear K d f l m;rintro Y ⟨M,own,c⟩;have k0:=M.cell 0;have k1:=M.cell 1;simp at k0 k1;have gX:=c.size;obtain⟨d,f⟩:=bu own c;clear own c M;generalize ei R (3*k+j)=L at d q G ⊢;go_wp2_with (at_builtin;go_loud (refine dV _ rfl _ _ 167 rfl w.heap.size 91 i0 (pv (0,0)) 2 16 underlying167 HI.O A.O C.O D.O rfl aR _ _ _ rfl (d.O.alloc _) ⟨Y.heap.size,0,I⟩ 1 1 (zw ((k:Int),(j:Int))) rfl rfl (fB Y 91 #[J V k,J V j]) tk ?_ ?_ ?_ ?_))
       ·unfold maxLen;omega
       ·omega
       ·simp;omega
       intro v5 w5 p g5 _;have u5:=eT g5;have bb:aC w w5:=(f.O.alloc f.O.size (.cells #[J V k,J V j] 91)).trans (u5.below dZ (λi x=>((d.O.alloc (.cells #[J V k,J V j] 91)).lt i x).1));obtain⟨P,Q⟩:=bu p bb;clear p g5 u5 bb;go_wp2_with fail;go_roundw;case rel=>exact⟨j+1,by go_num,z,by rw[q.O];simpa using P.O,Q.O⟩
       case measure=>simp[bS];omega
    ·have S:j=3:=z;subst S;have e3:3*k+3=3*(k+1):=z;rw[e3]at own;obtain⟨A5,c5,rfl⟩:=bA own;obtain⟨d,f⟩:=bu own c;clear own c e3;go_wp2_with fail;go_roundw;case rel=>exact⟨k+1,by go_num,z,d.O,f.O⟩
     case measure=>simp[bS];omega
  ·have T:k=3:=z;subst T;obtain⟨A',c',rfl⟩:=bA own;obtain⟨d,f⟩:=bu own c;clear own c;go_wp2_with fail;go_ret;exact⟨_,rfl,d.O,f.O⟩
end
end
section
theorem wm{w:aw}{base n c:Nat}{A:Option Addr}{l:List M.bN}(h:w.ownsRow base 91 2 (ae A n c) n (l.flatMap zw))(h0:0<n) :
  ∃r,A=Z ⟨r,0,I⟩/\n<=c/\l.length=n/\∀(k:Nat) (o:M.bN),l[k]? = Z o->w.cell? ⟨r,k*2,I⟩=Z (J V o.1)/\w.cell? ⟨r,k*2+1,I⟩=Z (J V o.2):=by
 have e:l.flatMap zw=(l.map zw).flatten:=List.flatMap_def ..;rw[e]at h;have b:∀c∈l.map zw,c.length=2:=by
  intro c f;obtain⟨o,_,rfl⟩:=List.mem_map.1 f;rfl
 have hlen:l.length=n:=by
  have g:=h.1;rw[wK b,List.length_map]at g;omega
 obtain⟨r,cap,a,h2,h3⟩:=jZ h b h0;injection a with a m i
 subst a i;refine⟨r,rfl,h2,hlen,λk o j=>?_⟩;have d:(l.map zw)[k]? = Z (zw o):=by rw[dE,j];rfl
 exact⟨(h3 k _ d 0 z).trans rfl,(h3 k _ d 1 z).trans rfl⟩
theorem rb(R:M.Room){o:M.bN}(h:o∈ei R 9):(0<=o.1/\o.1<3)/\(0<=o.2/\o.2<3)/\(R.az o).isSome=true:=by
 unfold ei at h;rw[eL]at h;have hm:=List.mem_of_mem_take h.1;refine⟨?_,?_,h.2⟩<;>(simp[M.eX]at hm;rcases hm with rfl|rfl|rfl|rfl|rfl|rfl|rfl|rfl|rfl<;>simp)
theorem qI{w w':aw}{base:Nat}{e:TypeId}{size n:Nat}{v:Value}{xs:List Value}(h:w.ownsRow base e size v n xs)(b:aC w w'):w'.ownsRow base e size v n xs:=
 du h (.bn (F:=cr) b) (λi _ q=>q.elim)
def Ni(R:M.Room)(o:M.bN):Bool:=match R.az o with | some s=>s.bQ.ready R.dA.eJ R.dA.cX R.cJ | none=>false
theorem wg(R:M.Room):R.ready=(ei R 9).find? (Ni R):=by
 unfold M.Room.ready ei;rw[List.take_of_length_le (aR:M.eX.length<=9)];show M.eX.find? (Ni R)=_;induction M.eX with
 |nil=>rfl
 |cons o l a =>
  rw[List.find?_cons,List.filter_cons];cases b:R.az o with
  |none =>
   have:Ni R o=false:=by unfold Ni;rw[b]
   simp[this,a]
  |some s =>
   simp only[Option.isSome_some,if_true,List.find?_cons];rw[a]
theorem J6{α:Type}(p:α->Bool)(l:List α)(k:Nat)(x:α)(h:∀y∈l.take k,p y=false)(a:l[k]? = Z x)(hp:p x=true):l.find? p=Z x:=by
 induction l generalizing k with
 |nil=>simp at a
 |cons y l b =>
  cases k with
  |zero=>simp at a;subst a;simp[hp]
  |succ k =>
   have h1:=h y dt;rw[List.find?_cons,h1];exact b k (λc d=>h c (by simp[d])) (by simpa using a)
section
variable {B:RB} {R:M.Room} {N:Nat} {w:aw} (h:aL w B R N)
include h
theorem zj(hN:N<1000000):aF af 110 #[aq (Z ⟨B.g,0,I⟩)] w λe w'=>e=av (aB #[pv (R.ready.getD (0,0)),ai R.ready.isSome])/\aC w w':=by
 obtain⟨res,f⟩:=dH R.ready;rw[<-f];rw[wg]at f;obtain⟨j,H,aI,df⟩:=cA f h (re R 9) (λo ho=>rb R (o:=o) ho);have SJ:=h.et.cJ;clear f h;go_enter func110,ntmps110;go_upto_region 1 with fail;obtain⟨r2,e2⟩:=dH w.heap.size;rw[<-e2];refine aW (λX=>aK X r2 91 #[J V 0,J V 0]/\aC w X) ⟨aK.newAt _ _ _ _ e2,(ao _ w).alloc (aj _) _⟩ ?_;have g2:w.heap.size<=r2:=z;clear e2;rintro X ⟨b2,u⟩;have HO:=au (qw (H.O.below u));have hX:=u.size;obtain⟨a,HA⟩:=bu b2 u;clear b2 u;go_wp2_with (go_at_call 71;refine HO.O.mono ?_;rintro e w1 ⟨v,rfl,own,b1⟩;obtain⟨A,c,rfl⟩:=bA own;have E:=au own;have F:=au b1;clear own b1);go_loopw [9] (λi wr=>∃k:Nat,i=J V k/\k<=(ei R 9).length/\(∀o∈(ei R 9).take k,Ni R o=false)/\aK wr r2 91 #[J V 0,J V 0]/\wr.ownsRow X.heap.size 91 2 (ae A (ei R 9).length c) (ei R 9).length ((ei R 9).flatMap zw)/\aC w wr) (λi _=>(ei R 9).length-(bS i).toNat);case atStart=>exact⟨0,rfl,z,dt,a.O.kept F.O,E.O,HA.O.trans (F.O.mono hX)⟩
 case round =>
  clear E F a HA HO;obtain⟨k,rfl,hk,C,b2,own,r⟩:=hrel;have l:=au C;clear C;by_cases P:k<(ei R 9).length
  ·have SK:((k:Int)<((ei R 9).length:Int)):=z;obtain⟨r7,rfl,SL,hlen,m⟩:=wm own z;have SM:=aI.O;have n:(ei R 9)[k]? = Z (ei R 9)[k]:=ay P;obtain⟨k0,k1⟩:=m k _ n;have D:(ei R 9)[k]∈ei R 9:=List.getElem_mem P;obtain⟨eI,gX,G⟩:=df.O _ D;have q:=au n;generalize (ei R 9)[k]=o at k0 k1 eI gX G q;obtain⟨s,hs⟩:=dw.1 G;obtain⟨a,E,t⟩:=bU b2 own r;have mK:=r.size;clear b2 own r m n D G;go_upto_region 4 with fail;obtain⟨r5,e5⟩:=dH wr.heap.size;rw[<-e5];have u:aC wr (wr.alloc (.cells #[J V o.1,J V o.2] 91)):=(ao _ wr).alloc (aj _) _;have n52:r5≠r2:=by have:=a.O.lt;omega
   refine aW (λY=>aK Y r5 91 #[J V o.1,J V o.2]/\aK Y r2 91 #[J V 0,J V 0]/\Y.ownsRow X.heap.size 91 2 (ae (Z ⟨r7,0,I⟩) (ei R 9).length c) (ei R 9).length ((ei R 9).flatMap zw)/\aC w Y) ⟨aK.newAt _ _ _ _ e5,a.O.kept u,qI E.O u,t.O.trans (u.mono t.O.size)⟩ ?_;clear a E t u e5 k0 k1;rintro Y ⟨b5,b2,own,r⟩;have hR:=H.O.below r;obtain⟨S,hS,K⟩:=(hR.below (eW (ao Y.drew.heap.size Y.drew))).iB hs;have Q:=hR.cw.cell 13;have c9:=hR.cw.cell 9;have y0:=b5.cell 0;have y1:=b5.cell 1;have q0:=K.cw.cell 0;simp at Q c9 y0 y1 q0;have SG:(cD 55 (.map (Z B.sm)) (cg #[J V o.1,J V o.2]) false).run af Y.drew=.ok (aq (Z ⟨S.g,0,I⟩)) Y.drew:=by
    have x:=(hR.below (eW (ao Y.drew.heap.size Y.drew))).jU o (ir ⟨z,z⟩ ⟨z,z⟩);rw[hS]at x;exact x
   have L:=au (Bd S.b R.dA.eJ R.dA.cX R.cJ s.bQ Y.drew K.buf ⟨z,z⟩);have T:Ni R o=s.bQ.ready R.dA.eJ R.dA.cX R.cJ:=by unfold Ni;rw[hs]
   rw[<-T]at L;have mK:=r.size;obtain⟨SH,a,E,t⟩:=cA b5 b2 own r;clear hR K hS hs b5 b2 own r T;go_cut [26] (λv wc=>v=ai (Ni R o)/\aC Y wc);case first =>
    go_region_with (go_at_call 162;refine L.O.mono ?_;rintro e w9 ⟨rfl,b9⟩);all_goals
     go_wp2_with fail;go_meet;exact⟨rfl,eW b9⟩
   case rest =>
    obtain⟨rfl,U⟩:=hcut;clear SG L Q c9 q0 y0 y1;have b5:=SH.O.kept U;have b2:=a.O.kept U;cases hq:Ni R o with
    |false =>
     go_wp2_with fail;go_roundw;case rel =>
      refine⟨k+1,by go_num,z,?_,b2,qI E.O U,t.O.trans (U.mono t.O.size)⟩;intro y hy;rw[ee,q.O]at hy;rcases List.mem_append.1 hy with x|x
      ·exact l.O y x
      ·simp at x;subst x;exact hq
     case measure=>simp[bS];omega
    |true =>
     have y0:=b5.cell 0;have y1:=b5.cell 1;have j0:=b2.cell 0;have j1:=b2.cell 1;have f0:=b2.frozen 0;have f1:=b2.frozen 1;have M:=(b2.bC 0 (J V o.1)).bC 1 (J V o.2);have z0:=M.cell 0;have W:=M.cell 1;simp at y0 y1 j0 j1 z0 W;have d:res=Z o:=by
      rw[j.O];exact J6 _ _ k o l.O q.O hq
     clear j b5 b2 M;go_wp2_with fail;refine ax (v:=aB #[cg #[J V o.1,J V o.2],ai true]) (by simp[aV,results110,go_sem,z0,W]) rfl ⟨by first|rfl|(rw[d];rfl),?_⟩;exact((t.O.trans (U.mono t.O.size)).setCell (p:=⟨r2,0,I⟩) g2 _).setCell (p:=⟨r2,1,I⟩) g2 _
  ·have SI:k=(ei R 9).length:=z;subst SI;have d:res=I:=by
    rw[j.O,List.find?_eq_none];intro y hy;have x:=l.O y (by rw[cT];exact hy);simp[x]
   have j0:=b2.cell 0;have j1:=b2.cell 1;have f0:=b2.frozen 0;have f1:=b2.frozen 1;have M:=(b2.bC 0 (J V 0)).bC 1 (J V 0);have z0:=M.cell 0;have W:=M.cell 1;simp at j0 j1 z0 W;have t:=au r;clear j b2 own r M;go_wp2_with fail;refine ax (v:=aB #[cg #[J V 0,J V 0],ai false]) (by simp[aV,results110,go_sem,z0,W]) rfl ⟨by first|rfl|(rw[d];rfl),?_⟩;exact(t.O.setCell (p:=⟨r2,0,I⟩) g2 _).setCell (p:=⟨r2,1,I⟩) g2 _
end
end
section
theorem sV(R:M.Room)(s:Int)(id:Nat)(f:Int):R.bR s id f={ R with di:=wS R.di s id f }:=by
 unfold M.Room.bR wS;split<;>rfl
theorem I0(c t l:Int)(k:Bool):(M.take c t l k).2.1=0\/(M.take c t l k).2.1=4\/(M.take c t l k).2.1=5:=by
 unfold M.take;split
 ·exact aJ rfl
 ·split
  ·exact aJ rfl
  ·split
   ·exact aZ (aZ rfl)
   ·exact aZ (aJ rfl)
theorem ca.EF{w:aw}{B:LB}{aG N:Nat}{aT:Int}{l:M.dP}(h:ca w B aG aT l N){x:M.Item}{r:List M.Item}(a:l.cK=x::r):x.id<=1000000:=by
 obtain⟨q,hR,hF⟩:=h.cK;rw[a]at hF;obtain⟨c,e,rfl,b,_⟩:=hF.cons_inv;obtain⟨_,_,_,_,_,d,_⟩:=b;exact d
section
variable {B:RB} {R:M.Room} {N:Nat} {w:aw} (h:aL w B R N)
include h
theorem mz(s:Int)(id:Nat)(f:Int)(d:-1000000000000<=s/\s<=1000000000000)(b:id<=1000000)(g:1<=f/\f<=8)(j:N<1000000) :
  aF af 114 #[Qv B.bg,J V s,J V id,J V f] w λe w'=>e=av (aB #[])/\aL w' B (R.bR s id f) N/\fK w w' B B:=by
 have a:eD w B.bg B.bm R.di N:=h.part .di;refine(FL B.bg B.bm N R.di s id f w a d b g j).mono ?_;rintro e w' ⟨rfl,k,u⟩;have c:=h.ve (Fr.jT u (λi b=>a.ni i (aZ b))) k;rw[sV];exact⟨rfl,c.1,c.2⟩
theorem Dy(st s:Int)(a:Bool)(l:M.dP)(x:M.Item)(r:List M.Item)(P:R.aD s=Z l)(y:l.cK=x::r)(hp:l.bF.length≠R.dA.aG)(hs:0<=s/\s<6)(hN:N<1000000) :
  aF af 68 #[aq (Z ⟨B.g,0,I⟩),cg #[J V st,J V s],ai a] w λe w'=>∃B',e=av (aB #[])/\aL w' B' (R.gq s) N/\fK w w' B B':=by
 obtain⟨res,d⟩:=dH (R.gq s);rw[<-d];have A:R.gq s=if l.gJ.2.2≠0 then M.Room.bR { R with aD:=M.set R.aD s (Z l.gJ.1) } s l.gJ.2.1 l.gJ.2.2 else { R with aD:=M.set R.aD s (Z l.gJ.1) }:=by
  unfold M.Room.gq;rw[P]
 have hid:l.gJ.2.1=x.id:=by unfold M.dP.gJ;rw[y]
 have Y:l.gJ.2.2=0\/l.gJ.2.2=4\/l.gJ.2.2=5:=by
  unfold M.dP.gJ;rw[y];exact I0 _ _ _ _
 obtain⟨L,Q,C⟩:=h.jq P;have aI:=C.EF y;have k:=au (λW hW=>Eg L R.dA.aG R.dA.aT l N W hW x r y hp);rw[hid]at A k;generalize l.gJ.2.2=S at A k Y;generalize l.gJ.1=l1 at A k;obtain⟨n,m,H0⟩:=bU (d.trans A) (And.intro P Q) h;have df:(Lit.int V s).wf=true:=Ig z z;have D:=h.lt;clear h C hid d A y hp P;go_enter func68,ntmps68;go_upto_region 1 with fail;obtain⟨r4,e4⟩:=dH w.heap.size;rw[<-e4];have t:aC w (w.alloc (.cells #[J V st,J V s] 40)):=(ao _ w).alloc (aj _) _;have o:∀i,B.all i->i≠r4:=λi hi=>by have:=D i hi;omega
 refine aW (λX=>aK X r4 40 #[J V st,J V s]/\aL X B R N/\aC w X) ⟨aK.newAt _ _ _ _ e4,H0.O.below t,t⟩ ?_;have eI:=au o;clear e4 t H0 D o;rintro X ⟨b4,h,t⟩;have T:=h.below (eW (ao X.drew.heap.size X.drew));have gX:(cD 54 (.map (Z B.lm)) (J V s) false).run af X.drew=.ok (aq (Z ⟨L.g,0,I⟩)) X.drew:=by
  have E:=T.kW s df;rw[Q]at E;exact E
 have F:=h.cw.cell 12;have k1:=b4.cell 1;simp at F k1;obtain⟨L',e',C⟩:=T.jq m.O.1;rw[Q]at e';cases e';obtain⟨mK,HD,SG,HA⟩:=cA C T b4 t;clear h t b4 C T Q;go_cut [6,7,8] (λa b c wc=>a=J V x.id/\b=J V S/\c=ai true/\∃B',aL wc B' { R with aD:=M.set R.aD s (Z l1) } N/\fK w wc B B'/\B'.bg=B.bg/\aK wc r4 40 #[J V st,J V s]);case first =>
  go_region_with (go_at_call 128;refine(k.O _ mK.O).mono ?_;rintro e w9 ⟨rfl,SH,f⟩);all_goals
   go_wp2_with fail;go_meet;have E:=HD.O.qJ m.O.1 m.O.2 f SH rfl (λi q=>aJ q);exact⟨rfl,rfl,rfl,_,E.1,(⟨rfl,.bn (HA.O.trans (eW (ao X.drew.heap.size X.drew) |>.mono HA.O.size)),λi q=>aJ q⟩:fK w X.drew B B).trans E.2,rfl,SG.O.drew.dW f.u (λq=>eI.O r4 ⟨.fo s,L,m.O.2,q⟩ rfl)⟩
 case rest =>
  obtain⟨rfl,rfl,rfl,B',hR,hS,G,b4⟩:=hcut;have hb:=hR.cw;rw[hS.g]at hb;have c0:=hb.cell 0;have k1:=b4.cell 1;simp at c0 k1;rw[G]at c0;obtain⟨HR,HS⟩:=bu hR hS;clear hR hS b4 hb gX F;by_cases U:S=0
  ·have d:=n.O;rw[if_neg (by simp[U])]at d;have j:=au d;clear d;subst U;go_wp2_with fail;first
    |refine dq (bT results68 _ _ _) rfl ?_
    |refine ax (v:=aB #[]) (by simp[aV,results68,go_sem]) rfl ?_
   first|exact⟨B',rfl,by rw[j.O];exact HR.O,HS.O⟩|exact⟨rfl,B',by rw[j.O];exact HR.O,HS.O⟩
  ·have d:=n.O;rw[if_pos U]at d;have j:=au d;have o:(S !=0)=true:=by simpa using U
   have p:=λW hW=>mz (w:=W) (B:=B') (R:={ R with aD:=M.set R.aD s (Z l1) }) (N:=N) hW s x.id S ⟨z,z⟩ aI z hN;rw[G]at p;have SI:=au p;clear d p;go_wp2_with fail;go_region_with (go_at_call 114;refine(SI.O _ (HR.O.below (eW (ao _ _)))).mono ?_;rintro e w9 ⟨rfl,H,K⟩);all_goals
    go_wp2_with fail;first
     |refine dq (bT results68 _ _ _) rfl ?_
     |refine ax (v:=aB #[]) (by simp[aV,results68,go_sem]) rfl ?_
    first|exact⟨B',rfl,by rw[j.O];exact H,(HS.O.trans (⟨rfl,.bn (eW (ao _ _)),λi q=>aJ q⟩:fK _ _ B' B')).trans K⟩|exact⟨rfl,B',by rw[j.O];exact H,(HS.O.trans (⟨rfl,.bn (eW (ao _ _)),λi q=>aJ q⟩:fK _ _ B' B')).trans K⟩
end
end
def NA:(af.info? 284).map (·.size)=Z 8:=cC
def NB:(af.info? 277).map (·.size)=Z 5:=cC
def Nz:(af.info? 286).map (·.size)=Z 3:=cC
def qv:(af.info? 288).map (·.size)=Z 17:=cC
def ux{fn:Func}{c s:Tmp}{t:TypeId}(h:fn.results=#[.cell c t,.tmp s])(tmps:Array Value)(P:Program)(w:aw){g:Nat}{te:TypeId}{dx:Array Value}{d:TypeDesc}(b:aK w g te dx)(f:tmps[c]?.getD undef=aq (Z ⟨g,0,I⟩))(hu:P.underlying t=Z d)(i:d.isRow=true)(a:(P.info? t).map (·.size)=Z dx.size){v:Value}(k:tmps[s]?.getD undef=v) :
  (aV fn tmps).run P w=.ok (aB #[cg dx,v]) w:=by
 have e:=run_loadVar_mid (P:=P) w g 0 t dx.toList d (λj u l=>by rw[cO,b.cell];simpa using l) hu i (by simpa using a);simp only[Array.toArray_toList]at e;subst k;simp[aV,h,f,asAddr,e]
def mH(w:aw)(v:Value)(l:List Int):Prop:=∃(A:Option Addr) (c:Nat),v=ae A l.length c/\l.length<=c/\c<=maxLen/\l.length<=30/\(0<l.length->∃g dx,A=Z ⟨g,0,I⟩/\aK w g 396 dx/\∀(i:Nat) (x:Int),l[i]? = Z x->dx[i*2]? = Z (J ar x)/\∃y,dx[i*2+1]? = Z (J bI y))
def mH.map{w w':aw}{v:Value}{l:List Int}(h:mH w v l)(hm:∀g dx,aK w g 396 dx->aK w' g 396 dx):mH w' v l:=by
 obtain⟨A,c,h1,h2,h3,h4,h5⟩:=h;exact⟨A,c,h1,h2,h3,h4,λq=>by obtain⟨g,dx,e,a,k⟩:=h5 q;exact⟨g,dx,e,hm g dx a,k⟩⟩
def mH.nil(w:aw):mH w (ae I 0 0) []:=⟨I,0,rfl,aj _,gG _,gG _,λh=>absurd h dt⟩
def mH.own{w:aw}{base:Nat}{v:Value}{l:List Int}{q:List (List Value)}(own:w.ownsRow base 396 2 v l.length q.flatten)(fit:Fit BQ l q)(a:l.length<=30):mH w v l:=by
 have d:∀c∈q,c.length=2:=fit.len (R:=BQ) (λx c h=>by obtain⟨_,y,rfl⟩:=h;rfl);by_cases h0:0<l.length
 ·obtain⟨g,cap,dx,e,_,h2,h3,f,_,h4⟩:=Cz own d h0;refine⟨_,cap,e,h2,h3,a,λ_=>⟨g,dx,rfl,f,λi x j=>?_⟩⟩;obtain⟨c,b,_,y,rfl⟩:=fit.get j;exact⟨(h4 i _ b 0 z).trans rfl,y,(h4 i _ b 1 z).trans rfl⟩
 ·rcases own.2 with⟨e,_⟩ | ⟨g,cap,dx,e,_,_,h2,h3,_⟩
  ·have:l.length=0:=z;subst e;exact⟨I,0,by rw[this],z,ui,a,λq=>absurd q h0⟩
  ·exact⟨_,cap,e,h2,h3,a,λq=>absurd q h0⟩
abbrev qY(e:Int)(f:Bool)(g h i j k l:Int)(rv:Sl)(m o p:Int)(q:Value)(b:Sl)(r s:Int)(d:Sl):List Value:=[J V e,ai f,J ar g,J ar h,J ar i,J ar j,J ar k,J ar l,ae rv.a rv.n rv.c,J V m,J ar o,J ar p,q,ae b.a b.n b.c,J bI r,J bI s,ae d.a d.n d.c]
def mE(w:aw)(l:List Int)(c:List Value):Prop:=∃(d:Int) (f:Bool) (g h i j k m:Int) (rv:Sl) (a n b:Int) (e:Value) (o:Sl) (p q:Int) (r:Sl) (dJ:List Int),c=qY d f g h i j k m rv a n b e o p q r/\mH w e dJ/\l=(if d=2 then(if a=1 then[b] else if a=2 then dJ else[]) else[])/\(Lit.int ar b).wf=true
def mE.map{w w':aw}{l:List Int}{c:List Value}(h:mE w l c)(hm:∀g dx,aK w g 396 dx->aK w' g 396 dx):mE w' l c:=by
 obtain⟨a,b,d,e,f,i,j,k,rv,m,n,o,p,q,r,s,t,dJ,h1,h2,h3⟩:=h;exact⟨a,b,d,e,f,i,j,k,rv,m,n,o,p,q,r,s,t,dJ,h1,h2.map hm,h3⟩
def mE.one{w:aw}{l:List Int}{c:List Value}(h:mE w l c):∀u∈c,u.oneCell'=true:=by
 obtain⟨a,b,d,e,f,g,i,j,rv,k,m,o,p,q,r,s,t,dJ,rfl,⟨A,n,rfl,_⟩,_⟩:=h;intro u hu;simp at hu;repeat (first|(subst hu;rfl)|(rcases hu with rfl|hu;rfl))
def mE.len{w:aw}{l:List Int}{c:List Value}(h:mE w l c):c.length=17:=by
 obtain⟨a,b,d,e,f,g,i,j,rv,k,m,n,o,p,q,r,s,dJ,rfl,_⟩:=h;rfl
def mE.SD{w:aw}{l:List Int}{c:List Value}(h:mE w l c):l.length<=30:=by
 obtain⟨a,b,d,e,f,g,i,j,rv,k,m,n,o,p,q,r,s,dJ,_,⟨_,_,_,_,_,h4,_⟩,rfl,_⟩:=h;split
 ·split
  ·simp
  ·split
   ·exact h4
   ·simp
 ·simp
def Nd(w:aw)(it:List Int×Int)(e:rJ)(w':aw):Prop:=(∃cs:List Value,e=av (aB #[cg cs.toArray,J V it.2])/\mE w' it.1 cs)/\aC w w'
def Gz(count type:Int)(b:Sl)(xs:M.cQ)(w:aw)(hb:b.B w xs)(hn:b.n<=200)(hc:0<=count/\count<=31) :
  aF af 226 #[cg #[J bI count,J bI type,ae b.a b.n b.c]] w (Nd w (M.jO ⟨count,type,xs⟩)):=by
 obtain⟨it,hit⟩:=dH (M.jO ⟨count,type,xs⟩);rw[<-hit];obtain⟨df,o,HN,HC⟩:=cA hit hb hn hc;clear hb hit hn hc;go_enter func226,ntmps226;go_upto_region 1 with fail;obtain⟨r1,e1⟩:=dH w.heap.size;obtain⟨r2,e2⟩:=dH (w.heap.size+1);rw[<-e2,<-e1];have g2:w.heap.size<=r2:=z;have s:aC w ((w.alloc (.cells #[J bI count,J bI type,ae b.a b.n b.c] 286)).alloc (.cells #[J V 0,ai false,J ar 0,J ar 0,J ar 0,J ar 0,J ar 0,J ar 0,ae I 0 0,J V 0,J ar 0,J ar 0,ae I 0 0,ae I 0 0,J bI 0,J bI 0,ae I 0 0] 288)):=((ao _ w).alloc (aj _) _).alloc dt _;refine aW (λX=>aK X r1 286 #[J bI count,J bI type,ae b.a b.n b.c]/\aK X r2 288 #[J V 0,ai false,J ar 0,J ar 0,J ar 0,J ar 0,J ar 0,J ar 0,ae I 0 0,J V 0,J ar 0,J ar 0,ae I 0 0,ae I 0 0,J bI 0,J bI 0,ae I 0 0]/\b.B X xs/\aC w X) ⟨(aK.newAt _ _ _ _ e1).alloc _,aK.newAt _ _ _ _ (by simp[e2]),o.O.below s,s⟩ ?_;clear e1 e2 s o;rintro X ⟨b1,b2,hb,fN⟩;have k0:=b1.cell 0;have k1:=b1.cell 1;have k2:=b1.cell 2;simp at k0 k1 k2;obtain⟨p,k,o,d⟩:=cA b1 b2 hb fN;clear b1 b2 hb fN;obtain⟨rp,eI⟩:=dH ((type==200||type==201):Bool);have E:=au eI;clear eI;go_cut [15] (λv wc=>v=ai rp/\wc=X);case first =>
  cases h2:(type==200) with
  |true =>
   have hz:rp=true:=by rw[E.O,h2];rfl
   have HZ:=au hz;clear hz;go_wp2_with fail;go_meet;exact⟨by rw[HZ.O],rfl⟩
  |false =>
   have hz:rp=(type==201):=by rw[E.O,h2];rfl
   have HZ:=au hz;clear hz;go_wp2_with fail;go_meet;exact⟨by rw[HZ.O],rfl⟩
 case rest =>
 obtain⟨rfl,rfl⟩:=hcut;cases rp with
 |true =>
  have ht:type=200\/type=201:=by have:=E.O;simpa using this.symm
  have he:it=([],M.nN ⟨count,type,xs⟩):=by rw[df.O];unfold M.jO;rw[if_pos ht]
  obtain⟨t,HE⟩:=bu (FT count type b xs wc o.O HN.O HC.O ht) he;clear he ht;go_upto_region 3 with(go_big_may;go_at_call 273;refine t.O.mono ?_;rintro e w1 ⟨⟨F,G,H,K,L,N,P,v,rfl⟩,bw⟩;have r:=au bw;clear bw)
  obtain⟨r4,e4⟩:=dH w1.heap.size;rw[<-e4];have s:aC wc (w1.alloc (.cells #[ai F,J ar G,J ar H,J ar K,J ar L,J ar N,J ar P,ae v.a v.n v.c] 284)):=r.O.alloc r.O.size _;refine aW (λY=>aK Y r4 284 #[ai F,J ar G,J ar H,J ar K,J ar L,J ar N,J ar P,ae v.a v.n v.c]/\aK Y r1 286 #[J bI count,J bI type,ae b.a b.n b.c]/\aK Y r2 288 #[J V 0,ai false,J ar 0,J ar 0,J ar 0,J ar 0,J ar 0,J ar 0,ae I 0 0,J V 0,J ar 0,J ar 0,ae I 0 0,ae I 0 0,J bI 0,J bI 0,ae I 0 0]/\aC w Y) ⟨aK.newAt _ _ _ _ e4,p.O.kept s,k.O.kept s,d.O.trans (s.mono d.O.size)⟩ ?_;clear e4 s p k o d r t k0 k1 k2 wc;rintro Y ⟨b4,b1,b2,fN⟩;obtain⟨SG,p,k,d⟩:=cA b4 b1 b2 fN;clear b4 b1 b2 fN;have f:∀l∈(#[J V 1,ai F,J ar G,J ar H,J ar K,J ar L,J ar N,J ar P,ae v.a v.n v.c,J V 0,J ar 0,J ar 0,ae I 0 0,ae I 0 0,J bI 0,J bI 0,ae I 0 0]:Array Value).toList,l.oneCell'=true:=by intro u hu;simp at hu;repeat (first|(subst hu;rfl)|(rcases hu with rfl|hu;rfl))
  have m:=au f;clear f;go_wp2_with (first|(refine lI _ rfl (.tmp 4) 284 rfl r4 0 284 _ rfl #[ai F,J ar G,J ar H,J ar K,J ar L,J ar N,J ar P,ae v.a v.n v.c] _ underlying284 NA SG.O (λj _=>by rw[cO]) ?_)|(refine jb _ rfl (.tmp 2) (.tmp 22) 288 rfl r2 0 288 #[J V 0,ai false,J ar 0,J ar 0,J ar 0,J ar 0,J ar 0,J ar 0,ae I 0 0,J V 0,J ar 0,J ar 0,ae I 0 0,ae I 0 0,J bI 0,J bI 0,ae I 0 0] rfl #[J V 1,ai F,J ar G,J ar H,J ar K,J ar L,J ar N,J ar P,ae v.a v.n v.c,J V 0,J ar 0,J ar 0,ae I 0 0,ae I 0 0,J bI 0,J bI 0,ae I 0 0] rfl qv k.O (aj _) m.O ?_;intro x y u16));go_wp2_with fail;have A:aK x r2 288 #[J V 1,ai F,J ar G,J ar H,J ar K,J ar L,J ar N,J ar P,ae v.a v.n v.c,J V 0,J ar 0,J ar 0,ae I 0 0,ae I 0 0,J bI 0,J bI 0,ae I 0 0]:=y;refine ax (v:=aB #[cg #[J V 1,ai F,J ar G,J ar H,J ar K,J ar L,J ar N,J ar P,ae v.a v.n v.c,J V 0,J ar 0,J ar 0,ae I 0 0,ae I 0 0,J bI 0,J bI 0,ae I 0 0],J V (M.nN ⟨count,type,xs⟩)]) (ux results226 _ _ _ A rfl underlying288 rfl qv rfl) rfl ?_;have d16:=d.O.trans (u16.below d.O.size (λi q=>by cases q;exact g2));exact⟨⟨#[J V 1,ai F,J ar G,J ar H,J ar K,J ar L,J ar N,J ar P,ae v.a v.n v.c,J V 0,J ar 0,J ar 0,ae I 0 0,ae I 0 0,J bI 0,J bI 0,ae I 0 0].toList,by have l:=HE.O;subst l;rfl,⟨1,F,G,H,K,L,N,P,v,0,0,0,_,.nil,0,0,.nil,[],rfl,mH.nil _,by have l:=HE.O;subst l;first|rfl|simp,by rfl⟩⟩,d16⟩
 |false =>
  have ht:¬(type=200\/type=201):=by have:=E.O;simpa using this.symm
  obtain⟨W,aI⟩:=dH (M.nu ⟨count,type,xs⟩);have he:it=if W.2=5 then([],0) else(if W.1.kind=1 then[W.1.zA] else if W.1.kind=2 then W.1.dJ else[],W.2):=by rw[df.O,aI];unfold M.jO;rw[if_neg ht]
  have hf:=MI count type b xs wc o.O HN.O HC.O;rw[<-aI]at hf;obtain⟨t,HE⟩:=bu hf he;clear he ht hf aI;obtain⟨⟨Q,R,C⟩,er⟩:=W;go_upto_region 5 with(go_big_may;go_at_call 274;refine t.O.mono ?_;rintro e w1 ⟨⟨S,fa,u,q,rfl,own,fit,gX,wf⟩,bw⟩;have r:=au bw;have T:=au (mH.own own fit gX);have SH:=au wf;obtain⟨U,c5,rfl⟩:=bA own;clear bw own fit gX wf)
  obtain⟨r6,e6⟩:=dH w1.heap.size;rw[<-e6];have s:aC wc (w1.alloc (.cells #[J V Q,J ar S,J ar R,ae U C.length c5,ae u.a u.n u.c] 277)):=r.O.alloc r.O.size _;refine aW (λY=>aK Y r6 277 #[J V Q,J ar S,J ar R,ae U C.length c5,ae u.a u.n u.c]/\aK Y r1 286 #[J bI count,J bI type,ae b.a b.n b.c]/\aK Y r2 288 #[J V 0,ai false,J ar 0,J ar 0,J ar 0,J ar 0,J ar 0,J ar 0,ae I 0 0,J V 0,J ar 0,J ar 0,ae I 0 0,ae I 0 0,J bI 0,J bI 0,ae I 0 0]/\aC w Y/\mH Y (ae U C.length c5) C) ⟨aK.newAt _ _ _ _ e6,p.O.kept s,k.O.kept s,d.O.trans (s.mono d.O.size),T.O.map (λg dx h=>h.alloc _)⟩ ?_;clear e6 s p k o d r t k0 k1 k2 T wc;rintro Y ⟨b6,b1,b2,fN,mK⟩;obtain⟨SI,p,k,d,T⟩:=gY b6 b1 b2 fN mK;clear b6 b1 b2 fN mK;by_cases h5:er=5
  ·subst h5;have he:it=([],0):=HE.O;have D:=au he;clear he;have f:∀l∈(#[J V 3,ai false,J ar 0,J ar 0,J ar 0,J ar 0,J ar 0,J ar 0,ae I 0 0,J V 0,J ar 0,J ar 0,ae I 0 0,ae I 0 0,J bI count,J bI type,ae b.a b.n b.c]:Array Value).toList,l.oneCell'=true:=by intro u hu;simp at hu;repeat (first|(subst hu;rfl)|(rcases hu with rfl|hu;rfl))
   have m:=au f;clear f;go_wp2_with (first|(refine lI _ rfl (.tmp 1) 286 rfl r1 0 286 _ rfl #[J bI count,J bI type,ae b.a b.n b.c] _ underlying286 Nz p.O (λj _=>by rw[cO]) ?_)|(refine jb _ rfl (.tmp 2) (.tmp 32) 288 rfl r2 0 288 #[J V 0,ai false,J ar 0,J ar 0,J ar 0,J ar 0,J ar 0,J ar 0,ae I 0 0,J V 0,J ar 0,J ar 0,ae I 0 0,ae I 0 0,J bI 0,J bI 0,ae I 0 0] rfl #[J V 3,ai false,J ar 0,J ar 0,J ar 0,J ar 0,J ar 0,J ar 0,ae I 0 0,J V 0,J ar 0,J ar 0,ae I 0 0,ae I 0 0,J bI count,J bI type,ae b.a b.n b.c] rfl qv k.O (aj _) m.O ?_;intro x y u16));go_wp2_with fail;have A:aK x r2 288 #[J V 3,ai false,J ar 0,J ar 0,J ar 0,J ar 0,J ar 0,J ar 0,ae I 0 0,J V 0,J ar 0,J ar 0,ae I 0 0,ae I 0 0,J bI count,J bI type,ae b.a b.n b.c]:=y;refine ax (v:=aB #[cg #[J V 3,ai false,J ar 0,J ar 0,J ar 0,J ar 0,J ar 0,J ar 0,ae I 0 0,J V 0,J ar 0,J ar 0,ae I 0 0,ae I 0 0,J bI count,J bI type,ae b.a b.n b.c],J V 0]) (ux results226 _ _ _ A rfl underlying288 rfl qv rfl) rfl ?_;have d16:=d.O.trans (u16.below d.O.size (λi q=>by cases q;exact g2));exact⟨⟨#[J V 3,ai false,J ar 0,J ar 0,J ar 0,J ar 0,J ar 0,J ar 0,ae I 0 0,J V 0,J ar 0,J ar 0,ae I 0 0,ae I 0 0,J bI count,J bI type,ae b.a b.n b.c].toList,by have l:=D.O;subst l;rfl,⟨3,false,0,0,0,0,0,0,.nil,0,0,0,_,.nil,count,type,b,[],rfl,mH.nil _,by have l:=D.O;subst l;first|rfl|simp,by rfl⟩⟩,d16⟩
  ·have SJ:(er==5)=false:=by simpa using h5
   have he:=HE.O;rw[if_neg h5]at he;have D:=au he;clear he h5;have f:∀l∈(#[J V 2,ai false,J ar 0,J ar 0,J ar 0,J ar 0,J ar 0,J ar 0,ae I 0 0,J V Q,J ar S,J ar R,ae U C.length c5,ae u.a u.n u.c,J bI 0,J bI 0,ae I 0 0]:Array Value).toList,l.oneCell'=true:=by intro u hu;simp at hu;repeat (first|(subst hu;rfl)|(rcases hu with rfl|hu;rfl))
   have m:=au f;clear f;go_wp2_with (first|(refine lI _ rfl (.tmp 6) 277 rfl r6 0 277 _ rfl #[J V Q,J ar S,J ar R,ae U C.length c5,ae u.a u.n u.c] _ underlying277 NB SI.O (λj _=>by rw[cO]) ?_)|(refine jb _ rfl (.tmp 2) (.tmp 34) 288 rfl r2 0 288 #[J V 0,ai false,J ar 0,J ar 0,J ar 0,J ar 0,J ar 0,J ar 0,ae I 0 0,J V 0,J ar 0,J ar 0,ae I 0 0,ae I 0 0,J bI 0,J bI 0,ae I 0 0] rfl #[J V 2,ai false,J ar 0,J ar 0,J ar 0,J ar 0,J ar 0,J ar 0,ae I 0 0,J V Q,J ar S,J ar R,ae U C.length c5,ae u.a u.n u.c,J bI 0,J bI 0,ae I 0 0] rfl qv k.O (aj _) m.O ?_;intro x y u16));go_wp2_with fail;have A:aK x r2 288 #[J V 2,ai false,J ar 0,J ar 0,J ar 0,J ar 0,J ar 0,J ar 0,ae I 0 0,J V Q,J ar S,J ar R,ae U C.length c5,ae u.a u.n u.c,J bI 0,J bI 0,ae I 0 0]:=y;refine ax (v:=aB #[cg #[J V 2,ai false,J ar 0,J ar 0,J ar 0,J ar 0,J ar 0,J ar 0,ae I 0 0,J V Q,J ar S,J ar R,ae U C.length c5,ae u.a u.n u.c,J bI 0,J bI 0,ae I 0 0],J V er]) (ux results226 _ _ _ A rfl underlying288 rfl qv rfl) rfl ?_;have d16:=d.O.trans (u16.below d.O.size (λi q=>by cases q;exact g2));exact⟨⟨#[J V 2,ai false,J ar 0,J ar 0,J ar 0,J ar 0,J ar 0,J ar 0,ae I 0 0,J V Q,J ar S,J ar R,ae U C.length c5,ae u.a u.n u.c,J bI 0,J bI 0,ae I 0 0].toList,by have l:=D.O;subst l;rfl,⟨2,false,0,0,0,0,0,0,.nil,Q,S,R,_,u,0,0,.nil,C,rfl,T.O.map (λg dx h=>(h.dW u16 (aK.jf h k.O aR))),by have l:=D.O;subst l;first|rfl|simp,SH.O⟩⟩,d16⟩
abbrev Ms:Value:=cg (qY 0 false 0 0 0 0 0 0 .nil 0 0 0 (ae I 0 0) .nil 0 0 .nil).toArray
def N2:(af.info? 288).map (λi=>(i.zero,i.size,i.bytes))=Z (Z Ms,17,160):=cC
def My:(af.info? 29).map (λi=>(i.zero,i.size,i.bytes))=Z (Z (J V 0),1,8):=cC
def pn{w w':aw}{base a:Nat}{e f:TypeId}{size b n j:Nat}{v i:Value}{xs c:List Value}(h:w.ownsRow base e size v n xs)(k:w.ownsRow a f b i j c)(d:e≠f)(g:w.grownBy w' i.ownBlock):w'.ownsRow base e size v n xs:=
 Cy h (eT g) (ib k) (by simpa using d)
def eH{w:aw}{base:Nat}{e:TypeId}{size n:Nat}{v:Value}{xs:List Value}(h:w.ownsRow base e size v n xs)(o:Obj):(w.alloc o).ownsRow base e size v n xs:=du (F:=cr) h (.bn ((ao _ _).alloc (aj _) o)) (λ_ _ q=>q.elim)
def gI{w w':aw}{base:Nat}{e:TypeId}{size n:Nat}{v:Value}{xs:List Value}(h:w.ownsRow base e size v n xs)(b:aC w w'):w'.ownsRow base e size v n xs:=du (F:=cr) h (.bn b) (λ_ _ q=>q.elim)
def mQ{w w':aw}{base:Nat}{e:TypeId}{size n:Nat}{v:Value}{xs:List Value}(k:w.ownsRow base e size v n xs)(g:w.grownBy w' v.ownBlock){t:TypeId}(ht:t≠e):∀b cs,aK w b t cs->aK w' b t cs:=λb cs h=>h.typed (eT g) (ib k) (by simpa using ht)
def tf{w0 w w':aw}{base:Nat}{e:TypeId}{size n:Nat}{v:Value}{xs:List Value}(b:aC w0 w)(k:w.ownsRow base e size v n xs)(a:w0.heap.size<=base)(g:w.grownBy w' v.ownBlock):aC w0 w':=
 b.trans ((eT g).below b.size (λi c=>aP a (k.lt i c).1))
def uO{w:aw}{base:Nat}{e:TypeId}{size n m c:Nat}{A:Option Addr}{xs:List Value}(h:w.ownsRow base e size (ae A m c) n xs):n<=c/\c<=maxLen:=by
 rcases h.2 with⟨e,h0⟩ | ⟨g,cap,dx,e,_,_,h2,h3,_⟩
 ·simp at e;obtain⟨_,_,rfl⟩:=e;exact⟨z,gG _⟩
 ·simp at e;obtain⟨_,_,rfl⟩:=e;exact⟨h2,h3⟩
def KC(w:aw):Option (List Int)->rJ->aw->Prop
 |none,e,w'=>(∃(v:Value) (a:Int),e=av (aB #[v,J V a])/\a≠0)/\aC w w'
 |some l,e,w'=>(∃(v:Value) (nT:List (List Int)) (q:List (List Value)),e=av (aB #[v,J V 0])/\w'.ownsRow w.heap.size 288 17 v nT.length q.flatten/\Fit (mE w') nT q/\l=nT.flatten/\nT.length<=60)/\aC w w'
def I6(b:M.cQ):(M.splitB b).1=I->(M.splitB b).2≠0:=by
 unfold M.splitB;split
 ·intro _;simp
 ·rcases h:M.jN 60 ⟨b,0⟩ with⟨l,r⟩
  simp only;split
  ·rename_i h2;intro _;exact h2
  ·intro q;cases q
def FI(b:M.cQ){l:List M.Chunk}:(M.splitB b).1=Z l->(M.splitB b).2=0:=by
 unfold M.splitB;split
 ·intro q;cases q
 ·rcases h:M.jN 60 ⟨b,0⟩ with⟨l,r⟩
  simp only;split
  ·intro q;cases q
  ·intro q;rfl
def toldOf(sp:Option (List M.Chunk)×Int):Option (List Int):=match sp.1 with
 |none=>I
 |some l=>if M.nj (l.map λc=>(M.jO c).2)≠0 then I else Z (l.flatMap λc=>(M.jO c).1)
def Nw(b:M.cQ):M.ff b=toldOf (M.splitB b):=by
 unfold M.ff toldOf;rcases M.splitB b with⟨l,e⟩
 cases l<;>rfl
def Kb(A:Option Addr)(n c:Nat)(b:M.cQ)(w:aw)(h:TB w A n b)(SN:n<=c)(hz:A=I->c=0)(hn:n<=100000):aF af 178 #[ae A n c] w (KC w (M.ff b)):=by
 obtain⟨o,ho⟩:=dH (M.ff b);rw[<-ho];have HS:=I7 A n c b w h SN hz hn;have e1:=I6 b;have e2:∀l,(M.splitB b).1=Z l->_:=λl=>FI b (l:=l);obtain⟨sp,mK⟩:=dH (M.splitB b);rw[<-mK]at HS e1 e2;have SG:o=toldOf sp:=by rw[ho,Nw,<-mK]
 obtain⟨sl,er⟩:=sp;cases sl with
 |none =>
  have Tr:o=I:=SG;subst Tr;have h1:er≠0:=e1 rfl;have TI:(er==0)=false:=by simpa using h1
  obtain⟨H1,SH⟩:=bu h1 HS;clear HS e1 e2 ho SG mK h1 h SN hz hn;go_enter func178,ntmps178;go_wp2_with (go_at_call 225;refine SH.O.mono ?_;rintro e w1 ⟨⟨v,q,rfl,_⟩,b1⟩;have SI:=au b1;clear b1);refine ax (ew rfl _ _ _) rfl ?_;exact⟨⟨ae I 0 0,er,rfl,H1.O⟩,SI.O⟩
 |some L =>
  have h0:er=0:=e2 L rfl;subst h0;obtain⟨HO,SH⟩:=bu SG HS;obtain⟨i0,hi,SW,SX,SY⟩:=cY N2;obtain⟨i1,hj,SZ,Ta,Tb⟩:=cY My;obtain⟨HI,Ts,Tt,Tu,HJ,Tv,Tw,Tx⟩:=qh hi SW SX SY hj SZ Ta Tb;clear mK HS e1 e2 ho SG h SN hz hn hi SW SX SY hj SZ Ta Tb;go_enter func178,ntmps178;go_upto_region 2 with(go_big_may;go_at_call 225;refine SH.O.mono ?_;rintro e w1 ⟨⟨v,q,rfl,hq⟩,b1⟩;obtain⟨own,fit,SO⟩:=hq L rfl;obtain⟨A4,c4,rfl⟩:=bA own;have HW:=au own;have HF:=au fit;have Tc:=au SO;have SI:=au b1;clear b1 own fit hq SO)
  go_wp2_with fail;go_loopw [6,7,23] (λv6 v7 i wr=>∃(k:Nat) (P:List (List Value)),i=J V k/\k<=L.length/\wr.ownsRow w.heap.size 288 17 v6 k P.flatten/\Fit (mE wr) ((L.take k).map λc=>(M.jO c).1) P/\wr.ownsRow w.heap.size 29 1 v7 k (((L.take k).map λc=>(M.jO c).2).map (J V)) /\
   (wr.ownsRow w.heap.size 286 3 (ae A4 L.length c4) L.length q.flatten/\Fit (lh wr) L q)/\aC w wr) (λ_ _ i _=>L.length-(bS i).toNat)
  case atStart=>exact⟨0,[],rfl,z,⟨rfl,aJ ⟨rfl,rfl⟩⟩,trivial,⟨rfl,aJ ⟨rfl,rfl⟩⟩,⟨HW.O,HF.O⟩,SI.O⟩
  case round =>
   clear HW HF SI SH;obtain⟨k,P,rfl,hk,H,K,C,⟨oc,Q⟩,N⟩:=hrel;obtain⟨A6,c6,rfl⟩:=bA H;obtain⟨A7,c7,rfl⟩:=bA C;by_cases Ty:k<L.length
   ·have TJ:((k:Int)<(L.length:Int)):=z;obtain⟨x,cx,hx,SJ,Tz⟩:=Q.MD Ty;obtain⟨g4,TH,e4,TM,s⟩:=jZ oc (Q.len (EJ wr)) z;injection e4 with e4 e5 e6
    subst e4 e6;obtain⟨bs,rfl,Td,Te,SL,TA⟩:=Tz;have q0:=s k _ SJ 0 z;have q1:=s k _ SJ 1 z;have q2:=s k _ SJ 2 z;simp at q0 q1 q2;have R:=λW (hW:bs.B W x.body)=>Gz x.count x.type bs x.body W hW Te SL;have S:L.take (k+1)=L.take k++[x]:=by rw[ee,hx];rfl
    obtain⟨D,T,Tf,f,m,j,t,u,G⟩:=By R S Td H K C oc Q N;have SO:=Tc.O;clear H K C oc Q N R S Td s hx SJ Te SL TA;go_upto_region 9 with fail;obtain⟨r9,e9⟩:=dH wr.heap.size;rw[<-e9];have al:aC wr (wr.alloc (.cells #[J bI x.count,J bI x.type,ae bs.a bs.n bs.c] 286)):=(ao _ _).alloc (aj _) _;refine aW (λY=>aK Y r9 286 #[J bI x.count,J bI x.type,ae bs.a bs.n bs.c]/\aC wr Y) ⟨aK.newAt _ _ _ _ e9,al⟩ ?_;clear e9 al q0 q1 q2;rintro Y ⟨b9,bY⟩;have y0:=b9.cell 0;have y1:=b9.cell 1;have y2:=b9.cell 2;simp at y0 y1 y2;have SK:=au bY;clear b9 bY;obtain⟨it,hit⟩:=dH (M.jO ⟨x.count,x.type,x.body⟩);rw[<-hit]at D;have Tg:=au hit;clear hit;go_upto_region 10 with(go_big_may;go_at_call 226;refine(D.O _ (Tf.O.below SK.O)).mono ?_;rintro e w2 ⟨⟨cs,rfl,ht⟩,b2⟩;have HT:=au ht;obtain⟨kd,sd,x1,z1,z2,z3,z4,z5,rv,fk,fs,fm,fa,fl,p,ot,ob,dJ,rfl,⟨A8,n8,rfl,TC⟩,_⟩:=ht;have Th:=au b2;clear b2 TC)
    obtain⟨TD,SP⟩:=dH w2.heap.size;rw[<-SP];have bl:aC wr w2:=SK.O.trans (Th.O.mono SK.O.size);have al:aC w2 (w2.alloc (.cells (qY kd sd x1 z1 z2 z3 z4 z5 rv fk fs fm (ae A8 dJ.length n8) fl p ot ob).toArray 288)):=(ao _ _).alloc (aj _) _;have bb:=bl.trans (al.mono bl.size);refine aW (λU=>aK U TD 288 (qY kd sd x1 z1 z2 z3 z4 z5 rv fk fs fm (ae A8 dJ.length n8) fl p ot ob).toArray/\mE U it.1 (qY kd sd x1 z1 z2 z3 z4 z5 rv fk fs fm (ae A8 dJ.length n8) fl p ot ob)/\U.ownsRow w.heap.size 288 17 (ae A6 k c6) k P.flatten/\Fit (mE U) ((L.take k).map λc=>(M.jO c).1) P/\U.ownsRow w.heap.size 29 1 (ae A7 k c7) k (((L.take k).map λc=>(M.jO c).2).map (J V)) /\
     (U.ownsRow w.heap.size 286 3 (ae (Z ⟨g4,0,I⟩) L.length c4) L.length q.flatten/\Fit (lh U) L q)/\aC w U)
     ⟨aK.newAt _ _ _ _ SP,HT.O.map (λg dx h=>h.alloc _),gI f.O bb,m.O.mono (λx c h=>h.map (λg dx h=>h.kept bb)),gI j.O bb,⟨gI t.O bb,u.O.mono (λx c h=>h.below bb)⟩,G.O.trans (bb.mono G.O.size)⟩ ?_
    clear SP bl al bb HT f m j t u G SK Th D Tf y0 y1 y2 Y;rintro U ⟨d,ht,H,K,C,⟨oc,Q⟩,N⟩;have t0:=d.cell 0;have t1:=d.cell 1;have t2:=d.cell 2;have t3:=d.cell 3;have t4:=d.cell 4;have t5:=d.cell 5;have t6:=d.cell 6;have t7:=d.cell 7;have t8:=d.cell 8;have t9:=d.cell 9;have t10:=d.cell 10;have t11:=d.cell 11;have t12:=d.cell 12;have t13:=d.cell 13;have t14:=d.cell 14;have t15:=d.cell 15;have t16:=d.cell 16;simp at t0 t1 t2 t3 t4 t5 t6 t7 t8 t9 t10 t11 t12 t13 t14 t15 t16;obtain⟨HT,f,m,j,t,u,G⟩:=lV ht H K C oc Q N;have hZ:=N.size;clear d ht H K C oc Q N;go_upto_region 11 with(at_builtin;go_loud (refine dV _ rfl _ _ 289 rfl w.heap.size 288 i0 Ms 17 160 underlying289 HI.O Ts.O Tt.O Tu.O rfl aR _ _ _ rfl (eH f.O _) ⟨U.heap.size,0,I⟩ 1 1 (qY kd sd x1 z1 z2 z3 z4 z5 rv fk fs fm (ae A8 dJ.length n8) fl p ot ob) rfl rfl (fB U 288 _) HT.O.one ui z dZ ?_;intro v5 w5 y g5 E))
    have TE:=g5;have Ti:mE w5 it.1 (qY kd sd x1 z1 z2 z3 z4 z5 rv fk fs fm (ae A8 dJ.length n8) fl p ot ob):=HT.O.map (λg dx h=>mQ (eH f.O _) g5 aR _ _ (h.alloc _));have X:Fit (mE w5) ((L.take (k+1)).map λc=>(M.jO c).1) (P++[qY kd sd x1 z1 z2 z3 z4 z5 rv fk fs fm (ae A8 dJ.length n8) fl p ot ob]):=by
     rw[T.O,fL];refine Fit.snoc (m.O.mono (λx c h=>h.map (λg dx h=>mQ (eH f.O _) g5 aR _ _ (h.alloc _)))) ?_;have e:=Tg.O;subst e;exact Ti
    have F:w5.ownsRow w.heap.size 288 17 v5 (k+1) (P++[qY kd sd x1 z1 z2 z3 z4 z5 rv fk fs fm (ae A8 dJ.length n8) fl p ot ob]).flatten:=by simpa using y
    have aI:=pn (eH j.O _) (eH f.O _) aR g5;have df:=pn (eH t.O _) (eH f.O _) aR g5;have eI:Fit (lh w5) L q:=u.O.mono (λx c h=>(h.below ((ao _ _).alloc (aj _) _)).typed (eT g5) (ib (eH f.O _)) aR);have gX:=tf (G.O.alloc G.O.size _) (eH f.O _) (aj _) g5;obtain⟨A9,c9,rfl⟩:=bA F;refine aW (λW=>W.ownsRow w.heap.size 288 17 (ae A9 (k+1) c9) (k+1) (P++[qY kd sd x1 z1 z2 z3 z4 z5 rv fk fs fm (ae A8 dJ.length n8) fl p ot ob]).flatten/\Fit (mE W) ((L.take (k+1)).map λc=>(M.jO c).1) (P++[qY kd sd x1 z1 z2 z3 z4 z5 rv fk fs fm (ae A8 dJ.length n8) fl p ot ob])/\W.ownsRow w.heap.size 29 1 (ae A7 k c7) k (((L.take k).map λc=>(M.jO c).2).map (J V)) /\
     (W.ownsRow w.heap.size 286 3 (ae (Z ⟨g4,0,I⟩) L.length c4) L.length q.flatten/\Fit (lh W) L q)/\aC w W) ⟨F,X,aI,⟨df,eI⟩,gX⟩ ?_
    clear F X aI df eI gX Ti y g5 TE E HT f m j t u G hZ t0 t1 t2 t3 t4 t5 t6 t7 t8 t9 t10 t11 t12 t13 t14 t15 t16;rintro W ⟨H,K,C,⟨oc,Q⟩,N⟩;generalize P++[qY kd sd x1 z1 z2 z3 z4 z5 rv fk fs fm (ae A8 dJ.length n8) fl p ot ob]=qj at H K;obtain⟨f,m,j,t,u,G⟩:=lH H K C oc Q N;have hZ:=N.size;clear H K C oc Q N;go_upto_region 12 with(at_builtin;go_loud (refine dV _ rfl _ _ 391 rfl w.heap.size 29 i1 (J V 0) 1 8 underlying391 HJ.O Tv.O Tw.O Tx.O rfl aR _ _ _ rfl (eH j.O _) ⟨W.heap.size,0,I⟩ 1 1 [J V it.2] rfl rfl (fB W 29 _) tk ui z dZ ?_;intro v5 w5 y g5 E))
    have aI:w5.ownsRow w.heap.size 29 1 v5 (k+1) (((L.take (k+1)).map λc=>(M.jO c).2).map (J V)):=by
     rw[T.O,fL,fL];have e:=Tg.O;subst e;exact y
    have Tj:=pn (eH f.O _) (eH j.O _) aR g5;have df:=pn (eH t.O _) (eH j.O _) aR g5;have X:Fit (mE w5) ((L.take (k+1)).map λc=>(M.jO c).1) qj:=m.O.mono (λx c h=>h.map (λg dx h=>mQ (eH j.O _) g5 aR _ _ (h.alloc _)));have eI:Fit (lh w5) L q:=u.O.mono (λx c h=>(h.below ((ao _ _).alloc (aj _) _)).typed (eT g5) (ib (eH j.O _)) aR);have gX:=tf (G.O.alloc G.O.size _) (eH j.O _) (aj _) g5;obtain⟨Tk,Tl,Tm,Tn,To,TF⟩:=lH Tj X aI df eI gX;clear Tj X aI df eI gX y g5 E f m j t u G;go_wp2_with fail;go_roundw;case rel=>exact⟨k+1,qj,by go_num,z,Tk.O,Tl.O,Tm.O,⟨Tn.O,To.O⟩,TF.O⟩
    case measure=>simp[bS];omega
   ·have TG:k=L.length:=z;subst TG;rw[cT]at K C;have f:=au H;have m:=au K;have G:=au N;have HH:=au Tc.O;have SQ:=BC A7 L.length c7 (L.map λc=>(M.jO c).2) wr dt (by
     intro h0
     obtain⟨r,e,_⟩:=xn (k:=0) C (x:=J V ((L.map λc=>(M.jO c).2).getD 0 0)) (by cases L with|nil=>simp at h0|cons a l=>rfl)
     refine⟨r,e,λi hi=>?_⟩
     obtain⟨r',e',hc,_⟩:=xn (k:=i) C (x:=J V ((L.map λc=>(M.jO c).2).getD i 0)) (by rw[dE,bE,ay (by simpa using hi)];rfl)
     rw[e]at e';cases e';exact hc) (uO C).1 (uO C).2
    have SU:o=if M.nj (L.map λc=>(M.jO c).2)≠0 then I else Z (L.flatMap λc=>(M.jO c).1):=HO.O
    obtain⟨fe,SM⟩:=dH (M.nj (L.map λc=>(M.jO c).2));rw[<-SM]at SQ SU;obtain⟨Tp,Tq⟩:=bu SQ SU;clear H K C oc Q N SQ SU SM HO;by_cases h0:fe=0
    ·subst h0;have hr:=Tq.O;rw[if_neg dt]at hr;have HR:=au hr;clear hr;go_wp2_with (go_at_call 227;refine Tp.O.mono ?_;rintro e w2 ⟨rfl,hw⟩;have SV:=hw.symm;subst SV);refine ax (ew rfl _ _ _) rfl ?_;rw[HR.O];refine⟨⟨_,L.map λc=>(M.jO c).1,P,rfl,by simpa using f.O,m.O,by rw[List.flatMap_def],by simpa using HH.O⟩,G.O⟩
    ·have TN:(fe==0)=false:=by simpa using h0
     have hr:=Tq.O;rw[if_pos h0]at hr;obtain⟨HR,H0⟩:=bu hr h0;clear hr h0;go_wp2_with (go_at_call 227;refine Tp.O.mono ?_;rintro e w2 ⟨rfl,hw⟩;have SV:=hw.symm;subst SV);refine ax (ew rfl _ _ _) rfl ?_;rw[HR.O];exact⟨⟨_,fe,rfl,H0.O⟩,G.O⟩
section
def CN:(af.info? 41).map (λi=>(i.zero,i.size,i.bytes))=Z (Z (J ar 0),1,4):=cC
structure wX(w W:aw)(base:Nat)(A:Option Addr)(c:Nat)(nT:List (List Int))(q:List (List Value)):Prop where
 own:W.ownsRow base 288 17 (ae A nT.length c) nT.length q.flatten
 fit:Fit (mE W) nT q
 fN:aC w W
section
variable {w W W':aw} {base:Nat} {A:Option Addr} {c:Nat} {nT:List (List Int)} {q:List (List Value)}
def wX.below(h:wX w W base A c nT q)(b:aC W W'):wX w W' base A c nT q:=
 ⟨gI h.own b,h.fit.mono (λx c k=>k.map (λg dx a=>a.kept b)),h.fN.trans (b.mono h.fN.size)⟩
def wX.alloc(h:wX w W base A c nT q)(o:Obj):wX w (W.alloc o) base A c nT q:=h.below ((ao _ _).alloc (aj _) o)
def wX.grown(h:wX w W base A c nT q){v:Value}{m:Nat}{xs:List Value}(k:W.ownsRow w.heap.size 41 1 v m xs)(g:W.grownBy W' v.ownBlock):wX w W' base A c nT q:=
 ⟨pn h.own k aR g,h.fit.mono (λx c a=>a.map (λb dx y=>mQ k g aR _ _ y)),tf h.fN k (aj _) g⟩
end
def zQ:∀{nT:List (List Int)} {W:aw} {q:List (List Value)},Fit (mE W) nT q->nT.flatten.length<=30*nT.length
 |[],_,[],_=>dt
 |x::nT,W,c::q,h=>by
  have:=zQ h.2;have:=h.1.SD;rw[List.flatten_cons,cG,List.length_cons];omega
 |[],_,_::_,h=>h.elim
 |_::_,_,[],h=>h.elim
def Ku(base:Nat)(A:Option Addr)(c:Nat)(nT:List (List Int))(q:List (List Value))(w:aw)(own:w.ownsRow base 288 17 (ae A nT.length c) nT.length q.flatten)(fit:Fit (mE w) nT q)(SZ:nT.length<=60) :
  aF af 179 #[ae A nT.length c] w λe w'=>∃v,e=av v/\w'.ownsRow w.heap.size 41 1 v nT.flatten.length (nT.flatten.map (J ar))/\aC w w':=by
 have S0:wX w w base A c nT q:=⟨own,fit,ao _ _⟩;obtain⟨i0,hi,N,P,Q⟩:=cY CN;obtain⟨HI,R,T,U,HS⟩:=gY hi N P Q S0;clear own fit S0 hi N P Q;go_enter func179,ntmps179;go_wp2_with fail;go_loopw [3,10] (λv i wr=>∃(k:Nat),i=J V k/\k<=nT.length/\wr.ownsRow w.heap.size 41 1 v (nT.take k).flatten.length ((nT.take k).flatten.map (J ar))/\wX w wr base A c nT q) (λ_ i _=>nT.length-(bS i).toNat);case atStart=>exact⟨0,rfl,z,⟨rfl,aJ ⟨rfl,rfl⟩⟩,HS.O⟩
 case round =>
  clear HS;obtain⟨k,rfl,hk,own,S⟩:=hrel;obtain⟨A3,c3,rfl⟩:=bA own;by_cases SO:k<nT.length
  ·have Ta:((k:Int)<(nT.length:Int)):=z;obtain⟨l,cl,p,W,hit⟩:=S.fit.MD SO;obtain⟨g,cap,dx,e,_,Tb,_,X,_,s⟩:=Cz S.own (S.fit.len (λx c h=>h.len)) z;injection e with e1 e2 e3
   subst e1 e3;have D:(nT.take (k+1)).flatten=(nT.take k).flatten++l:=by rw[ee,p];simp
   have SP:(nT.take k).flatten.length<=1800:=by
    have h1:=zQ S.fit;have h2:nT.flatten=(nT.take k).flatten++(nT.drop k).flatten:=by rw[<-List.flatten_append,List.take_append_drop]
    rw[h2,cG]at h1;omega
   obtain⟨kd,sd,x1,y1,y2,y3,y4,y5,rv,E,fs,M,fa,fl,oc,ot,ob,dJ,rfl,d,hle,Tc⟩:=hit;have aI:=λj (hj:j<17)=>s k _ W j hj;generalize (nT.take k).flatten=r at own D SP ⊢;obtain⟨df,eI⟩:=bu X aI;obtain⟨F,n6,rfl,gX,mK,SQ,C⟩:=d;have b:Hd (mH wr (ae F dJ.length n6) dJ):=au ⟨F,n6,rfl,gX,mK,SQ,C⟩;obtain⟨u,G,f,HS⟩:=cA D hle own S;clear own S D hle aI s p W C gX mK X;go_upto_region 5 with(go_big_may;refine lI _ rfl (.tmp 12) 288 rfl g (k*17) 288 dx rfl (qY kd sd x1 y1 y2 y3 y4 y5 rv E fs M (ae F dJ.length n6) fl oc ot ob).toArray _ underlying288 qv df.O (λj hj=>by simpa using eI.O j hj) ?_)
   obtain⟨r5,e5⟩:=dH wr.heap.size;rw[<-e5];have B:aC wr (wr.alloc (.cells (qY kd sd x1 y1 y2 y3 y4 y5 rv E fs M (ae F dJ.length n6) fl oc ot ob).toArray 288)):=(ao _ _).alloc (aj _) _;refine aW (λY=>aK Y r5 288 (qY kd sd x1 y1 y2 y3 y4 y5 rv E fs M (ae F dJ.length n6) fl oc ot ob).toArray/\Y.ownsRow w.heap.size 41 1 (ae A3 r.length c3) r.length (r.map (J ar))/\wX w Y base (Z ⟨g,0,I⟩) c nT q/\mH Y (ae F dJ.length n6) dJ) ⟨aK.newAt _ _ _ _ e5,gI f.O B,HS.O.below B,b.O.map (λg dx h=>h.kept B)⟩ ?_;clear e5 B f HS b df eI;rintro Y ⟨b5,own,S,d⟩;have k0:=b5.cell 0;have k9:=b5.cell 9;have SG:=b5.cell 11;have SH:=b5.cell 12;simp at k0 k9 SG SH;have hY:=S.fN.size;obtain⟨f,HS,b,SI⟩:=cA own S d b5;clear own S d b5;by_cases h2:kd=2;rotate_left
   ·have Td:(kd==2)=false:=by simpa using h2
    have p:l=[]:=by rw[G.O,if_neg h2]
    have H:=au p;clear h2 p;go_wp2_with fail;go_roundw;case rel=>exact⟨k+1,by go_num,z,by rw[u.O,H.O];simpa using f.O,HS.O⟩
    case measure=>simp[bS];omega
   have hle:=G.O;rw[if_pos h2]at hle;have m:=au hle;subst h2;clear hle G;by_cases h1:E=1
   ·have p:l=[M]:=by rw[m.O,if_pos h1]
    have H:=au p;subst h1;clear p m;go_wp2_with (at_builtin;go_loud (refine dV _ rfl _ _ 74 rfl w.heap.size 41 i0 (J ar 0) 1 4 underlying74 HI.O R.O T.O U.O rfl aR _ _ _ rfl (eH f.O _) ⟨Y.heap.size,0,I⟩ 1 1 [J ar M] rfl rfl (fB Y 41 _) tk ui z dZ ?_;intro v5 w5 n g5 o));have a:w5.ownsRow w.heap.size 41 1 v5 (nT.take (k+1)).flatten.length ((nT.take (k+1)).flatten.map (J ar)):=by rw[u.O,H.O];simpa using n
    have S6:=(HS.O.alloc (.cells #[J ar M] 41)).grown (eH f.O _) g5;obtain⟨t,K⟩:=bu a S6;clear a S6 n g5 o f HS SI;go_wp2_with fail;go_roundw;case rel=>exact⟨k+1,by go_num,z,t.O,K.O⟩
    case measure=>simp[bS];omega
   have SU:(E==1)=false:=by simpa using h1
   have hle:=m.O;rw[if_neg h1]at hle;by_cases h3:E=2;rotate_left
   ·have Te:(E==2)=false:=by simpa using h3
    have p:l=[]:=by rw[hle,if_neg h3]
    have H:=au p;clear h3 h1 p hle m;go_wp2_with fail;go_roundw;case rel=>exact⟨k+1,by go_num,z,by rw[u.O,H.O];simpa using f.O,HS.O⟩
    case measure=>simp[bS];omega
   have p:l=dJ:=by rw[hle,if_pos h3]
   have H:=au p;subst h3;clear h1 p hle m SU;go_wp2_with fail;go_loopw [3,34] (λv i wr=>∃(j:Nat),i=J V j/\j<=dJ.length/\wr.ownsRow w.heap.size 41 1 v (r++dJ.take j).length ((r++dJ.take j).map (J ar))/\wX w wr base (Z ⟨g,0,I⟩) c nT q/\mH wr (ae F dJ.length n6) dJ) (λ_ i _=>dJ.length-(bS i).toNat);case atStart=>exact⟨0,rfl,z,by simpa using f.O,HS.O,b.O⟩
   case round =>
    clear f HS b SI k0 k9 SG SH hY;obtain⟨j,rfl,hj,own,S,d⟩:=hrel;obtain⟨A7,c7,rfl⟩:=bA own;by_cases SV:j<dJ.length
    ·have Tf:((j:Int)<(dJ.length:Int)):=z;obtain⟨A8,c8,e8,_,_,_,hh⟩:=d;injection e8 with e8 e9 SW
     subst e8 SW;obtain⟨gx,dx,rfl,hB,SJ⟩:=hh z;have hx:dJ[j]? = Z dJ[j]:=ay SV;obtain⟨h1,y,h2⟩:=SJ j _ hx;have m0:=hB.cell (j*2);have m1:=hB.cell (j*2+1);rw[h1]at m0;rw[h2]at m1;have SK:dJ.take (j+1)=dJ.take j++[dJ[j]]:=by rw[ee,hx];rfl
     have SL:=au SK;generalize dJ[j]=x at m0 SL hx h1;obtain⟨f,HS⟩:=bu own S;have b:Hd (mH wr (ae (Z ⟨gx,0,I⟩) dJ.length n6) dJ):=au ⟨_,_,rfl,z,z,z,hh⟩;have Tg:(r++dJ.take j).length<=1830:=by rw[cG,ix];omega
     have hq:=S.fN.size;clear own S hh SJ hx h1 h2 SK;go_upto_region 13 with fail;obtain⟨r7,e7⟩:=dH wr.heap.size;rw[<-e7];have B:aC wr (wr.alloc (.cells #[J ar x,J bI y] 396)):=(ao _ _).alloc (aj _) _;refine aW (λL=>aK L r7 396 #[J ar x,J bI y]/\L.ownsRow w.heap.size 41 1 (ae A7 (r++dJ.take j).length c7) (r++dJ.take j).length ((r++dJ.take j).map (J ar))/\wX w L base (Z ⟨g,0,I⟩) c nT q/\mH L (ae (Z ⟨gx,0,I⟩) dJ.length n6) dJ) ⟨aK.newAt _ _ _ _ e7,gI f.O B,HS.O.below B,b.O.map (λg dx h=>h.kept B)⟩ ?_;clear e7 B f HS b m0 m1 hB hq;rintro L ⟨b7,own,S,d⟩;have p0:=b7.cell 0;simp at p0;have hZ:=S.fN.size;obtain⟨f,HS,b⟩:=bU own S d;clear own S d b7;go_wp2_with (at_builtin;go_loud (refine dV _ rfl _ _ 74 rfl w.heap.size 41 i0 (J ar 0) 1 4 underlying74 HI.O R.O T.O U.O rfl aR _ _ _ rfl (eH f.O _) ⟨L.heap.size,0,I⟩ 1 1 [J ar x] rfl rfl (fB L 41 _) tk ui z dZ ?_;intro v5 w5 n g5 o));have a:w5.ownsRow w.heap.size 41 1 v5 (r++dJ.take (j+1)).length ((r++dJ.take (j+1)).map (J ar)):=by
      rw[SL.O,<-List.append_assoc,cG,fL];exact n
     have S6:=(HS.O.alloc (.cells #[J ar x] 41)).grown (eH f.O _) g5;have SM:=b.O.map (λg' dx h=>mQ (eH f.O (.cells #[J ar x] 41)) g5 aR _ _ (h.alloc _));obtain⟨t,K,SN⟩:=bU a S6 SM;clear a S6 SM n g5 o f HS b p0;go_wp2_with fail;go_roundw;case rel=>exact⟨j+1,by go_num,z,t.O,K.O,SN.O⟩
     case measure=>simp[bS];omega
    ·have SX:j=dJ.length:=z;subst SX;rw[cT]at own;have a:wr.ownsRow w.heap.size 41 1 (ae A7 (r++dJ.take dJ.length).length c7) (nT.take (k+1)).flatten.length ((nT.take (k+1)).flatten.map (J ar)):=by rw[u.O,H.O,cT];simpa using own
     obtain⟨t,HS⟩:=bu a S;clear own a S d;go_wp2_with fail;go_roundw;case rel=>exact⟨k+1,by go_num,z,t.O,HS.O⟩
     case measure=>simp[bS];omega
  ·have SY:k=nT.length:=z;subst SY;rw[cT]at own;have a:wr.ownsRow w.heap.size 41 1 (ae A3 (nT.take nT.length).flatten.length c3) nT.flatten.length (nT.flatten.map (J ar)):=by rw[cT];simpa using own
   obtain⟨f,HB⟩:=bu a S.fN;clear own a S;go_wp2_with fail;go_ret;exact⟨_,rfl,f.O,HB.O⟩
end
def xf(st s:Int)(w:aw):aF af 112 #[cg #[J V st,J V s]] w λe w'=>e=av (J V (if st=2 then 1 else if st=3 then 2 else 3))/\aC w w':=by
 by_cases h2:st=2
 ·subst h2;go_enter func112,ntmps112;go_wp2_with fail;go_ret;exact⟨dt,(ao _ w).alloc (aj _) _⟩
 ·have d2:(st==2)=false:=by simpa using h2
  by_cases h3:st=3
  ·subst h3;go_enter func112,ntmps112;go_wp2_with fail;go_ret;exact⟨dt,(ao _ w).alloc (aj _) _⟩
  ·have d3:(st==3)=false:=by simpa using h3
   go_enter func112,ntmps112;go_wp2_with fail;go_ret;exact⟨by simp[h2,h3],(ao _ w).alloc (aj _) _⟩
def Kx(st s:Int)(w:aw)(h:0<=st/\st<=4):aF af 119 #[cg #[J V st,J V s]] w λe w'=>e=av (aB #[pv ((M.ahead (st,s)).getD (0,0)),ai (M.ahead (st,s)).isSome])/\aC w w':=by
 have a:aC w ((w.alloc (.cells #[J V st,J V s] 40)).alloc (.cells #[J V 0,J V 0] 40)):=((ao _ w).alloc (aj _) _).alloc dt _;rcases(z:st=0\/st=1\/st=2\/st=3\/st=4) with rfl|rfl|rfl|rfl|rfl
 ·go_enter func119,ntmps119;go_wp2_with fail;refine ax (v:=aB #[cg #[J V 0,J V 0],ai false]) (by simp[aV,results119,go_sem]) rfl ⟨rfl,?_⟩;first
   |exact((ao _ w).alloc (aj _) _).alloc dt _
   |exact(a.setCell (p:=⟨w.heap.size+1,0,I⟩) dt _).setCell (p:=⟨w.heap.size+1,1,I⟩) dt _
 ·go_enter func119,ntmps119;go_wp2_with fail;refine ax (v:=aB #[cg #[J V 0,J V 0],ai true]) (by simp[aV,results119,go_sem]) rfl ⟨rfl,?_⟩;first
   |exact((ao _ w).alloc (aj _) _).alloc dt _
   |exact(a.setCell (p:=⟨w.heap.size+1,0,I⟩) dt _).setCell (p:=⟨w.heap.size+1,1,I⟩) dt _
 ·go_enter func119,ntmps119;go_wp2_with fail;refine ax (v:=aB #[cg #[J V 1,J V 0],ai true]) (by simp[aV,results119,go_sem]) rfl ⟨rfl,?_⟩;first
   |exact((ao _ w).alloc (aj _) _).alloc dt _
   |exact(a.setCell (p:=⟨w.heap.size+1,0,I⟩) dt _).setCell (p:=⟨w.heap.size+1,1,I⟩) dt _
 ·go_enter func119,ntmps119;go_wp2_with fail;refine ax (v:=aB #[cg #[J V 2,J V s],ai true]) (by simp[aV,results119,go_sem]) rfl ⟨rfl,?_⟩;first
   |exact((ao _ w).alloc (aj _) _).alloc dt _
   |exact(a.setCell (p:=⟨w.heap.size+1,0,I⟩) dt _).setCell (p:=⟨w.heap.size+1,1,I⟩) dt _
 ·go_enter func119,ntmps119;go_wp2_with fail;refine ax (v:=aB #[cg #[J V 3,J V s],ai true]) (by simp[aV,results119,go_sem]) rfl ⟨rfl,?_⟩;first
   |exact((ao _ w).alloc (aj _) _).alloc dt _
   |exact(a.setCell (p:=⟨w.heap.size+1,0,I⟩) dt _).setCell (p:=⟨w.heap.size+1,1,I⟩) dt _
end Go.Proofs.YtkfblammcilfhaaGreatDoor
