import Derived.Below
import Derived.Carry
import Derived.HandedShaped
import Derived.Handed
import Derived.LaidLaws
import Derived.Lay
import Derived.Stop.LaidErr
import Derived.MakeChecks
import Derived.Shelf.Vars
import Derived.Lib.LaidTab
import Derived.Test.YtkfblammcilfhaaGreatDoorP16
import Derived.Test.YtkfblammcilfhaaGreatDoorP19
set_option linter.all false
set_option maxRecDepth 100000
set_option maxHeartbeats 100000000
open Go.ChangeShapes Go.WideShapes Go.ChangeAt Go.RowKit Go.Proofs.Tryz
open Go.Lit renaming int->dU,wf->pD
open Go renaming World->aw,Calls->aF,bodyPost_ret->ax,results_tmp2->ew,wpList_load_mid->gQ,Program->jB,MemPlace->tE
open Bool renaming and_eq_true->cM
open Go.Proofs.Tryz renaming prog->af
open Go.RowKit.Below renaming refl->ao
open Nat renaming le_refl->aj,lt_of_lt_of_le->iU,zero_mul->qA,add_mul->jG,zero_add->cO
open Go.RowKit renaming intOf->bS
open List renaming getElem?_eq_getElem->ay,getElem_mem->dy,mem_append->bt,any_eq_false->oA,take_of_length_le->dC,mem_cons->fw,range->kq,mem_map->eU,getElem?_map->dE,drop_zero->mI,getElem?_eq_some_iff->aS,pairwise_append->ef,pairwise_cons->cv
open Go.DataW renaming trod->mL
open Option.some renaming injEq->bf
open Go.IntKind renaming min->jI,max->jJ,signed->fR,bits->gM,u16->aN,wrap->iN,u32->ar,i64->V,u8->bI
open Array renaming getElem?_setIfInBounds_ne->gi
open Go.Value renaming bool->ai,int->J,slice->ae,pointer->aq,tuple->aB,agg->cg
open Go.Act renaming put->aA
open Go.Ending renaming returned->av
open Option renaming none->I,some->Z
namespace Go.Proofs.YtkfblammcilfhaaGreatDoor
abbrev jQ(x:M.Act)(b:Sl):Array Value:=#[J V x.nv,J V x.sub,J V x.jo,J V x.aY,ae b.a b.n b.c,J V x.w.1,J V x.w.2,ai x.fq,J ar x.own,J ar x.aU,J aN x.dQ,J ar x.s0,J ar x.s1,J ar x.s2]
structure Nf(x:M.Act):Prop where
 ok:x.Ok
 sub:(dU V x.sub).wf=true
 src:(0<=x.s0/\x.s0<=4294967295)/\(0<=x.s1/\x.s1<=4294967295)/\0<=x.s2/\x.s2<=4294967295
def wY(B:RB)(w:aw)(R:M.Room)(N:Nat)(x:M.Act)(e:Ending)(w':aw):Prop:=
 ∃B',e=av (aB #[J V (R.act x).2.1,ai (R.act x).2.2])/\aL w' B' (R.act x).1 (N+20)/\fK w w' B B'
def Fq{x:Int}(h:0<=x/\x<=4294967295):Ng x:=by unfold Ng pD;rw[cM,decide_eq_true_iff,decide_eq_true_iff];exact⟨h.1,h.2⟩
def K9{B:RB}{R:M.Room}{N:Nat}{w:aw}(h:aL w B R N){G:Int->M.ij}{n:Nat}(b:M.lG R G n)(i:N<600000) :
  aF af 37 #[aq (Z ⟨B.g,0,I⟩)] w (kk B w (J V R.tick.2) R.tick.1 (N+20)):=by
 cases a:R.cN with
 |true =>
  refine(Cl h a).mono ?_;rintro e w' ⟨c,d,rfl⟩;exact⟨B,c,by rw[d];exact h.mono z,fK.refl _ _⟩
 |false =>
  have f:R.tick.2=0:=by unfold M.Room.tick;rw[a];rfl
  rw[f];exact Jc h a (Bs b) (Ml b) z
def xF{B:RB}{R:M.Room}{N:Nat}{w:aw}(h:aL w B R N){G:Int->M.ij}{n:Nat}(hk:M.lG R G n)(hn:n<=1000)(hN:N<600000)(x:M.Act)(hx:Nf x)(s:Sl)(p:pL w s.a s.n s.c x.b)(hl:s.n<=400) :
  aF af 14 #[aq (Z ⟨B.g,0,I⟩),cg (jQ x s)] w (wY B w R N x):=by
 obtain⟨H,v,u,HB⟩:=cA h hk hx p;have A:=h.lt;clear h hk hx p;go_enter func14,ntmps14;go_upto_region 1 with fail;obtain⟨r3,C⟩:=dH w.heap.size;rw[<-C];have al:aC w (w.alloc (.cells (jQ x s) 45)):=(ao _ w).alloc (aj _) _;refine aW (λX=>aK X r3 45 (jQ x s)/\aC w X) ⟨aK.newAt _ _ _ _ C,al⟩ ?_;clear al C;rintro X ⟨b3,y⟩;have h:=H.O.below y;have p:=HB.O.below y;have hS:=fK.fN B y;have r:=b3.cell 0;have k1:=b3.cell 1;have k2:=b3.cell 2;have k3:=b3.cell 3;have k4:=b3.cell 4;have k5:=b3.cell 5;have k6:=b3.cell 6;have k7:=b3.cell 7;have k8:=b3.cell 8;have k9:=b3.cell 9;have D:=b3.cell 10;have E:=b3.cell 11;have F:=b3.cell 12;have K:=b3.cell 13;simp at r k1 k2 k3 k4 k5 k6 k7 k8 k9 D E F K;have HS:=au hS;clear y b3 H HB hS A;by_cases k:0<=x.nv/\x.nv<=8
 ·have L:x.nv=0\/x.nv=1\/x.nv=2\/x.nv=3\/x.nv=4\/x.nv=5\/x.nv=6\/x.nv=7\/x.nv=8:=z;clear k;rcases L with k|k|k|k|k|k|k|k|k
  ·have d:R.act x=((R.fT x.b).1,(R.fT x.b).2,false):=by unfold M.Room.act;simp only[k];rfl
   rw[k]at r;obtain⟨o,f⟩:=bu (tO h s x.b p hl z) d;clear d k h p;go_wp2_with (go_at_call 26;refine o.O.mono ?_;rintro e t ⟨B',rfl,i,j⟩;have l:=au i;have m:=au j;clear i j);refine ax (ew rfl _ _ _) rfl ?_;exact⟨B',by rw[f.O];rfl,by rw[f.O];exact l.O.mono z,HS.O.trans m.O⟩
  ·have d:R.act x=((R.pick x.w x.fq).1,0,(R.pick x.w x.fq).2):=by unfold M.Room.act;simp only[k];rfl
   rw[k]at r;obtain⟨o,f⟩:=bu (sY h x.w.1 x.w.2 x.fq (ta v.O hn) z) d;clear d k h p;go_wp2_with (go_at_call 25;refine o.O.mono ?_;rintro e t ⟨B',rfl,i,j⟩;have l:=au i;have m:=au j;clear i j);refine ax (ew rfl _ _ _) rfl ?_;exact⟨B',by rw[f.O];rfl,by rw[f.O];exact l.O.mono z,HS.O.trans m.O⟩
  ·have d:R.act x=(R.tick.1,R.tick.2,false):=by unfold M.Room.act;simp only[k];rfl
   rw[k]at r;obtain⟨o,f⟩:=bu (K9 h v.O hN) d;clear d k h p;go_wp2_with (go_at_call 37;refine o.O.mono ?_;rintro e t ⟨B',rfl,i,j⟩;have l:=au i;have m:=au j;clear i j);refine ax (ew rfl _ _ _) rfl ?_;exact⟨B',by rw[f.O];rfl,by rw[f.O];exact l.O.mono z,HS.O.trans m.O⟩
  ·have d:R.act x=((R.gg x.jo x.s0 x.s1 x.s2).1,(R.gg x.jo x.s0 x.s1 x.s2).2,false):=by unfold M.Room.act;simp only[k];rfl
   rw[k]at r;obtain⟨o,f⟩:=bu (vZ h x.jo x.s0 x.s1 x.s2 z (Fq u.O.src.1) (Fq u.O.src.2.1) (Fq u.O.src.2.2)) d;clear d k h p;go_wp2_with (go_at_call 38;refine o.O.mono ?_;rintro e t ⟨B',rfl,i,j⟩;have l:=au i;have m:=au j;clear i j);refine ax (ew rfl _ _ _) rfl ?_;exact⟨B',by rw[f.O];rfl,by rw[f.O];exact l.O.mono z,HS.O.trans m.O⟩
  ·have d:R.act x=((R.iJ x.sub x.own x.dQ x.aU).1,(R.iJ x.sub x.own x.dQ x.aU).2,false):=by unfold M.Room.act;simp only[k];rfl
   rw[k]at r;obtain⟨o,f⟩:=bu (Ba h x.sub x.own x.dQ x.aU z (lE u.O.ok.own) (lE u.O.ok.dQ) (lE u.O.ok.aU)) d;clear d k h p;go_wp2_with (go_at_call 39;refine o.O.mono ?_;rintro e t ⟨B',rfl,i,j⟩;have l:=au i;have m:=au j;clear i j);refine ax (ew rfl _ _ _) rfl ?_;exact⟨B',by rw[f.O];rfl,by rw[f.O];exact l.O.mono z,HS.O.trans m.O⟩
  ·have d:R.act x=((R.dN x.sub x.jo x.aY).1,(R.dN x.sub x.jo x.aY).2,false):=by unfold M.Room.act;simp only[k];rfl
   rw[k]at r;obtain⟨o,f⟩:=bu (uw h x.sub x.jo x.aY u.O.sub z (λq=>by rw[<-v.O.inv.lu];exact q)) d;clear d k h p;go_wp2_with (go_at_call 40;refine o.O.mono ?_;rintro e t ⟨B',rfl,i,j⟩;have l:=au i;have m:=au j;clear i j);refine ax (ew rfl _ _ _) rfl ?_;exact⟨B',by rw[f.O];rfl,by rw[f.O];exact l.O.mono z,HS.O.trans m.O⟩
  ·have d:R.act x=((R.iy x.sub x.aY).1,(R.iy x.sub x.aY).2,false):=by unfold M.Room.act;simp only[k];rfl
   rw[k]at r;obtain⟨o,f⟩:=bu (Jb h x.sub x.aY (λq=>by rw[<-v.O.inv.lu];exact q)) d;clear d k h p;go_wp2_with (go_at_call 41;refine o.O.mono ?_;rintro e t ⟨B',rfl,i,j⟩;have l:=au i;have m:=au j;clear i j);refine ax (ew rfl _ _ _) rfl ?_;exact⟨B',by rw[f.O];rfl,by rw[f.O];exact l.O.mono z,HS.O.trans m.O⟩
  ·have d:R.act x=((R.jE x.sub).1,(R.jE x.sub).2,false):=by unfold M.Room.act;simp only[k];rfl
   rw[k]at r;obtain⟨o,f⟩:=bu (FP h x.sub z) d;clear d k h p;go_wp2_with (go_at_call 42;refine o.O.mono ?_;rintro e t ⟨B',rfl,i,j⟩;have l:=au i;have m:=au j;clear i j);refine ax (ew rfl _ _ _) rfl ?_;exact⟨B',by rw[f.O];rfl,by rw[f.O];exact l.O.mono z,HS.O.trans m.O⟩
  ·have d:R.act x=(R.fU.1,R.fU.2,false):=by unfold M.Room.act;simp only[k];rfl
   rw[k]at r;obtain⟨o,f⟩:=bu (An h) d;clear d k h p;go_wp2_with (go_at_call 43;refine o.O.mono ?_;rintro e t ⟨rfl,i,j⟩;have l:=au i;have m:=au j;clear i j);refine ax (ew rfl _ _ _) rfl ?_;exact⟨B,by rw[f.O];rfl,by rw[f.O];exact l.O.mono z,HS.O.trans m.O⟩
 ·have P:¬x.nv=0:=z;have Q:¬x.nv=1:=z;have S:¬x.nv=2:=z;have T:¬x.nv=3:=z;have U:¬x.nv=4:=z;have W:¬x.nv=5:=z;have Y:¬x.nv=6:=z;have ec:¬x.nv=7:=z;have nB:¬x.nv=8:=z;have d:R.act x=(R,0,false):=by
   unfold M.Room.act;rw[if_neg P,if_neg Q,if_neg S,if_neg T,if_neg U,if_neg W,if_neg Y,if_neg ec,if_neg nB]
  obtain⟨f,HR⟩:=bu d h;clear d h p k;go_wp2_with fail;refine ax (ew rfl _ _ _) rfl ?_;exact⟨B,by rw[f.O];rfl,by rw[f.O];exact HR.O.mono z,HS.O⟩
section
def Fi(w:aw)(b o:Nat)(x:M.Act):Prop:=∃d:Sl,w.rangeAt b o (jQ x d).toList/\pL w d.a d.n d.c x.b
def pZ(w:aw)(A:Option Addr)(n:Nat)(l:List M.Act):Prop:=
 l.length=n/\(∀x∈l,Nf x)/\(0<n->∃b off,A=Z ⟨b,off,I⟩/\∀(i:Nat) x,l[i]? = Z x->Fi w b (off+i*14) x)
def Fi.tc{w w':aw}{b o:Nat}{x:M.Act}(h:Fi w b o x)(a:∀g i v,w.cell? ⟨g,i,I⟩=Z v->w'.cell? ⟨g,i,I⟩=Z v):Fi w' b o x:=by
 obtain⟨c,h1,h2⟩:=h;exact⟨c,λj v d=>a _ _ _ (h1 j v d),⟨h2.len,h2.wf,λh0=>by
  obtain⟨g,off,e,k⟩:=h2.cells h0
  exact⟨g,off,e,λi f=>a _ _ _ (k i f)⟩,h2.zero⟩⟩
def pZ.tc{w w':aw}{A:Option Addr}{n:Nat}{l:List M.Act}(h:pZ w A n l)(a:∀g i v,w.cell? ⟨g,i,I⟩=Z v->w'.cell? ⟨g,i,I⟩=Z v):pZ w' A n l:=by
 obtain⟨h1,h2,h3⟩:=h;refine⟨h1,h2,λh0=>?_⟩;obtain⟨b,off,e,k⟩:=h3 h0;exact⟨b,off,e,λi x c=>(k i x c).tc a⟩
def pZ.below{w w':aw}{A:Option Addr}{n:Nat}{l:List M.Act}(h:pZ w A n l)(b:aC w w'):pZ w' A n l:=h.tc λ_ _ _ q=>aM b q
def pV:(af.info? 45).map (·.size)=Z 14:=cC
def qV(l:List M.Act):Bool:=decide (120<l.length)||l.any λx=>decide (400<x.b.length)
def xt(A:Option Addr)(n c:Nat)(l:List M.Act)(w:aw)(h:pZ w A n l):aF af 10 #[ae A n c] w λe w'=>e=av (ai (qV l))/\aC w w':=by
 obtain⟨h1,h2,h3⟩:=h;by_cases E:120<n
 ·have e:qV l=true:=by unfold qV;rw[h1,decide_eq_true E];rfl
  rw[e];clear h2 h3 e h1;go_enter func10,ntmps10;have hw:(120:Int)<(n:Int):=z;go_wp2_with fail;go_ret;exact⟨rfl,ao _ _⟩
 ·have e:qV l=l.any λx=>decide (400<x.b.length):=by unfold qV;rw[h1,decide_eq_false E];rfl
  obtain⟨res,a⟩:=dH (qV l);rw[<-a];rw[e]at a;obtain⟨F,L⟩:=bu a h3;have hw:¬(120:Int)<(n:Int):=z;clear h2 h3 e a;go_enter func10,ntmps10;go_wp2_with fail;go_loopw [10] (λi wr=>∃k:Nat,i=J V k/\k<=n/\(∀x∈l.take k,decide (400<x.b.length)=false)/\aC w wr) (λi _=>n-(bS i).toNat);case atStart=>exact⟨0,rfl,z,λx B=>by simp at B,ao _ _⟩
  case round =>
   obtain⟨k,rfl,U,u,s⟩:=hrel;by_cases N:k<n
   ·have P:((k:Int)<(n:Int)):=z;obtain⟨b,off,rfl,G⟩:=L.O z;have g:k<l.length:=z;obtain⟨p,t,H⟩:=G k l[k] (ay g);have t:wr.rangeAt b (off+k*14) (jQ l[k] p).toList:=λj v Q=>aM s (t j v Q);have hlen:=H.len;have m:l.take (k+1)=l.take k++[l[k]]:=List.take_succ_eq_append_getElem g;have d:l[k]∈l:=dy g;generalize l[k]=x at t hlen m d;obtain⟨K,R,S,r,T⟩:=gY t m u s d;clear G t H m u s d;by_cases f:400<p.n
    ·have C:(400:Int)<(p.n:Int):=z;have hr:res=true:=by rw[F.O,List.any_eq_true];exact⟨x,T.O,decide_eq_true (by rw[hlen];exact f)⟩
     have o:=au hr;clear hr;go_wp2_with (refine gQ rfl 45 (.tmp 12) rfl b (off+k*14) rfl (jQ x p).toList _ K.O underlying45 rfl pV ?_);go_ret;exact⟨by rw[o.O];rfl,r.O.alloc r.O.size _⟩
    ·have C:¬(400:Int)<(p.n:Int):=z;go_wp2_with (refine gQ rfl 45 (.tmp 12) rfl b (off+k*14) rfl (jQ x p).toList _ K.O underlying45 rfl pV ?_);go_roundw;case rel =>
      refine⟨k+1,by go_num,z,λy hy=>?_,r.O.alloc r.O.size _⟩;rw[R.O]at hy;rcases bt.1 hy with q|q
      ·exact S.O y q
      ·simp at q;subst q;rw[hlen];exact decide_eq_false f
     case measure=>simp[bS];omega
   ·have D:k=n:=z;subst D;have hr:res=false:=by
     rw[F.O,oA];intro x B;have q:=u x (by rw[dC z];exact B);simpa using q
    obtain⟨r,o⟩:=bu s hr;clear s u hr;go_wp2_with fail;go_ret;exact⟨by rw[o.O];rfl,r.O⟩
structure rz(base:Nat)(w:aw)(B C:RB)(R S:M.Room)(N:Nat):Prop where
 a:aL w B R N
 b:aL w C S N
 vd:∀i,B.all i->¬C.all i
 Gr:∀i,B.all i->base<=i
 JH:∀i,C.all i->base<=i
def sM(w:aw)(B C:RB)(g:Nat):Prop:=¬B.all g/\¬C.all g/\g<w.heap.size
section
variable {base:Nat} {w w':aw} {B C B' C':RB} {R S R' S':M.Room} {N N':Nat}
def rz.lo(h:rz base w B C R S N):base<=w.heap.size:=by
 have h1:=h.Gr B.g ⟨.aG,rfl⟩;have h2:=h.a.lt B.g ⟨.aG,rfl⟩;omega
def rz.below(h:rz base w B C R S N)(b:aC w w'):rz base w' B C R S N:=⟨h.a.below b,h.b.below b,h.vd,h.Gr,h.JH⟩
def rz.mono(h:rz base w B C R S N)(k:N<=N'):rz base w B C R S N':=⟨h.a.mono k,h.b.mono k,h.vd,h.Gr,h.JH⟩
def rz.swap(h:rz base w B C R S N):rz base w C B S R N:=⟨h.b,h.a,λi q k=>h.vd i k q,h.JH,h.Gr⟩
def rz.left(h:rz base w B C R S N)(hR:aL w' B' R' N')(c:fK w w' B B')(d:N<=N'):rz base w' B' C R' S N':=
 ⟨hR,(h.b.fr c.fr λi a q=>h.vd i q a).mono d,λi a k=>by
  rcases c.own i a with q|q
  ·exact h.vd i q k
  ·have:=h.b.lt i k;omega,λi a=>by
  rcases c.own i a with q|q
  ·exact h.Gr i q
  ·have:=h.lo;omega,h.JH⟩
def rz.right(h:rz base w B C R S N)(hR:aL w' C' S' N')(a:fK w w' C C')(b:N<=N'):rz base w' B C' R S' N':=(h.swap.left hR a b).swap
def rz.fN(h:rz base w B C R S N)(a:fK w w' B B'):Below base w w':=a.fr.below h.lo h.Gr
def rz.RX(h:rz base w B C R S N)(a:fK w w' C C'):Below base w w':=a.fr.below h.lo h.JH
def sM.below{g:Nat}(h:sM w B C g)(b:aC w w'):sM w' B C g:=⟨h.1,h.2.1,iU h.2.2 b.size⟩
def sM.left{g:Nat}(h:sM w B C g)(a:fK w w' B B'):sM w' B' C g:=⟨λq=>by
 rcases a.own g q with q|q
 ·exact h.1 q
 ·have:=h.2.2;omega,h.2.1,iU h.2.2 a.fr.size⟩
def sM.swap{g:Nat}(h:sM w B C g):sM w C B g:=⟨h.2.1,h.1,h.2.2⟩
def sM.right{g:Nat}(h:sM w B C g)(a:fK w w' C C'):sM w' B C' g:=(h.swap.left a).swap
def sM.new(h:rz base w B C R S N)(b:aC w w'){g:Nat}(hg:g=w.heap.size)(c:g<w'.heap.size):sM w' B C g:=
 ⟨λq=>by have:=h.a.lt g q;omega,λq=>by have:=h.b.lt g q;omega,c⟩
def aK.Qu{g:Nat}{t:TypeId}{cs:Array Value}(a:aK w g t cs)(h:sM w B C g)(b:fK w w' B B'):aK w' g t cs:=a.OB b λi c e=>h.1 (e ▸ c)
def aK.Pm{g:Nat}{t:TypeId}{cs:Array Value}(a:aK w g t cs)(h:sM w B C g)(b:fK w w' C C'):aK w' g t cs:=a.OB b λi c e=>h.2.1 (e ▸ c)
end
structure kB(w wr:aw)(B C:RB)(R S:M.Room)(N:Nat)(bl:List (Nat×TypeId×Array Value)):Prop where
 two:rz w.heap.size wr B C R S N
 bw:aC w wr
 vN:∀x∈bl,aK wr x.1 x.2.1 x.2.2/\sM wr B C x.1
section
variable {w wr w':aw} {B C B' C':RB} {R S R' S':M.Room} {N N':Nat} {bl:List (Nat×TypeId×Array Value)}
def kB.below(h:kB w wr B C R S N bl)(b:aC wr w'):kB w w' B C R S N bl:=⟨h.two.below b,h.bw.trans (b.mono h.bw.size),λx a=>⟨(h.vN x a).1.kept b,(h.vN x a).2.below b⟩⟩
def kB.mono(h:kB w wr B C R S N bl)(k:N<=N'):kB w wr B C R S N' bl:=⟨h.two.mono k,h.bw,h.vN⟩
def kB.left(h:kB w wr B C R S N bl)(hR:aL w' B' R' N')(a:fK wr w' B B')(c:N<=N'):kB w w' B' C R' S N' bl:=
 ⟨h.two.left hR a c,h.bw.trans (h.two.fN a),λx b=>⟨(h.vN x b).1.Qu (h.vN x b).2 a,(h.vN x b).2.left a⟩⟩
def kB.right(h:kB w wr B C R S N bl)(hR:aL w' C' S' N')(a:fK wr w' C C')(c:N<=N'):kB w w' B C' R S' N' bl:=
 ⟨h.two.right hR a c,h.bw.trans (h.two.RX a),λx b=>⟨(h.vN x b).1.Pm (h.vN x b).2 a,(h.vN x b).2.right a⟩⟩
def kB.alloc(h:kB w wr B C R S N bl)(t:TypeId)(cs:Array Value){g:Nat}(hg:g=wr.heap.size):kB w (wr.alloc (.cells cs t)) B C R S N ((g,t,cs)::bl):=by
 have a:aC wr (wr.alloc (.cells cs t)):=(ao _ _).alloc (aj _) _;have k:=h.below a;refine⟨k.two,k.bw,λx b=>?_⟩;rcases fw.1 b with e|q
 ·subst e;exact⟨aK.newAt _ _ _ _ hg,.new h.two a hg (by subst hg;simp)⟩
 ·exact k.vN x q
def kB.set(h:kB w wr B C R S N bl){g:Nat}{t:TypeId}{cs:Array Value}(hm:(g,t,cs)∈bl)(h5:t≠5)(l:t≠41)(hg:w.heap.size<=g)(c:List (Nat×TypeId×Array Value))(p:∀x∈c,x∈bl/\x.1≠g)(i:Nat)(v:Value) :
  kB w (wr.setCell ⟨g,i,I⟩ v) B C R S N ((g,t,cs.setIfInBounds i v)::c):=by
 obtain⟨o,d⟩:=h.vN _ hm;have f:Fr (One g) wr (wr.setCell ⟨g,i,I⟩ v):=(Fr.refl (One g) _).setCell o (.inl rfl) h5 l i v;have k:(wr.setCell ⟨g,i,I⟩ v).heap.size=wr.heap.size:=by simp[World.setCell]
 refine⟨⟨h.two.a.fr f λj m q=>d.1 (q ▸ m),h.two.b.fr f λj m q=>d.2.1 (q ▸ m),h.two.vd,h.two.Gr,h.two.JH⟩,h.bw.trans (f.below h.bw.size λj q=>by cases q;exact hg),λx r=>?_⟩;rcases fw.1 r with e|q
 ·subst e;exact⟨o.bC i v,d.1,d.2.1,by rw[k];exact d.2.2⟩
 ·obtain⟨s,y⟩:=p x q;obtain⟨A,n⟩:=h.vN x s;exact⟨A.dW f.u λe=>y e,n.1,n.2.1,by rw[k];exact n.2.2⟩
def kB.lt(h:kB w wr B C R S N bl):∀x∈bl,x.1<wr.heap.size:=λx a=>(h.vN x a).2.2.2
def kB.get(h:kB w wr B C R S N bl){g:Nat}{t:TypeId}{cs:Array Value}(hm:(g,t,cs)∈bl):aK wr g t cs:=(h.vN _ hm).1
def kB.drop(h:kB w wr B C R S N bl){a:List (Nat×TypeId×Array Value)}(b:∀x∈a,x∈bl):kB w wr B C R S N a:=⟨h.two,h.bw,λx c=>h.vN x (b x c)⟩
end
end
section
open Go.ChangeShapes Go.WideShapes Go.ChangeAt Go.RowKit Go.Deep
inductive Lf where
 |b
 |i (k:IntKind)
 |y
def Lf.ok(w:aw):Lf->Value->Prop
 | .b,v=>∃x,v=ai x
 | .i k,v=>∃n,v=J k n/\(dU k n).wf=true
 | .y,v=>∃a n c xs,v=ae a n c/\pL w a n c xs
def Dh(w:aw):List Lf->List Value->Prop
 |[],cs=>cs=[]
 |l::ls,cs=>∃c a,cs=c::a/\l.ok w c/\Dh w ls a
def Dh.length{w:aw}:∀{ls:List Lf} {cs:List Value},Dh w ls cs->cs.length=ls.length
 |[],cs,h=>by cases h;rfl
 |l::ls,cs,h=>by obtain⟨c,a,rfl,_,b⟩:=h;simp[Dh.length b]
def Dh.append{w:aw}:∀{ls ms:List Lf} {cs ds:List Value},Dh w ls cs->Dh w ms ds->Dh w (ls++ms) (cs++ds)
 |[],_,_,_,h,a=>by cases h;exact a
 |l::ls,_,_,_,h,a=>by obtain⟨c,b,rfl,d,hr⟩:=h;exact⟨c,_,rfl,d,Dh.append hr a⟩
def MG(P:jB)(a:TypeId->Option (List Lf)):List Field->Nat->Option (List Lf)
 |[],_=>Z []
 |f::r,off=>if f.offset=off then
   match a f.type with
   |some ls=>if ls.length=P.cellsOf f.type then
     match MG P a r (off+P.cellsOf f.type) with
     |some rs=>Z (ls++rs)
     |none=>I
    else I
   |none=>I
  else I
def rep(ls:List Lf):Nat->List Lf
 |0=>[]
 |n+1=>ls++rep ls n
def QC(P:jB):Nat->TypeId->Option (List Lf)
 |0,_=>I
 |n+1,t =>
  match P.underlying t with
  |some .bool=>Z [.b]
  |some (.int k)=>Z [.i k]
  |some (.slice e) =>
   match P.underlying e with
   |some (.int bI)=>if P.cellsOf e=1 then Z [.y] else I
   |_=>I
  |some (.array m e) =>
   match QC P n e with
   |some ls=>if ls.length=P.cellsOf e/\P.cellsOf t=m*ls.length then Z (rep ls m) else I
   |none=>I
  |some (.struct a) =>
   match MG P (QC P n) a.toList 0 with
   |some ls=>if ls.length=P.cellsOf t then Z ls else I
   |none=>I
  |_=>I
section
variable {H:Type} {enc:TypeId×Value->H} {P:jB} {w:aw} {base:Nat} {spare:Nat->Bool} {held:Bool}
def uD{t e:TypeId}{fuel:Nat}{cs:List Value}{x:DataW H×List tE}(ht:P.underlying t=Z (.slice e))(he:P.underlying e=Z (.int bI))(m:P.cellsOf e=1)
  (h:mL enc P w base spare held fuel t cs=Z x):∃a n c xs,cs=[ae a n c]/\pL w a n c xs:=by
 rcases open_slice ht h with⟨j,_⟩ | ⟨a',d,l,A,n,D,L,j,_,M,hm,o,_,B⟩
 ·exact⟨I,0,0,[],j,rfl,λx C=>by simp at C,λh0=>absurd h0 z,λ_=>rfl⟩
 ·have hle:d<=A:=by rw[o];split<;>omega
  have key:∀i,i<d->∃y:Int,(dU bI y).wf=true/\w.cell? (a'.add i)=Z (J bI y):=λi k=>by
   obtain⟨E,g,p⟩:=B i z;rw[m,Nat.mul_one]at g;obtain⟨y,rfl,_,hy⟩:=DataW.trod_int he p;obtain⟨_,_,r⟩:=World.cells?_some g;exact⟨y,hy,by simpa[Addr.add]using r 0 z⟩
  obtain⟨f,s⟩:=choose_lt key;refine⟨Z a',d,l,(kq d).map f,j,dt,?_,λh0=>?_,λq=>by cases q⟩
  ·intro y hy;obtain⟨i,u,rfl⟩:=eU.1 hy;exact(s i (by simpa using u)).1
  ·obtain⟨b,off,spot⟩:=a';have F:spot=I:=by
    have:=(s 0 h0).2;simpa[Addr.add]using World.cell?_spot this
   subst F;refine⟨b,off,rfl,λi k=>?_⟩;have v:=(s i k).2;have G:(⟨b,off,I⟩:Addr).add i=⟨b,off+i,I⟩:=by
    unfold Addr.add;split
    ·rename_i K;rw[K];rfl
    ·rfl
   rw[G]at v;rw[v,List.getD_eq_getElem?_getD,dE,List.getElem?_range k];rfl
def IE(c:TypeId->Option (List Lf))(n:Nat)(a:∀t ls,c t=Z ls->∀cs x,mL enc P w base spare held n t cs=Z x->Dh w ls cs)(cs:List Value) :
  ∀(j:List Field) (off:Nat) (ls:List Lf),MG P c j off=Z ls->(∀f∈j,∃x,mL enc P w base spare held n f.type ((cs.drop f.offset).take (P.cellsOf f.type))=Z x) ->
   Dh w ls ((cs.drop off).take ls.length)
 |[],off,ls,h,_=>by simp only[MG,bf]at h;subst h;simp[Dh]
 |f::r,off,ls,h,k=>by
  unfold MG at h;split at h
  ·rename_i b;split at h
   ·rename_i l1 h1;split at h
    ·rename_i l;split at h
     ·rename_i rs d;simp only[bf]at h;subst h;obtain⟨x,i⟩:=k f dt;have a1:=a _ _ h1 _ _ i;rw[b,<-l]at a1;have a2:=IE c n a cs r (off+P.cellsOf f.type) rs d (λg hg=>k g (by simp[hg]));have e:(cs.drop off).take (l1++rs).length=(cs.drop off).take l1.length++(cs.drop (off+P.cellsOf f.type)).take rs.length:=by
       rw[List.length_append,List.take_add,List.drop_drop,l]
      rw[e];exact Dh.append a1 a2
     ·cases h
    ·cases h
   ·cases h
  ·cases h
def Lo(ls:List Lf):∀(m:Nat) (cs:List Value),cs.length=m*ls.length->(∀i,i<m->Dh w ls ((cs.drop (i*ls.length)).take ls.length))->Dh w (rep ls m) cs
 |0,cs,a,_=>by
  rw[qA]at a;exact List.length_eq_zero_iff.1 a
 |m+1,cs,a,h=>by
  have h0:=h 0 z;rw[qA,mI]at h0;have e:cs=cs.take ls.length++cs.drop ls.length:=(List.take_append_drop _ _).symm;rw[e];refine Dh.append h0 (Lo ls m _ ?_ λi c=>?_)
  ·rw[List.length_drop,a,jG];omega
  ·have b:=h (i+1) z;rw[List.drop_drop];rw[show ls.length+i*ls.length=(i+1)*ls.length by rw[jG];omega];exact b
def GL:∀(m:Nat) (t:TypeId) (ls:List Lf),QC P m t=Z ls->∀(n:Nat) (cs:List Value) (x:DataW H×List tE),mL enc P w base spare held n t cs=Z x->Dh w ls cs
 |0,_,_,h=>by cases h
 |m+1,t,ls,h=>by
  intro n cs x j;unfold QC at h;split at h
  ·rename_i hu;cases h;obtain⟨b,rfl,_⟩:=DataW.trod_bool hu j;exact⟨_,_,rfl,⟨b,rfl⟩,rfl⟩
  ·rename_i hu;cases h;obtain⟨k,rfl,_,hw⟩:=DataW.trod_int hu j;exact⟨_,_,rfl,⟨k,rfl,hw⟩,rfl⟩
  ·rename_i e hu;split at h
   ·rename_i he;split at h
    ·rename_i l;cases h;obtain⟨a,g,c,xs,rfl,E⟩:=uD hu he l j;exact⟨_,_,rfl,⟨a,g,c,xs,rfl,E⟩,rfl⟩
    ·cases h
   ·cases h
  ·rename_i k e hu;split at h
   ·rename_i l1 h1;split at h
    ·rename_i o;cases h;obtain⟨xs,g,rfl,_,hlen,p,q⟩:=DataW.trod_array hu j;refine Lo l1 k cs (by rw[hlen];exact o.2) λi s=>?_;have C:=q i s;rw[o.1];have d:i<xs.length:=z;rw[ay d]at C;exact GL m e l1 h1 g _ _ C
    ·cases h
   ·cases h
  ·rename_i D hu;split at h
   ·rename_i l1 h1;split at h
    ·rename_i o;cases h;obtain⟨xs,g,rfl,_,hlen,p,q⟩:=DataW.trod_struct hu j;have r:=IE (enc:=enc) (w:=w) (base:=base) (spare:=spare) (held:=held) (QC P m) g (λF u G v K y=>GL m F u G g v K y) cs D.toList 0 ls h1 (λf A=>by
      obtain⟨i,s,B⟩:=List.getElem_of_mem A
      have d:i<D.size:=by simpa using s
      have:=q i f (by rw[Array.getElem?_eq_getElem d];exact congrArg Z B)
      rw[this]
      exact⟨_,ay z⟩)
     rw[mI,dC z]at r;exact r
    ·cases h
   ·cases h
  ·cases h
end
instance:Inhabited M.Act:=⟨⟨0,0,0,0,[],(0,0),false,0,0,0,0,0,0⟩⟩
def wf_u32{x:Int}(h:(dU ar x).wf=true):0<=x/\x<=4294967295:=by simpa[pD,jI,jJ,fR,gM]using h
def wf_u16{x:Int}(h:(dU aN x).wf=true):0<=x/\x<=65535:=by simpa[pD,jI,jJ,fR,gM]using h
def wf_u8{x:Int}(h:(dU bI x).wf=true):0<=x/\x<=255:=by simpa[pD,jI,jJ,fR,gM]using h
def PT{w:aw}{cs:List Value}(h:Dh w [.i V,.i V,.i V,.i V,.y,.i V,.i V,.b,.i ar,.i ar,.i aN,.i ar,.i ar,.i ar] cs):∃(x:M.Act) (d:Sl),cs=(jQ x d).toList/\pL w d.a d.n d.c x.b/\Nf x:=by
 obtain⟨_,_,rfl,⟨t,rfl,w0⟩,_,_,rfl,⟨u,rfl,w1⟩,_,_,rfl,⟨v,rfl,w2⟩,_,_,rfl,⟨A,rfl,w3⟩,_,_,rfl,⟨a,n,c,xs,rfl,s⟩,_,_,rfl,⟨B,rfl,w5⟩,_,_,rfl,⟨C,rfl,w6⟩,_,_,rfl,⟨D,rfl⟩,_,_,rfl,⟨E,rfl,F⟩,_,_,rfl,⟨G,rfl,H⟩,_,_,rfl,⟨e,rfl,f⟩,_,_,rfl,⟨g,rfl,j⟩,_,_,rfl,⟨k,rfl,l⟩,_,_,rfl,⟨m,rfl,o⟩,rfl⟩:=h;have L:=wf_u32 F;have N:=wf_u32 H;have K:=wf_u16 f;have p:=wf_u32 j;have q:=wf_u32 l;have r:=wf_u32 o;refine⟨⟨t,u,v,A,xs,(B,C),D,E,G,e,g,k,m⟩,⟨a,n,c⟩,rfl,s,⟨⟨λy hy=>?_,by simp only;omega,by simp only;omega,by simp only;omega⟩,w1,p,q,r⟩⟩;have:=wf_u8 (s.wf y hy);omega
section
variable {H:Type} {enc:TypeId×Value->H} {w:aw} {base:Nat} {spare:Nat->Bool} {held:Bool}
def xp{fuel:Nat}{a:Option Addr}{len cap:Nat}{x:DataW H×List tE}(h:mL enc af w base spare held fuel 26 [ae a len cap]=Z x):(∃l,pZ w a len l)/\(a=I->cap=0):=by
 rcases open_slice underlying26 h with⟨d,_⟩ | ⟨a',B,C,F,n,D,T,d,_,U,hm,p,_,G⟩
 ·simp at d;obtain⟨rfl,rfl,rfl⟩:=d;exact⟨⟨[],rfl,λx K=>by simp at K,λh0=>absurd h0 z⟩,λ_=>rfl⟩
 ·simp at d;obtain⟨rfl,rfl,rfl⟩:=d;refine⟨?_,λq=>by cases q⟩;have hle:len<=F:=by rw[p];split<;>omega
  have key:∀i,i<len->∃y:M.Act,Nf y/\∃k:Sl,(∀j,j<14->w.cell? (a'.add (i*14+j))=(jQ y k).toList[j]?)/\pL w k.a k.n k.c y.b:=λi m=>by
   obtain⟨L,g,r⟩:=G i z;rw[show af.cellsOf 45=14 from by kernel_rfl]at g;have N:=GL 6 45 [.i V,.i V,.i V,.i V,.y,.i V,.i V,.b,.i ar,.i ar,.i aN,.i ar,.i ar,.i ar] cC _ _ _ r;obtain⟨y,k,rfl,P,hr⟩:=PT N;obtain⟨_,_,s⟩:=World.cells?_some g;refine⟨y,hr,k,λj t=>?_,P⟩;have:=s j t;rw[Go.Deep.add_add]at this;exact this
  obtain⟨f,u⟩:=choose_lt key;refine⟨(kq len).map f,dt,?_,λh0=>?_⟩
  ·intro y hy;obtain⟨i,A,rfl⟩:=eU.1 hy;exact(u i (by simpa using A)).1
  ·obtain⟨b,off,spot⟩:=a';have Q:spot=I:=by
    obtain⟨_,k,h1,_⟩:=u 0 h0;have o:=h1 0 z;have e:(jQ (f 0) k).toList[0]? = Z (J V (f 0).nv):=rfl;rw[e]at o;simpa[Addr.add]using World.cell?_spot o
   subst Q;have R:∀j,(⟨b,off,I⟩:Addr).add j=⟨b,off+j,I⟩:=λj=>by
    unfold Addr.add;split
    ·rename_i S;rw[S];rfl
    ·rfl
   refine⟨b,off,rfl,λi y hy=>?_⟩;have m:i<len:=by
    have:=(aS.1 hy).1;simpa using this
   rw[dE,List.getElem?_range m]at hy;simp only[Option.map_some,bf]at hy;subst hy;obtain⟨_,k,h1,h2⟩:=u i m;refine⟨k,λj v E=>?_,h2⟩;have t:j<14:=(aS.1 E).1;have o:=h1 j t;rw[R,E]at o;rw[Nat.add_assoc];exact o
end
end
def Qr:ownKnob af.godebug=I:=cC
def qX:laidOutB af=true:=cC
def we{H:Type}{enc:TypeId×Value->H}{a:Assume}{C:Checked}{os:Os}{f:FuncId}{fn:Func}{s:ChangeSpec}{conds:List PathCond}{jF fresh handsOn again:Bool}{X:aw->Array Value->Prop}
  (q:∀(w w':aw) (args:Array Value),w.heap=w'.heap->X w args->X w' args)
  (own:ownKnob C.prog.godebug=I) (started:os.Started) (c:C.prog.inits.idxOf? f=I) (l:C.prog.funcs[f]? = Z fn)
  (witness:∃(w:aw) (tape:Tape) (i:Input),w.os=os/\(w.forCall tape i).Shaped C.prog/\i.vars=[]/\Input.okWide C.prog (w.forCall tape i) .any w.heap.size f i /\
    ((s.pre enc C.prog fn conds jF (w.forCall tape i).memory i.args/\X (w.forCall tape i).memory i.args)/\sizedMet enc C.prog fn (OpenSpec.ofChange s) jF (w.forCall tape i).memory i.args)/\a.holds C.prog (lone (Frame.enter C.prog f i.args .normal) [] (w.forCall tape i)))
  (b:∀(W:aw) (base:Nat) (args:Array Value) (ds gs:List (DataW H)) (before:List tE),
    (∀(j:Nat) t v,fn.params[j]? = Z t->args[j]? = Z v->Value.okWide C.prog W .any base t v) ->
    DataW.Whole enc C.prog fn.params.toList s.vars jF W args.toList ds gs before ->
    X W args->W.ShapedOpen C.prog ->
    aF C.prog f args W λe W'=>∃v,e=av v/\s.post enc C.prog fn jF fresh handsOn again W args v W') :
  ReturnsInHanded a C os f .any (λw args=>(s.pre enc C.prog fn conds jF w args/\X w args)/\sizedMet enc C.prog fn (OpenSpec.ofChange s) jF w args) (s.post enc C.prog fn jF fresh handsOn again):=by
 refine returnsInHanded_of_calls own started c witness ?_;intro w tape i _ m _ n d k;obtain⟨_,_,_,o,g,_,_,_,_,h⟩:=n;have e:o=fn:=Option.some.inj (g.symm.trans l);subst e;obtain⟨⟨⟨ds,gs,before,hw,u⟩,r⟩,x⟩:=d;have p:=DataW.Whole.of_heap (w':=w.forCall tape i) jP hw;refine(b (w.forCall tape i) w.heap.size i.args ds gs before h p (q _ _ _ jP r) m).mono λe W' ⟨v,he,hp⟩=>?_;subst he;exact ChangeSpec.post_blind hp
abbrev wD:List (String×DataW Unit):=[("math/bits.deBruijn32tab",Rows.laid_math_bits_deBruijn32tab),("math/bits.deBruijn64tab",Rows.laid_math_bits_deBruijn64tab),("internal/strconv.uint64pow10",Rows.laid_internal_strconv_uint64pow10),("unicode/utf8.acceptRanges",Rows.laid_unicode_utf8_acceptRanges),("unicode/utf8.first",Rows.laid_unicode_utf8_first)]
def Lr:(Rows.laid_internal_strconv_uint64pow10:DataW Unit)=Lib.tabData .u64 Lib.pow10Tab:=cC
def MN{W:aw}(a:laidMet af wD W)(b:W.ShapedOpen af):Env W:=by
 refine⟨?_,?_⟩
 ·exact cell_of_shapedOpen_int (g:=0) (t:=3) (zero:=#[J V 0]) (k:=V) b (of_decide_eq_true cC) cC cC cC cC cC
 ·have h3:=laidMet.tail (laidMet.tail a);rw[Lr]at h3;exact Lib.tabIs_of_head (g:=3) (t:=475) (e:=197) (n:=20) cC cC cC cC cC cC h3
namespace M
def vy(R':Room)(x:Act)(e:Int)(jo:Int->Int)(s:Int):Int:=
 if R'.eG s=true then -1 else if e=0/\x.nv=5/\s=x.sub then x.jo else if e=0/\x.nv=7/\s=x.sub then -1 else jo s
end M
section
namespace M
variable {ps:Nn} {bk:Nat->Option Int} {l:dP} {g:ij}
def pz(h:iv ps bk l g){i:Nat}{o:Nat×cQ}(a:l.fF[i]? = Z o):∃(k:Nat) (x:Rec),g.W[i]? = Z k/\g.H[k]? = Z x/\o=(x.id,x.p.bytes)/\eP o.2=(x.p,0)/\Fh ps g k x:=by
 have d:i<g.W.length:=by rw[h.fF];exact(aS.1 a).1
 obtain⟨k,b⟩:∃k,g.W[i]? = Z k:=⟨_,ay d⟩;obtain⟨x,c,e⟩:=h.qT i k o b a;have hr:=h.zM k x c;exact⟨k,x,b,c,e,by rw[e];exact mK x.p hr.right hr.ok,hr⟩
def tD(h:iv ps bk l g)(d:0<=g.dQ/\g.dQ<65536)(f:g.H.length<=60000){o:Nat×cQ}(c:l.fF[0]? = Z o)(a:(eP o.2).1.dQ=g.dQ):lx (eP o.2).1.cF=true/\(eP o.2).1.aU=g.aU:=by
 obtain⟨k,x,i,b,e,hr,ok⟩:=pz h c;rw[hr]at a ⊢;simp only at a ⊢;have j:=(aS.1 b).1;have:=ok.dQ;have:k=0:=z;subst this;exact h.zero x b
def wN(h:iv ps bk l g)(C:g.H.length<=60000){i:Nat}{o c:Nat×cQ}(v:l.fF[i]? = Z o)(j:l.fF[i+1]? = Z c)(r:(eP c.2).1.dQ=((eP o.2).1.dQ+1) % 65536) :
  ∃a b,ps[o.1]? = Z a/\ps[c.1]? = Z b/\(b.origin=a.origin->((eP c.2).1.aU-(eP o.2).1.aU) % 4294967296=(b.bW.aU-a.bW.aU) % 4294967296) /\
   (b.origin≠a.origin->lx (eP c.2).1.cF=true/\(eP c.2).1.aU=((eP o.2).1.aU+3000) % 4294967296):=by
 obtain⟨k,x,w,s,e,hr,ok⟩:=pz h v;obtain⟨t,y,m,d,A,n,f⟩:=pz h j;rw[hr,n]at r ⊢;simp only at r ⊢;have D:=(aS.1 s).1;have B:=(aS.1 d).1;have s1:=ok.dQ;have s2:=f.dQ;have E:k<t:=by
  have hp:=(ef.1 h.sorted).1;obtain⟨a1,a2⟩:=aS.1 w;obtain⟨b1,b2⟩:=aS.1 m;have:=List.pairwise_iff_getElem.1 hp i (i+1) a1 b1 z;omega
 have p:t=k+1:=z;subst p;obtain⟨a,a1,a2,a3⟩:=ok.at_;obtain⟨b,b1,b2,b3⟩:=f.at_;have u:=h.next k x y s d a b a1 b1;refine⟨a,b,by rw[e];exact a1,by rw[A];exact b1,λq=>?_,λq=>?_⟩
 ·refine u.1 ?_;rw[a2,b2]at q;exact(Prod.mk.injEq .. ▸ q).2
 ·refine u.2 λe=>q ?_;rw[a2,b2,e]
end M
end
namespace M
structure Jn where
 own:Int
 dQ:Int
 aU:Int
def kF(x:Act)(e:Int)(Jo:Int->Jn)(s:Int):Jn:=if x.nv=4/\e=0/\s=x.sub then⟨x.own,x.dQ,x.aU⟩ else Jo s
structure rC(R:Room)(G:Int->ij)(Jo:Int->Jn):Prop where
 eq:∀s l,R.aD s=Z l->Jo s=⟨(G s).own,(G s).dQ,(G s).aU⟩
 dQ:∀s l,R.aD s=Z l->0<=(G s).dQ/\(G s).dQ<65536
def rC.start(c:Ou)(G:Int->ij)(Jo:Int->Jn):rC (.new c) G Jo:=⟨λs l h=>(by cases h),λs l h=>(by cases h)⟩
def oM(R:Room)(G:Int->ij)(w:eK)(a:Bool)(s:Int):(uM R G w a s).own=(G s).own/\(uM R G w a s).dQ=(G s).dQ/\(uM R G w a s).aU=(G s).aU:=by
 have b:∀(g:ij),(g.own=(G w.2).own/\g.dQ=(G w.2).dQ/\g.aU=(G w.2).aU)->(set G w.2 g s).own=(G s).own/\(set G w.2 g s).dQ=(G s).dQ/\(set G w.2 g s).aU=(G s).aU:=λg hg=>by
  unfold set;split
  ·rename_i e;rw[e];exact hg
  ·exact⟨rfl,rfl,rfl⟩
 unfold uM;by_cases hm:R.may w=false
 ·rw[if_pos hm];exact⟨rfl,rfl,rfl⟩
 rw[if_neg hm];cases R.aD w.2 with
 |none=>exact⟨rfl,rfl,rfl⟩
 |some l =>
  simp only;by_cases h0:w.1=0\/w.1=1
  ·rw[if_pos h0];exact⟨rfl,rfl,rfl⟩
  rw[if_neg h0];by_cases c:R.cN=true
  ·rw[if_pos c];refine b _ ?_;unfold pJ;split<;>exact⟨rfl,rfl,rfl⟩
  rw[if_neg c];by_cases h2:w.1=2
  ·rw[if_pos h2];exact⟨rfl,rfl,rfl⟩
  rw[if_neg h2];by_cases h3:w.1=3
  ·rw[if_pos h3];refine b _ ?_;unfold lU;split<;>exact⟨rfl,rfl,rfl⟩
  rw[if_neg h3];refine b _ ?_;unfold iR;split
  ·exact⟨rfl,rfl,rfl⟩
  split
  ·exact⟨rfl,rfl,rfl⟩
  split<;>exact⟨rfl,rfl,rfl⟩
def ry(R:Room)(x:Act)(s:Int)(h:((R.act x).1.aD s).isSome=true):(x.nv=4/\(R.act x).2.1=0/\s=x.sub)\/(R.aD s).isSome=true:=by
 have lw:∀(r:Room) (t k:Int),((r.fj t k).1.aD s).isSome=true->(r.aD s).isSome=true:=λr t k a=>by
  unfold Room.fj at a;split at a
  ·rename_i l d;have a:(set r.aD t (Z (l.iy k).1) s).isSome=true:=a;unfold set at a;split at a
   ·rename_i e;rw[e,d];rfl
   ·exact a
  ·exact a
 by_cases h4:x.nv=4
 ·have e:R.act x=((R.iJ x.sub x.own x.dQ x.aU).1,(R.iJ x.sub x.own x.dQ x.aU).2,false):=by simp[Room.act,h4]
  rw[e]at h ⊢;simp only at h ⊢;unfold Room.iJ at h ⊢;split at h
  ·exact .inr h
  rename_i h1;split at h
  ·exact .inr h
  rename_i h2;split at h
  ·exact .inr h
  rename_i h3;rw[if_neg h1,if_neg h2,if_neg h3];have h:(set R.aD x.sub (Z (.new x.own x.dQ x.aU)) s).isSome=true:=h;by_cases c:s=x.sub
  ·exact .inl ⟨h4,rfl,c⟩
  ·rw[da _ _ c]at h;exact .inr h
 right;unfold Room.act at h;by_cases h0:x.nv=0
 ·rw[if_pos h0]at h;exact(gk.fT R x.b).aD s h
 rw[if_neg h0]at h;by_cases h1:x.nv=1
 ·rw[if_pos h1]at h;exact(gk.pick R x.w x.fq).aD s h
 rw[if_neg h1]at h;by_cases h2:x.nv=2
 ·rw[if_pos h2]at h;exact(gk.tick R).aD s h
 rw[if_neg h2]at h;by_cases h3:x.nv=3
 ·rw[if_pos h3]at h;have h:((R.gg x.jo x.s0 x.s1 x.s2).1.aD s).isSome=true:=h;unfold Room.gg at h;repeat' split at h
  all_goals exact h
 rw[if_neg h3,if_neg h4]at h;by_cases h5:x.nv=5
 ·rw[if_pos h5]at h;have a:((R.dN x.sub x.jo x.aY).1.aD s).isSome=true:=h;unfold Room.dN at a;split at a
  ·exact a
  split at a
  ·exact a
  split at a
  ·exact a
  split at a
  ·exact a
  split at a
  ·exact a
  split at a
  ·exact a
  split at a
  ·exact a
  ·have q:=lw _ _ _ a;exact q
 rw[if_neg h5]at h;by_cases h6:x.nv=6
 ·rw[if_pos h6]at h;exact(gk.iy R x.sub x.aY).aD s h
 rw[if_neg h6]at h;by_cases h7:x.nv=7
 ·rw[if_pos h7]at h;exact(gk.jE R x.sub).aD s h
 rw[if_neg h7]at h;by_cases h8:x.nv=8
 ·rw[if_pos h8]at h;exact(gk.fU R).aD s h
 rw[if_neg h8]at h;exact h
def rC.act{R:Room}{G:Int->ij}{Jo:Int->Jn}(h:rC R G Jo)(x:Act)(j:x.Ok):rC (R.act x).1 (Ag R G x) (kF x (R.act x).2.1 Jo):=by
 have key:∀s l,(R.act x).1.aD s=Z l->kF x (R.act x).2.1 Jo s=⟨(Ag R G x s).own,(Ag R G x s).dQ,(Ag R G x s).aU⟩/\0<=(Ag R G x s).dQ/\(Ag R G x s).dQ<65536:=by
  intro s l d;unfold kF;rcases ry R x s (by rw[d];rfl) with⟨a,b,c⟩|k
  ·rw[if_pos ⟨a,b,c⟩];have e:(R.act x).2.1=(R.iJ x.sub x.own x.dQ x.aU).2:=by simp[Room.act,a]
   rw[e]at b;unfold Ag;rw[if_neg z,if_pos a,if_pos b,c,dY];exact⟨rfl,j.dQ⟩
  ·obtain⟨l0,f⟩:=Option.isSome_iff_exists.1 k;have m:=h.eq s l0 f;have n:=h.dQ s l0 f;by_cases g:x.nv=4/\(R.act x).2.1=0/\s=x.sub
   ·rw[if_pos g];obtain⟨a,b,c⟩:=g;have e:(R.act x).2.1=(R.iJ x.sub x.own x.dQ x.aU).2:=by simp[Room.act,a]
    rw[e]at b;unfold Ag;rw[if_neg z,if_pos a,if_pos b,c,dY];exact⟨rfl,j.dQ⟩
   ·rw[if_neg g,m];have hg:(Ag R G x s).own=(G s).own/\(Ag R G x s).dQ=(G s).dQ/\(Ag R G x s).aU=(G s).aU:=by
     unfold Ag;split
     ·exact oM R G x.w x.fq s
     split
     ·rename_i h4;split
      ·rename_i h0;have e:(R.act x).2.1=(R.iJ x.sub x.own x.dQ x.aU).2:=by simp[Room.act,h4]
       have i:s≠x.sub:=λq=>g ⟨h4,by rw[e];exact h0,q⟩;rw[da _ _ i];exact⟨rfl,rfl,rfl⟩
      ·exact⟨rfl,rfl,rfl⟩
     split
     ·split
      ·unfold set;split
       ·rename_i q;rw[q];exact⟨rfl,rfl,rfl⟩
       ·exact⟨rfl,rfl,rfl⟩
      ·exact⟨rfl,rfl,rfl⟩
     ·exact⟨rfl,rfl,rfl⟩
    rw[hg.1,hg.2.1,hg.2.2];exact⟨rfl,n⟩
 exact⟨λs l d=>(key s l d).1,λs l d=>(key s l d).2⟩
def zi(R:Room)(Jo:Int->Jn)(s:Int)(i:Nat):Prop:=
 ∀o,(kA R s)[i]? = Z o ->
  (i=0->(eP o.2).1.dQ=(Jo s).dQ->lx (eP o.2).1.cF=true/\(eP o.2).1.aU=(Jo s).aU) /\
  (∀j c,i=j+1->(kA R s)[j]? = Z c->(eP o.2).1.dQ=((eP c.2).1.dQ+1) % 65536->∃a b,R.aO[c.1]? = Z a/\R.aO[o.1]? = Z b /\
    (b.origin=a.origin->((eP o.2).1.aU-(eP c.2).1.aU) % 4294967296=(b.bW.aU-a.bW.aU) % 4294967296) /\
    (b.origin≠a.origin->lx (eP o.2).1.cF=true/\(eP o.2).1.aU=((eP c.2).1.aU+3000) % 4294967296))
def zB{R:Room}{G:Int->ij}{Jo:Int->Jn}{n:Nat}(k:Inv R G n)(g:rC R G Jo)(p:n<=60000)(s:Int)(i:Nat):zi R Jo s i:=by
 intro o a;cases b:R.aD s with
 |none=>unfold kA at a;rw[b]at a;simp at a
 |some l =>
  have m:kA R s=l.fF:=by unfold kA;rw[b]
  rw[m]at a ⊢;obtain⟨h,q⟩:=k.fo s l b;have e:=g.eq s l b;refine⟨λh0 c=>?_,λj r d f c=>?_⟩
  ·subst h0;rw[e]at c ⊢;exact tD h (g.dQ s l b) z a c
  ·subst d;exact wN h z f a c
end M
section
structure nF(cs:Array Value)(Jo:Int->M.Jn)(jo:Int->Int):Prop where
 size:cs.size=91
 own:∀s:Nat,s<6->cs[s*14+8]? = Z (J ar (Jo s).own)
 aU:∀s:Nat,s<6->cs[s*14+9]? = Z (J ar (Jo s).aU)
 dQ:∀s:Nat,s<6->cs[s*14+10]? = Z (J aN (Jo s).dQ)
 jo:∀s:Nat,s<6->cs[84+s]? = Z (J V (jo s))
structure ck(w:aw)(g mb:Nat)(Jo:Int->M.Jn)(jo:Int->Int)(N:Nat):Prop where
 ex:∃cs:Array Value,aK w g 84 cs/\nF cs Jo jo/\cs[90]? = Z (.map (Z mb))
 map:∃F,gA KO w mb F N
section
variable {w w':aw} {g mb:Nat} {Jo:Int->M.Jn} {jo:Int->Int} {N:Nat}
def ck.dW{G:Nat->Prop}(h:ck w g mb Jo jo N)(u:cS G w w')(hg:¬G g)(hm:¬G mb):ck w' g mb Jo jo N:=by
 obtain⟨cs,h1,h2⟩:=h.ex;obtain⟨F,hF⟩:=h.map;exact⟨⟨cs,h1.dW u hg,h2⟩,F,hF.dW u hm⟩
def ck.below(h:ck w g mb Jo jo N)(u:aC w w'):ck w' g mb Jo jo N:=h.dW (G:=cr) (.bn u) id id
def ck.mono{N':Nat}(h:ck w g mb Jo jo N)(k:N<=N'):ck w g mb Jo jo N':=⟨h.ex,h.map.imp λF q=>q.mono k⟩
def ck.lt(h:ck w g mb Jo jo N):g<w.heap.size/\mb<w.heap.size:=by
 obtain⟨cs,h1,_⟩:=h.ex;obtain⟨F,hF⟩:=h.map;exact⟨h1.lt,hF.lt⟩
def ck.ne(h:ck w g mb Jo jo N):mb≠g:=by
 obtain⟨cs,h1,_⟩:=h.ex;obtain⟨F,hF⟩:=h.map;exact hF.ki h1
def ck.ni(h:ck w g mb Jo jo N):vP w (jK g mb):=λi a=>by
 obtain⟨cs,h1,_⟩:=h.ex;obtain⟨F,hF⟩:=h.map;rcases a with rfl|rfl
 ·exact PY.cw h1 aR aR
 ·exact hF.mut
def ck.cell(h:ck w g mb Jo jo N){s:Nat}(a:s<6):w.cell? ⟨g,84+s,I⟩=Z (J V (jo s))/\w.frozen? ⟨g,84+s,I⟩=false:=by
 obtain⟨cs,h1,h2,_⟩:=h.ex;exact⟨(h1.cell _).trans (h2.jo s a),h1.frozen _⟩
def ck.Aa(h:ck w g mb Jo jo N):w.cell? ⟨g,90,I⟩=Z (.map (Z mb)):=by
 obtain⟨cs,h1,_,h2⟩:=h.ex;exact(h1.cell _).trans h2
def ck.congr{c:Int->M.Jn}{a:Int->Int}(h:ck w g mb Jo jo N)(b:∀s:Nat,s<6->c s=Jo s)(hp:∀s:Nat,s<6->a s=jo s):ck w g mb c a N:=by
 obtain⟨cs,h1,h2,h3⟩:=h.ex;exact⟨⟨cs,h1,⟨h2.size,λs q=>by rw[b s q];exact h2.own s q,λs q=>by rw[b s q];exact h2.aU s q,λs q=>by rw[b s q];exact h2.dQ s q,λs q=>by rw[hp s q];exact h2.jo s q⟩,h3⟩,h.map⟩
end
def nF.iJ{cs:Array Value}{Jo:Int->M.Jn}{jo:Int->Int}(h:nF cs Jo jo)(s:Nat)(d:s<6)(x:M.Act)(b:Sl):nF (de cs (s*14) (jQ x b).toList) (M.set Jo (s:Int) ⟨x.own,x.dQ,x.aU⟩) jo:=by
 have c:=h.size;have f:(jQ x b).toList.length=14:=rfl;have hle:s*14+(jQ x b).toList.length<=cs.size:=z;have key:∀(k j:Nat) (v v0:Value),k<6->j<14->cs[k*14+j]? = Z v0->(jQ x b).toList[j]? = Z v->(de cs (s*14) (jQ x b).toList)[k*14+j]? = Z (if k=s then v else v0):=λk j v v0 a g h0 h1=>by
  by_cases e:k=s
  ·subst e;rw[if_pos rfl,qG hle z];exact h1
  ·rw[if_neg e,kT hle (by rcases Nat.lt_or_gt_of_ne e with q|q;left;omega;right;omega)];exact h0
 refine⟨by rw[gU hle];exact c,λk a=>?_,λk a=>?_,λk a=>?_,λk a=>?_⟩
 ·rw[key k 8 _ _ a z (h.own k a) rfl];unfold M.set;by_cases e:k=s
  ·rw[if_pos e,if_pos z]
  ·rw[if_neg e,if_neg z]
 ·rw[key k 9 _ _ a z (h.aU k a) rfl];unfold M.set;by_cases e:k=s
  ·rw[if_pos e,if_pos z]
  ·rw[if_neg e,if_neg z]
 ·rw[key k 10 _ _ a z (h.dQ k a) rfl];unfold M.set;by_cases e:k=s
  ·rw[if_pos e,if_pos z]
  ·rw[if_neg e,if_neg z]
 ·rw[kT hle (by right;omega)];exact h.jo k a
def nF.zY{cs:Array Value}{v:Value}(b:cs.size=91)(h:cs[90]? = Z v)(s:Nat)(c:s<6)(x:M.Act)(a:Sl):(de cs (s*14) (jQ x a).toList)[90]? = Z v:=by
 have d:(jQ x a).toList.length=14:=rfl;rw[kT z (by right;omega)];exact h
def nF.put{cs:Array Value}{Jo:Int->M.Jn}{jo:Int->Int}(h:nF cs Jo jo)(s:Nat)(c:s<6)(v:Int):nF (cs.setIfInBounds (84+s) (J V v)) Jo (M.set jo (s:Int) v):=by
 have b:=h.size;refine⟨by rw[Array.size_setIfInBounds];exact b,λk a=>?_,λk a=>?_,λk a=>?_,λk a=>?_⟩
 ·rw[gi z];exact h.own k a
 ·rw[gi z];exact h.aU k a
 ·rw[gi z];exact h.dQ k a
 ·unfold M.set;by_cases e:k=s
  ·subst e;rw[Array.getElem?_setIfInBounds_self_of_lt z,if_pos rfl]
  ·rw[gi z,if_neg z];exact h.jo k a
def nF.zZ{cs:Array Value}{v:Value}(h:cs[90]? = Z v)(s:Nat)(a:s<6)(u:Value):(cs.setIfInBounds (84+s) u)[90]? = Z v:=by
 rw[gi z];exact h
def ck.put{w:aw}{g mb:Nat}{Jo:Int->M.Jn}{jo:Int->Int}{N:Nat}(h:ck w g mb Jo jo N){s:Nat}(a:s<6)(v:Int):ck (w.setCell ⟨g,84+s,I⟩ (J V v)) g mb Jo (M.set jo (s:Int) v) N/\Fr (jK g mb) w (w.setCell ⟨g,84+s,I⟩ (J V v)):=by
 have b:=h.ne;obtain⟨cs,h1,h2,h3⟩:=h.ex;obtain⟨F,hF⟩:=h.map;exact⟨⟨⟨_,h1.bC _ _,h2.put s a v,nF.zZ h3 s a _⟩,F,hF.dW (G:=One g) ((cS.refl (One g) w).setCell (p:=⟨g,84+s,I⟩) (.inl rfl) _) b⟩,(Fr.refl _ _).setCell h1 (.inl (.inl rfl)) aR aR _ _⟩
def ck.iJ{w w':aw}{g mb:Nat}{Jo:Int->M.Jn}{jo:Int->Int}{N:Nat}(h:ck w g mb Jo jo N){s:Nat}(c:s<6)(x:M.Act)(a:Sl){cs:Array Value}(h1:aK w g 84 cs)(d:aK w' g 84 (de cs (s*14) (jQ x a).toList))(u:cS (One g) w w') :
  ck w' g mb (M.set Jo (s:Int) ⟨x.own,x.dQ,x.aU⟩) jo N/\Fr (jK g mb) w w':=by
 have e:=h.ne;obtain⟨b,f,h2,h3⟩:=h.ex;obtain rfl:b=cs:=by
  have:=f.symm.trans h1;simpa using this
 obtain⟨F,hF⟩:=h.map;exact⟨⟨⟨_,d,h2.iJ s c x a,nF.zY h2.size h3 s c x a⟩,F,hF.dW u e⟩,.jT (u.mono λi _ q=>.inl q) h.ni⟩
def ck.src{w:aw}{g mb:Nat}{Jo:Int->M.Jn}{jo:Int->Int}{N:Nat}(h:ck w g mb Jo jo N)(a:N<1000000)(y:Int×Int)(b:Gi y)(c:Value):∃w',(Instr.mapUpdate 82 (.map (Z mb)) (pv y) c).run af w=.ok () w'/\ck w' g mb Jo jo (N+1)/\Fr (jK g mb) w w':=by
 have d:=h.ne;obtain⟨cs,h1,h2⟩:=h.ex;obtain⟨F,hF⟩:=h.map;obtain⟨w',hr,e,u⟩:=hF.nX xM underlying82 a y c b;exact⟨w',hr,⟨⟨cs,h1.dW u (λq=>d q.symm),h2⟩,_,e⟩,.jT (u.mono λi _ q=>.inr q) h.ni⟩
def qU(w:aw):aF af 11 #[] w λe w'=>∃g mb:Nat,e=av (aq (Z ⟨g,0,I⟩))/\ck w' g mb (λ_=>⟨0,0,0⟩) (λ_=>-1) 0/\aC w w'/\w.heap.size<=g/\w.heap.size<=mb:=by
 have n:=@run_makeMap af;go_enter func11,ntmps11;go_upto_region 2 with fail;obtain⟨g,hg⟩:=dH (w.heap.size+1);rw[<-hg];refine aW (λX=>ck X g w.heap.size (λ_=>⟨0,0,0⟩) (λ_=>0) 0/\aC w X) ⟨?_,?_⟩ ?_
 ·have b:aK ((w.alloc (.map #[] 0)).alloc (.cells (Tryz.zeroCells84.setIfInBounds 90 (.map (Z w.heap.size))) 84)) g 84 (Tryz.zeroCells84.setIfInBounds 90 (.map (Z w.heap.size))):=aK.newAt _ _ _ _ (by rw[hg];simp);refine⟨⟨_,b,⟨rfl,λs c=>?_,λs c=>?_,λs c=>?_,λs c=>?_⟩,rfl⟩,_,(gA.made w KO).dW (G:=cr) (.bn ((ao _ _).alloc (aj _) _)) id⟩;all_goals rcases(z:s=0\/s=1\/s=2\/s=3\/s=4\/s=5) with rfl|rfl|rfl|rfl|rfl|rfl<;>rfl
 ·exact((ao _ w).alloc (aj _) _).alloc dt _
 rintro X ⟨a,t⟩;have d:w.heap.size<=g:=z;obtain⟨l,m⟩:=bu a t;clear a t hg n;go_wp2_with fail;go_loopw [6] (λv wr=>∃k:Nat,v=J V k/\k<=6/\∃jo:Int->Int,ck wr g w.heap.size (λ_=>⟨0,0,0⟩) jo 0/\(∀s:Nat,s<k->jo s = -1)/\aC w wr) (λi _=>6-(bS i).toNat);case atStart=>exact⟨0,rfl,z,λ_=>0,l.O,λs h=>z,m.O⟩
 case round =>
  clear l m;obtain⟨k,rfl,A,jo,a,hp,b⟩:=hrel;by_cases f:k<6
  ·have x:((k:Int)<6):=z;obtain⟨c1,c2⟩:=a.cell f;have u:=(a.put f (-1)).1;have j:=b.setCell (p:=⟨g,84+k,I⟩) d (J V (-1));obtain⟨y,o,q⟩:=bU u j hp;clear a b u j hp;go_wp2_with fail;go_roundw;case rel =>
    refine⟨k+1,by go_num,z,_,y.O,λs c=>?_,o.O⟩;unfold M.set;by_cases e:s=k
    ·rw[if_pos z]
    ·rw[if_neg z];exact q.O s z
   case measure=>simp[bS];omega
  ·have r:k=6:=z;subst r;obtain⟨l,m,q⟩:=bU a b hp;clear a b hp;go_wp2_with fail;go_ret;exact⟨g,_,rfl,l.O.congr (λ_ _=>rfl) (λs c=>(q.O s c).symm),m.O,d,aj _⟩
end
section
structure Th where
 own:Nat->Prop
 At:aw->Prop
 dW:∀{w w':aw} {G:Nat->Prop},At w->cS G w w'->(∀i,own i->¬G i)->At w'
 ni:∀{w:aw},At w->vP w own
def PY.lt{w:aw}{i:Nat}(h:PY w i):i<w.heap.size:=by
 rcases h with⟨es,k,h⟩ | ⟨t,cs,h,_⟩
 ·exact(Array.getElem?_eq_some_iff.1 h).1
 ·exact h.lt
def Th.lt(x:Th){w:aw}(h:x.At w):∀i,x.own i->i<w.heap.size:=λi a=>(x.ni h i a).lt
def Th.cw(g:Nat)(t:TypeId)(cs:Array Value):Th:=⟨One g,λw=>aK w g t cs/\t≠5/\t≠41,λh u k=>⟨h.1.dW u (k g rfl),h.2⟩,λh i a=>by cases a;exact .cw h.1 h.2.1 h.2.2⟩
def Th.map(b:Nat)(F:M.bN->Option Value)(N:Nat):Th:=⟨One b,λw=>gA KO w b F N,λh u k=>gA.dW (F:=F) h u (k b rfl),λh i a=>by cases a;exact gA.mut (F:=F) h⟩
def Th.xX(g mb:Nat)(a:Int->M.Jn)(jo:Int->Int)(N:Nat):Th:=⟨jK g mb,λw=>ck w g mb a jo N,λh u k=>h.dW u (k g (.inl rfl)) (k mb (.inr rfl)),λh=>h.ni⟩
structure mD(w wr:aw)(B:RB)(R:M.Room)(N:Nat)(X:List Th):Prop where
 aG:aL wr B R N
 low:∀i,B.all i->w.heap.size<=i
 bw:aC w wr
 th:∀x∈X,x.At wr/\∀i,x.own i->¬B.all i/\w.heap.size<=i
 vd:X.Pairwise λx y=>∀i,x.own i->¬y.own i
section
variable {w wr w':aw} {B B':RB} {R R':M.Room} {N N':Nat} {X Y l1 l2:List Th} {x y:Th}
def mD.below(h:mD w wr B R N X)(b:aC wr w'):mD w w' B R N X:=
 ⟨h.aG.below b,h.low,h.bw.trans (b.mono h.bw.size),λx a=>⟨x.dW (h.th x a).1 (G:=cr) (.bn b) (λ_ _ q=>q),(h.th x a).2⟩,h.vd⟩
def mD.mono(h:mD w wr B R N X)(k:N<=N'):mD w wr B R N' X:=⟨h.aG.mono k,h.low,h.bw,h.th,h.vd⟩
def mD.act(h:mD w wr B R N X)(hR:aL w' B' R' N')(c:fK wr w' B B'):mD w w' B' R' N' X:=by
 have d:=h.bw.size;refine⟨hR,λi a=>?_,h.bw.trans (c.fr.below d h.low),λx b=>⟨x.dW (h.th x b).1 c.fr.u (λi a q=>((h.th x b).2 i a).1 q),λi a=>⟨λq=>?_,((h.th x b).2 i a).2⟩⟩,h.vd⟩
 ·rcases c.own i a with q|q
  ·exact h.low i q
  ·omega
 ·rcases c.own i q with q|q
  ·exact((h.th x b).2 i a).1 q
  ·have:=x.lt (h.th x b).1 i a;omega
def mD.get(h:mD w wr B R N X)(a:x∈X):x.At wr:=(h.th x a).1
def mD.sub(h:mD w wr B R N X)(s:Y.Sublist X):mD w wr B R N Y:=⟨h.aG,h.low,h.bw,λx a=>h.th x (s.subset a),h.vd.sublist s⟩
def mD.new(h:mD w wr B R N X)(b:aC wr w')(hy:y.At w')(c:∀i,y.own i->wr.heap.size<=i):mD w w' B R N (y::X):=by
 have k:=h.below b;have f:=h.bw.size;refine⟨k.aG,k.low,k.bw,λx d=>?_,cv.2 ⟨λx d i a q=>?_,h.vd⟩⟩
 ·rcases fw.1 d with e|q
  ·subst e;refine⟨hy,λi a=>⟨λq=>?_,?_⟩⟩
   ·have:=h.aG.lt i q;have:=c i a;omega
   ·have:=c i a;omega
  ·exact k.th x q
 ·have:=x.lt (h.th x d).1 i q;have:=c i a;omega
def mD.IW(h:mD w wr B R N (l1++x::l2))(f:Fr x.own wr w')(hy:y.At w')(l:∀i,y.own i->x.own i\/wr.heap.size<=i):mD w w' B R N (l1++y::l2):=by
 have j:=h.th x dt;have n:=h.bw.size;obtain⟨d1,d2,d3⟩:=ef.1 h.vd;obtain⟨d4,d5⟩:=cv.1 d2;have other:∀c∈l1++l2,(∀i,c.own i->¬x.own i)/\c.At wr/\∀i,c.own i->¬B.all i/\w.heap.size<=i:=λc d=>by
  rcases bt.1 d with q|q
  ·exact⟨d3 c q x dt,h.th c (by simp[q])⟩
  ·exact⟨λi a b=>d4 c q i b a,h.th c (by simp[q])⟩
 have m:∀c∈l1++l2,∀i,c.own i->¬y.own i:=λc d i a b=>by
  rcases l i b with q|q
  ·exact(other c d).1 i a q
  ·have:=c.lt (other c d).2.1 i a;omega
 refine⟨h.aG.fr f λi g q=>(j.2 i q).1 g,h.low,h.bw.trans (f.below n λi q=>(j.2 i q).2),λc d=>?_,?_⟩
 ·have d:c=y\/c∈l1++l2:=by
   simp at d ⊢;rcases d with q|q|q
   ·exact .inr (.inl q)
   ·exact .inl q
   ·exact .inr (.inr q)
  rcases d with e|q
  ·subst e;refine⟨hy,λi g=>?_⟩;rcases l i g with q|q
   ·exact j.2 i q
   ·exact⟨λk=>by have:=h.aG.lt i k;omega,z⟩
  ·exact⟨c.dW (other c q).2.1 f.u λi g=>(other c q).1 i g,(other c q).2.2⟩
 ·refine ef.2 ⟨d1,cv.2 ⟨λc d i a b=>m c (by simp[d]) i b a,d5⟩,λc d u hu=>?_⟩;rcases fw.1 hu with e|q
  ·subst e;exact m c (by simp[d])
  ·exact d3 c d u (by simp[q])
def mD.set{g:Nat}{t:TypeId}{cs:Array Value}(h:mD w wr B R N (l1++.cw g t cs::l2))(i:Nat)(v:Value):mD w (wr.setCell ⟨g,i,I⟩ v) B R N (l1++.cw g t (cs.setIfInBounds i v)::l2):=by
 have k:=h.get (x:=.cw g t cs) dt;exact h.IW ((Fr.refl (One g) _).setCell k.1 (.inl rfl) k.2.1 k.2.2 i v) ⟨k.1.bC i v,k.2⟩ λi a=>.inl a
end
end
def Oo(x:M.Act)(b:Sl):∀v∈(jQ x b).toList,v.oneCell'=true:=by
 intro v a;simp at a;repeat (first|(subst a;rfl)|(rcases a with rfl|a;rfl))
def mY(x:M.Act)(e:Int)(jo:Int->Int)(s:Int):Int:=if e=0/\x.nv=5/\s=x.sub then x.jo else if e=0/\x.nv=7/\s=x.sub then -1 else jo s
def vp(R:M.Room)(x:M.Act)(e:Int)(jo:Int->Int)(s:Int):M.vy R x e jo s=if R.eG s=true then -1 else mY x e jo s:=rfl
def zk(R:M.Room)(s:Int):Nat:=match R.aD s with | some l=>l.ready.length | none=>0
def ud(R:M.Room)(s:Int):Int×Int:=match R.aD s with | some l=>(l.dx,l.fh) | none=>(0,0)
def tv(R:M.Room)(s:Int):∃(a b:Int) (th:Bool),qW (R.aD s)=aB #[cg #[J V (ud R s).1,J V (ud R s).2],cg #[J V a,J V b,J V (zk R s)],ai (R.eG s),ai th]:=by
 unfold zk ud M.Room.eG;cases R.aD s with
 |none=>exact⟨0,0,false,rfl⟩
 |some l=>exact⟨l.cK.length,l.bF.length,true,rfl⟩
def ez(R:M.Room)(p:Int->Int)(k:Nat)(s:Int):Int:=if s<(k:Int)/\R.eG s=true then -1 else p s
def pE(R:M.Room)(p:Int->Int)(k:Nat)(h:R.eG k=true)(s:Int):ez R p (k+1) s=M.set (ez R p k) k (-1) s:=by
 unfold ez M.set;by_cases e:s=k
 ·subst e;rw[if_pos rfl,if_pos ⟨z,h⟩]
 ·rw[if_neg e];show _=if s<(k:Int)/\R.eG s=true then -1 else p s
  by_cases q:s<(k:Int)/\R.eG s=true
  ·rw[if_pos q,if_pos ⟨z,q.2⟩]
  ·rw[if_neg q,if_neg (λa=>q ⟨z,a.2⟩)]
def oC(R:M.Room)(p:Int->Int)(k:Nat)(h:R.eG k=false)(s:Int):ez R p (k+1) s=ez R p k s:=by
 unfold ez;by_cases q:s<(k:Int)/\R.eG s=true
 ·rw[if_pos q,if_pos ⟨z,q.2⟩]
 ·rw[if_neg q,if_neg (λa=>by
   by_cases e:s=k
   ·subst e;rw[h]at a;cases a.2
   ·exact q ⟨z,a.2⟩)]
def vA{B:RB}{R:M.Room}{N M' g mb:Nat}{w:aw}{C8:Int->M.Jn}{jo:Int->Int}(x:M.Act)(sl:Sl)(e:Int)(h:aL w B R N)(o:ck w g mb C8 jo M')(hg:¬B.all g)(hm:¬B.all mb)
  (Bc:e=0->4<=x.nv->x.nv<=7->0<=x.sub/\x.sub<6) (Bj:e=0->x.nv=3->0<=x.jo/\x.jo<3) (hM:M'<900000) :
  aF af 17 #[aq (Z ⟨g,0,I⟩),aq (Z ⟨B.g,0,I⟩),cg (jQ x sl),J V e] w λr w'=>r=av (aB #[])/\ck w' g mb (M.kF x e C8) (M.vy R x e jo) (M'+3)/\Fr (jK g mb) w w':=by
 have ec:∀W,Fr (jK g mb) w W->aL W B R N:=λW f=>h.fr f λi hi q=>by
  rcases q with rfl|rfl
  ·exact hg hi
  ·exact hm hi
 obtain⟨J1,BF⟩:=dH (M.kF x e C8);obtain⟨p1,Cj⟩:=dH (mY x e jo);obtain⟨p2,Ck⟩:=dH (M.vy R x e jo);have Bm:∀W nB,ck W g mb J1 nB (M'+3)->(∀s:Nat,s<6->nB s=ez R p1 6 s)->ck W g mb J1 p2 (M'+3):=λW nB q k=>q.congr (λ_ _=>rfl) λs hs=>by
  rw[k s hs,Ck,vp,<-Cj];unfold ez;by_cases hq:R.eG s=true
  ·rw[if_pos hq,if_pos ⟨z,hq⟩]
  ·rw[if_neg hq,if_neg (λm=>hq m.2)]
 rw[<-BF,<-Ck];obtain⟨wU,l,L,AJ,ya,P,C⟩:=lV ec o Bm BF Cj Bc Bj;clear ec h o hg hm BF Cj Ck Bm Bc Bj;go_enter func17,ntmps17;go_upto_region 1 with fail;obtain⟨r6,e6⟩:=dH w.heap.size;rw[<-e6];have hl:=l.O.lt;have C9:¬One g r6:=λq=>by have q:r6=g:=q;omega
 have Bt:¬jK g mb r6:=λq=>by rcases q with q|q<;>omega
 have al:aC w (w.alloc (.cells (jQ x sl) 45)):=(ao _ w).alloc (aj _) _;refine aW (λX=>aK X r6 45 (jQ x sl)/\ck X g mb C8 jo M'/\Fr (jK g mb) w X) ⟨aK.newAt _ _ _ _ e6,l.O.below al,.bn al⟩ ?_;clear al e6 l hl;obtain⟨N6,Dm⟩:=bu C9 Bt;clear C9 Bt;rintro X ⟨A,o,f⟩;obtain⟨t,l,y⟩:=bU A o f;have k0:=A.cell 0;have k1:=A.cell 1;have Y:=A.cell 2;have D:=A.cell 11;have E:=A.cell 12;have F:=A.cell 13;simp at k0 k1 Y D E F;clear A o f;obtain⟨b1,Dv⟩:=dH (decide (e=0/\4<=x.nv/\x.nv<=7));have p:=au Dv;clear Dv;go_cut [26] (λv wc=>v=ai b1/\X=wc);case first =>
  clear k1 Y D E F C wU L l y t AJ ya P;by_cases he:e=0
  ·subst he;by_cases h4:4<=x.nv
   ·by_cases h7:x.nv<=7
    ·have E2:Hd (true=b1):=au (by rw[p.O];exact(decide_eq_true ⟨rfl,h4,h7⟩).symm);clear p;go_wp2_with fail;go_meet;exact⟨congrArg ai E2.O,rfl⟩
    ·have E2:Hd (false=b1):=au (by rw[p.O];exact(decide_eq_false (λq=>h7 q.2.2)).symm);clear p;go_wp2_with fail;go_meet;exact⟨congrArg ai E2.O,rfl⟩
   ·have E2:Hd (false=b1):=au (by rw[p.O];exact(decide_eq_false (λq=>h4 q.2.1)).symm);clear p;go_wp2_with fail;go_meet;exact⟨congrArg ai E2.O,rfl⟩
  ·have hw:(e==0)=false:=by simpa using he
   have E2:Hd (false=b1):=au (by rw[p.O];exact(decide_eq_false (λq=>he q.1)).symm);clear p he;go_wp2_with fail;go_meet;exact⟨congrArg ai E2.O,rfl⟩
 case rest =>
 obtain⟨rfl,rfl⟩:=hcut;go_upto_if 26 with fail;go_cut [] (λwc=>ck wc g mb J1 p1 M'/\aK wc r6 45 (jQ x sl)/\Fr (jK g mb) w wc);case first =>
  clear Y D E F C wU L;have fin:∀W J' p',ck W g mb J' p' M'->(∀s:Nat,s<6->J1 s=J' s)->(∀s:Nat,s<6->p1 s=p' s)->Fr (jK g mb) X W->ck W g mb J1 p1 M'/\aK W r6 45 (jQ x sl)/\Fr (jK g mb) w W:=λW J' p' a b c d =>
   ⟨a.congr b c,t.O.dW d.u Dm.O,y.O.trans d⟩
  have same:(¬(e=0/\x.nv=4))->∀s:Nat,s<6->J1 s=C8 s:=λq s _=>by rw[AJ.O];unfold M.kF;rw[if_neg (λm=>q ⟨m.2.1,m.1⟩)]
  have Ac:(¬(e=0/\x.nv=5))->(¬(e=0/\x.nv=7))->∀s:Nat,s<6->p1 s=jo s:=λq q' s _=>by rw[ya.O];unfold mY;rw[if_neg (λm=>q ⟨m.1,m.2.1⟩),if_neg (λm=>q' ⟨m.1,m.2.1⟩)]
  obtain⟨Ao,U,T⟩:=bU fin same Ac;clear fin same Ac;cases b1;rotate_left
  ·have hd:=p.O;rw[eq_comm,decide_eq_true_iff]at hd;obtain⟨he,hd⟩:=hd;clear p
   ·obtain⟨s0,s6⟩:=P.O he hd.1 hd.2;obtain⟨k,hk⟩:∃k:Nat,x.sub=k:=⟨x.sub.toNat,z⟩;have AN:k<6:=z;have HK:=au hk;rw[hk]at k1;obtain⟨c1,c2⟩:=l.O.cell AN;have hb:(k:Int)<6:=z;clear s0 s6 P;rcases(z:x.nv=4\/x.nv=5\/x.nv=6\/x.nv=7) with h4|h4|h4|h4
    ·rw[h4]at k0;obtain⟨cs,q1,q2,q3⟩:=l.O.ex;obtain⟨DB,EV,n⟩:=bU q1 q2.size h4;subst he;clear q1 q2 q3 h4 hd c1 c2;go_upto_region 4 with fail;refine wp_region_held_drew (S:=λW=>cS (One g) X W) cC ((cS.refl _ _).drew) (λhH=>?_);refine fS 0 (aq (Z ⟨g,0,I⟩)) rfl hH ?_;try simp only[aA,pqq]
     refine fS 1 (aq (Z ⟨r6,1,I⟩)) rfl hH ?_;simp only[aA,pqq]
     refine fS 2 (J V k) rfl hH ?_ (hy:=λW hW=>by have q:=(t.O.dW hW N6.O).cell 1;simp[hk]at q;go_simp);simp only[aA,pqq]
     refine Fj 3 _ rfl (yieldsIf_load_mid jP 45 (.tmp 6) rfl r6 0 rfl (jQ x sl:Array Value).toList _ (λW hW j v hv=>by rw[cO,(t.O.dW hW N6.O).cell];simpa using hv) underlying45 rfl pV) hH ?_;simp only[aA,pqq]
     refine fS 4 (aq (Z ⟨g,0,I⟩)) rfl hH ?_;simp only[aA,pqq]
     refine fS 5 (aq (Z ⟨g,0,I⟩)) rfl hH ?_;simp only[aA,pqq]
     refine fS 6 (aq (Z ⟨g,k*14,I⟩)) rfl hH ?_;simp only[aA,pqq]
     refine wpAnyH_ready (rs:=[7]) cC dt ?_;refine AllReadyH.cons rfl (λK hK=>?_) AllReadyH.nil;refine lj jP (.tmp 37) (.tmp 34) _ jP g (k*14) _ _ rfl (jQ x sl) rfl pV DB.O.drew (by rw[EV.O];show k*14+14<=91;omega) (Oo x sl) ?_;intro w5 DC u5;refine hK.out _ _ (((cS.refl (One g) X).drew).trans u5) (λh3=>?_);clear hK K;try simp only[aA,pqq]
     refine wpAnyH_done cC ?_ _;have m:=l.O.iJ AN x sl DB.O DC (((cS.refl (One g) X).drew).trans u5);have HZ:=au m;clear m DC u5 h3 hH;go_wp2_with fail;go_meet;exact Ao.O _ _ _ HZ.O.1 (λs hs=>by
      rw[AJ.O];unfold M.kF M.set
      by_cases q:(s:Int)=k
      ·rw[if_pos q,if_pos ⟨n.O,rfl,by rw[HK.O];exact q⟩]
      ·rw[if_neg q,if_neg (λm=>q (by rw[<-HK.O];exact m.2.2))]) (T.O (λq=>by have:=q.2;have:=n.O;omega) (λq=>by have:=q.2;have:=n.O;omega)) HZ.O.2
    ·rw[h4]at k0;have n:=au h4;have Y:=t.O.cell 2;simp at Y;subst he;clear h4 hd;go_upto_region 6 with fail;go_region;have m:=(l.O.dW (G:=cr) ((cS.refl cr X).drew) id id).put AN x.jo;have HZ:=au (And.intro m.1 (((Fr.refl (jK g mb) X).drew).trans m.2));clear m c1 c2;go_wp2_with fail;go_meet;exact Ao.O _ _ _ HZ.O.1 (U.O (λq=>by have:=q.2;have:=n.O;omega)) (λs hs=>by
      rw[ya.O];unfold mY M.set
      by_cases q:(s:Int)=k
      ·rw[if_pos q,if_pos ⟨rfl,n.O,by rw[HK.O];exact q⟩]
      ·rw[if_neg q,if_neg (λm=>q (by rw[<-HK.O];exact m.2.2)),if_neg (λm=>by have:=m.2.1;have:=n.O;omega)]) HZ.O.2
    ·rw[h4]at k0;have n:=au h4;subst he;clear h4 hd c1 c2;go_wp2_with fail;go_meet;exact Ao.O _ _ _ l.O (U.O (λq=>by have:=q.2;have:=n.O;omega)) (T.O (λq=>by have:=q.2;have:=n.O;omega) (λq=>by have:=q.2;have:=n.O;omega)) (Fr.refl _ _)
    ·rw[h4]at k0;have n:=au h4;subst he;clear h4 hd;go_upto_region 8 with fail;go_region;have m:=(l.O.dW (G:=cr) ((cS.refl cr X).drew) id id).put AN (-1);have HZ:=au (And.intro m.1 (((Fr.refl (jK g mb) X).drew).trans m.2));clear m c1 c2;go_wp2_with fail;go_meet;exact Ao.O _ _ _ HZ.O.1 (U.O (λq=>by have:=q.2;have:=n.O;omega)) (λs hs=>by
      rw[ya.O];unfold mY M.set
      rw[if_neg (λm=>by have:=m.2.1;have:=n.O;omega)]
      by_cases q:(s:Int)=k
      ·rw[if_pos q,if_pos ⟨rfl,n.O,by rw[HK.O];exact q⟩]
      ·rw[if_neg q,if_neg (λm=>q (by rw[<-HK.O];exact m.2.2))]) HZ.O.2
  ·have hn:=p.O;rw[eq_comm,decide_eq_false_iff_not]at hn;have HN:=au hn;clear hn p P;go_wp2_with fail;go_meet;exact Ao.O _ _ _ l.O (U.O (λq=>HN.O ⟨q.1,z,z⟩)) (T.O (λq=>HN.O ⟨q.1,z,z⟩) (λq=>HN.O ⟨q.1,z,z⟩)) (Fr.refl _ _)
 case rest =>
  obtain⟨o,A,f⟩:=hcut;clear l t y k0 k1 Y D E F AJ ya P;obtain⟨t,l,y⟩:=bU A o f;have k0:=A.cell 0;have Y:=A.cell 2;have D:=A.cell 11;have E:=A.cell 12;have F:=A.cell 13;simp at k0 Y D E F;clear A o f;obtain⟨b2,D8⟩:=dH (decide (e=0/\x.nv=3));have H:=au D8;clear D8;go_upto_region 9 with fail;go_cut [62] (λv wd=>v=ai b2/\wc=wd);case first =>
   clear Y D E F C wU L l y t;by_cases he:e=0
   ·subst he;by_cases h3:x.nv=3
    ·have E2:Hd (true=b2):=au (by rw[H.O];exact(decide_eq_true ⟨rfl,h3⟩).symm);clear H;go_wp2_with fail;go_meet;exact⟨congrArg ai E2.O,rfl⟩
    ·have E2:Hd (false=b2):=au (by rw[H.O];exact(decide_eq_false (λq=>h3 q.2)).symm);have E8:(x.nv==3)=false:=by simpa using h3
     clear H h3;go_wp2_with fail;go_meet;exact⟨congrArg ai E2.O,rfl⟩
   ·have hw:(e==0)=false:=by simpa using he
    have E2:Hd (false=b2):=au (by rw[H.O];exact(decide_eq_false (λq=>he q.1)).symm);clear H he;go_wp2_with fail;go_meet;exact⟨congrArg ai E2.O,rfl⟩
  case rest =>
  obtain⟨rfl,rfl⟩:=hcut;go_upto_if 62 with fail;go_cut [] (λwd=>ck wd g mb J1 p1 (M'+3)/\Fr (jK g mb) w wd);case first =>
   clear L wU;cases b2;rotate_left
   ·have hd:=H.O;rw[eq_comm,decide_eq_true_iff]at hd;obtain⟨he,h3⟩:=hd;have hp:=C.O he h3;rw[h3]at k0;clear H;have HP:=au hp;clear hp h3 C;have st:∃k:Nat,(J V 0)=J V k/\k<=3/\ck wc g mb J1 p1 (M'+k)/\aK wc r6 45 (jQ x sl)/\Fr (jK g mb) w wc:=⟨0,rfl,z,l.O,t.O,y.O⟩;have ET:=au st;clear st l t y;go_wp2_with fail;go_loopw [65] (λv wr=>∃k:Nat,v=J V k/\k<=3/\ck wr g mb J1 p1 (M'+k)/\aK wr r6 45 (jQ x sl)/\Fr (jK g mb) w wr) (λv _=>3-(bS v).toNat);case atStart=>exact ET.O
    case round =>
     clear ET k0 Y D E F;obtain⟨k,rfl,hk,o,A,f⟩:=hrel;by_cases AO:k<3
     ·have Y:=A.cell 2;simp at Y;have mc:=o.Aa;obtain⟨w5,AH,hA5,f5⟩:=(o.dW (G:=cr) ((cS.refl cr wr).drew) id id).src z (x.jo,(k:Int)) (ir ⟨by show(-1000000000000:Int)<=x.jo;have:=HP.O;omega,by show x.jo<=1000000000000;have:=HP.O;omega⟩ ⟨by show(-1000000000000:Int)<=k;omega,by show(k:Int)<=1000000000000;omega⟩) (J ar (if k=0 then x.s0 else if k=1 then x.s1 else x.s2));have AH:(Instr.mapUpdate 82 (.map (Z mb)) (cg #[J V x.jo,J V k]) (J ar (if k=0 then x.s0 else if k=1 then x.s1 else x.s2))).run af wr.drew=.ok () w5:=AH;have Cm:Fr (jK g mb) wr w5:=((Fr.refl (jK g mb) wr).drew).trans f5;obtain⟨CU,Q,C2⟩:=bU hA5 (A.dW Cm.u Dm.O) (f.trans Cm);clear o A f hA5 f5 Cm;have i0:=λW=>M5 x.s0 x.s1 x.s2 W;have i1:=λW=>M4 x.s0 x.s1 x.s2 W;have i2:=λW=>M3 x.s0 x.s1 x.s2 W;rcases(z:k=0\/k=1\/k=2) with rfl|rfl|rfl
      all_goals
       simp at AH;go_upto_region 13 with fail;go_region;go_wp2_with fail;go_roundw;case rel=>first|exact⟨1,rfl,z,CU.O,Q.O,C2.O⟩|exact⟨2,rfl,z,CU.O,Q.O,C2.O⟩|exact⟨3,rfl,z,CU.O,Q.O,C2.O⟩
       case measure=>simp[bS]
     ·have C6:k=3:=z;subst C6;obtain⟨l,y⟩:=bu o f;clear o A f;go_wp2_with fail;go_meet;exact⟨l.O,y.O⟩
   ·clear C H;go_wp2_with fail;go_meet;exact⟨l.O.mono z,y.O⟩
  case rest =>
   obtain⟨o,f⟩:=hcut;clear l y k0 Y D E F t;obtain⟨l,y⟩:=bu o f;clear o f;go_wp2_with fail;go_loopw [79] (λv wr=>∃k:Nat,v=J V k/\k<=6/\ck wr g mb J1 (ez R p1 k) (M'+3)/\Fr (jK g mb) w wr) (λv _=>6-(bS v).toNat);case atStart=>exact⟨0,rfl,z,l.O.congr (λ_ _=>rfl) (λs hs=>by unfold ez;rw[if_neg (λq=>by have:=q.1;omega)]),y.O⟩
   case round =>
    clear l y;obtain⟨k,rfl,hk,o,f⟩:=hrel;by_cases AO:k<6
    ·have Ff:((k:Int)<6):=z;have hR:=wU.O _ f;have hL:=AZ hR (k:Int) (Ig z z);obtain⟨c1,c2⟩:=o.cell AO;obtain⟨la,lb,th,AI⟩:=tv R k;rw[AI]at hL;obtain⟨ln,EU⟩:=dH (zk R k);obtain⟨c0,t0⟩:=dH (ud R k);obtain⟨gn,C7⟩:=dH (R.eG k);rw[<-EU,<-C7]at hL;generalize (ud R k).1=EW at hL;generalize (ud R k).2=EZ at hL;obtain⟨HC,HL,l,y⟩:=cA C7 hL o f;clear hL C7 EU AI o f hR t0;go_upto_region 19 with(go_at_call 15;refine HL.O.mono ?_;rintro e w5 ⟨rfl,b5⟩;have Q:=au b5;clear b5)
     have bb:aC wr ((w5.alloc (.cells #[J V EW,J V EZ] 68)).alloc (.cells #[J V la,J V lb,J V ln] 69)):=(Q.O.alloc Q.O.size _).alloc (by have:=Q.O.size;simp;omega) _;refine aW (λE0=>ck E0 g mb J1 (ez R p1 k) (M'+3)/\Fr (jK g mb) w E0) ⟨l.O.below bb,y.O.trans (.bn bb)⟩ ?_;clear l y Q HL bb c1 c2;rintro E0 ⟨o,f⟩;obtain⟨c1,c2⟩:=o.cell AO;obtain⟨l,y⟩:=bu o f;clear o f;cases gn
     ·clear c1 c2;go_wp2_with fail;go_roundw;case rel=>exact⟨k+1,by go_num,z,l.O.congr (λ_ _=>rfl) (λs _=>oC R p1 k HC.O.symm s),y.O⟩
      case measure=>simp[bS];omega
     ·have HZ:=au (l.O.put AO (-1));go_wp2_with fail;go_roundw;case rel=>exact⟨k+1,by go_num,z,HZ.O.1.congr (λ_ _=>rfl) (λs _=>pE R p1 k HC.O.symm s),y.O.trans HZ.O.2⟩
      case measure=>simp[bS];omega
    ·have C6:k=6:=z;subst C6;obtain⟨l,y⟩:=bu o f;clear o f;go_wp2_with fail;refine bodyPost_end (results_none results17 _ _ _) rfl ?_;refine⟨rfl,?_,?_⟩
     ·exact L.O _ _ l.O (λ_ _=>rfl)
     ·exact y.O
namespace M
def rR{s:Int}(h:fY s=true):0<=s/\s<6:=by simpa[fY]using h
def tg{s:Int}(h:mB s=true):0<=s/\s<3:=by simpa[mB]using h
def xJ(R:Room)(x:Act)(h:(R.act x).2.1=0)(h4:4<=x.nv)(h7:x.nv<=7):0<=x.sub/\x.sub<6:=by
 refine rR ?_;unfold Room.act at h;rcases(z:x.nv=4\/x.nv=5\/x.nv=6\/x.nv=7) with e|e|e|e<;>simp[e]at h
 ·unfold Room.iJ at h;cases q:fY x.sub
  ·rw[q]at h;split at h<;>simp at h
  ·rfl
 ·unfold Room.dN at h;cases q:fY x.sub
  ·rw[q]at h;simp only[Bool.not_false,Bool.true_or,if_true]at h;repeat' split at h
   all_goals simp at h
  ·rfl
 ·unfold Room.iy at h;cases q:fY x.sub
  ·rw[q]at h;split at h<;>simp at h
  ·rfl
 ·unfold Room.jE at h;cases q:fY x.sub
  ·rw[q]at h;split at h<;>simp at h
  ·rfl
def xK(R:Room)(x:Act)(h:(R.act x).2.1=0)(h3:x.nv=3):0<=x.jo/\x.jo<3:=by
 refine tg ?_;unfold Room.act at h;simp[h3]at h;unfold Room.gg at h;cases q:mB x.jo
 ·rw[q]at h;split at h<;>simp at h
 ·rfl
end M
section
theorem kX:(af.info? 101).map (·.size)=Z 13:=cC
theorem rK(a:M.kM)(s e y:Sl):∀v∈(RZ a s e y).toArray.toList,v.oneCell'=true:=by
 intro v b;simp at b;repeat (first|(subst b;rfl)|(rcases b with rfl|b;rfl))
theorem mi{dx:Array Value}{vs:List Value}(h:dx.size=vs.length):de dx 0 vs=vs.toArray:=by
 unfold de;rw[List.take_zero,List.nil_append,cO,List.drop_of_length_le (by simp[h]),List.append_nil]
def wO(w:aw)(R:M.Room)(id:Int)(e:Ending)(w':aw):Prop:=(∃(a:M.kM) (s ex y:Sl) (b:Bool),e=av (aB #[cg (RZ a s ex y).toArray,ai b])/\∀(k:Nat) a',id=k->R.aO[k]? = Z a'->a=a')/\aC w w'
section
variable {B:RB} {R:M.Room} {N:Nat} {w:aw} (h:aL w B R N)
include h
theorem pW(id:Int):aF af 23 #[aq (Z ⟨B.g,0,I⟩),J V id] w (wO w R id):=by
 have c9:=h.cw.cell 14;simp at c9;obtain⟨q,own,fit⟩:=(h.part .aO:∃q,_/\Fit (uJ w) R.aO q);obtain⟨A,c,hv⟩:=bA own;rw[hv]at c9 own;obtain⟨nB,N⟩:=bu own fit;clear h own fit hv;go_enter func23,ntmps23;go_upto_region 1 with fail;obtain⟨r4,e4⟩:=dH w.heap.size;rw[<-e4];refine aW (λX=>(∃S,aK X r4 101 S/\S.size=13)/\aC w X) ⟨⟨_,aK.newAt _ _ _ _ e4,rfl⟩,(ao _ w).alloc (aj _) _⟩ ?_;have h4:w.heap.size<=r4:=z;clear e4;rintro X ⟨⟨S,b4,hz⟩,bX⟩;have k9:=aM bX c9;obtain⟨B4,BX,HZ,H4⟩:=cA b4 bX hz h4;clear b4 bX hz c9 h4;by_cases H:id<0\/(R.aO.length:Int)<=id
 ·have Ac:∀(k:Nat) a',id=k->R.aO[k]? = Z a'->(⟨(0,0),0,M.cR.zero⟩:M.kM)=a':=λk a' q1 q2=>by
   have:=(aS.1 q2).1;omega
  have Ck:=au Ac;clear Ac nB N;by_cases Cm:id<0;all_goals
   have Ao:id<0\/(R.aO.length:Int)<=id:=H;try have Ao:(R.aO.length:Int)<=id:=z
   clear H;go_wp2_with (refine jb _ rfl (.tmp 4) (.tmp 18) 101 rfl r4 0 101 S rfl (RZ ⟨(0,0),0,M.cR.zero⟩ Sl.nil Sl.nil Sl.nil).toArray rfl kX B4.O (by rw[HZ.O];exact aj _) (rK _ _ _ _) ?_;intro w6 d u6);rw[mi (by rw[HZ.O];rfl)]at d;refine ax (ux results23 _ _ _ d rfl underlying101 rfl kX rfl) rfl ?_;refine⟨⟨_,_,_,_,_,rfl,Ck.O⟩,?_⟩;exact BX.O.trans (u6.below BX.O.size (λi q=>by rw[show i=r4 from q];exact H4.O))
 ·obtain⟨k,rfl⟩:∃k:Nat,id=k:=⟨id.toNat,z⟩;have hk:k<R.aO.length:=z;have Cm:¬(k:Int)<0:=z;have Ao:¬(R.aO.length:Int)<=(k:Int):=z;have C2:(k:Int)<(R.aO.length:Int):=z;clear H;obtain⟨a,cs,ha,AH,s,ex,y,rfl,hP⟩:=N.O.MD hk;obtain⟨g,cap,dx,e1,_,C6,_,AI,CU,K⟩:=Cz nB.O (N.O.len (R:=uJ w) (k:=13) (λx c h=>by obtain⟨_,_,_,rfl,_⟩:=h;rfl)) z;injection e1 with e1 e2 e3
  subst e1 e3;have T:∀j,j<(RZ a s ex y).toArray.size->dx[k*13+j]? = (RZ a s ex y).toArray[j]?:=λj hj=>(K k _ AH j hj).trans dt;have U:∀(k':Nat) a',(k:Int)=k'->R.aO[k']? = Z a'->a=a':=λk' a' q1 q2=>by
   have:k=k':=z;subst this;rw[ha]at q2;cases q2;rfl
  obtain⟨AJ,ec,F,AN⟩:=cA (AI.kept BX.O) T hP U;clear ha AH hP K T U AI CU nB N hk;go_upto_region 4 with(refine lI _ rfl (.tmp 24) 101 rfl g (k*13) 101 dx rfl (RZ a s ex y).toArray _ underlying101 kX AJ.O ec.O ?_)
  obtain⟨G,e6⟩:=dH X.heap.size;rw[<-e6];refine aW (λY=>aK Y G 101 (RZ a s ex y).toArray/\aC X Y) ⟨aK.newAt _ _ _ _ e6,(ao _ X).alloc (aj _) _⟩ ?_;have n46:r4≠G:=by have:=B4.O.lt;omega
  have h6:w.heap.size<=G:=by have:=BX.O.size;omega
  clear e6;rintro w6 ⟨d,b6⟩;have AO:∀W,aC w W->aF af 61 #[ae s.a s.n s.c] W λe w'=>(∃L E,e=av (ae L s.n E)/\TL 41 ar w' L s.n a.bW.aQ/\s.n<=E/\E<=maxLen/\(L=I->E=0))/\aC W w':=λW b =>
   GU s.a s.n s.c a.bW.aQ W (F.O.s.below b).tl (by have:=F.O.s.tl.len;have:=F.O.small.1;omega) F.O.s.zero
  have Bc:∀W,aC w W->aF af 57 #[ae ex.a ex.n ex.c] W λe w'=>(∃L E,e=av (ae L ex.n E)/\TL 5 bI w' L ex.n a.bW.fp/\ex.n<=E/\E<=maxLen/\(L=I->E=0))/\aC W w':=λW b =>
   mC ex.a ex.n ex.c a.bW.fp W (F.O.e.below b).tl (by have:=F.O.e.tl.len;have:=F.O.small.2.1;omega) F.O.e.zero
  have Bj:∀W,aC w W->aF af 57 #[ae y.a y.n y.c] W λe w'=>(∃L E,e=av (ae L y.n E)/\TL 5 bI w' L y.n a.bW.cF/\y.n<=E/\E<=maxLen/\(L=I->E=0))/\aC W w':=λW b =>
   mC y.a y.n y.c a.bW.cF W (F.O.y.below b).tl (by have:=F.O.y.tl.len;have:=F.O.small.2.2;omega) F.O.y.zero
  obtain⟨Bm,Bt,BF⟩:=bU AO Bc Bj;have r:=BX.O.trans (b6.mono BX.O.size);have t:=B4.O.kept b6;have m:=d.cell 8;have f:=d.frozen 8;simp at m;obtain⟨v,l,C⟩:=bU d r t;clear AO Bc Bj r t d b6 BX B4 F AJ ec k9;go_upto_region 5 with(go_big_may;go_at_call 61;refine(Bm.O _ l.O).mono ?_;rintro e w7 ⟨⟨A8,c8,rfl,_⟩,b7⟩;have o:=v.O.kept b7;have m:=o.cell 8;have f:=o.frozen 8;simp at m;have D:=au o;have u:=au b7;clear o b7)
  refine aW (λY=>aK Y G 101 (RZ a ⟨A8,s.n,c8⟩ ex y).toArray/\aC w Y/\aK Y r4 101 S) ⟨D.O.bC 8 _,(l.O.trans (u.O.mono l.O.size)).setCell (p:=⟨G,8,I⟩) h6 _,(C.O.kept u.O).dS (p:=⟨G,8,I⟩) n46 _⟩ ?_;clear v l C D u m f Bm;rintro Y ⟨d,r,t⟩;have m:=d.cell 11;have f:=d.frozen 11;simp at m;obtain⟨v,l,C⟩:=bU d r t;clear d r t;go_upto_region 6 with(go_big_may;go_at_call 57;refine(Bt.O _ l.O).mono ?_;rintro e w7 ⟨⟨P,Q,rfl,_⟩,b7⟩;have o:=v.O.kept b7;have m:=o.cell 11;have f:=o.frozen 11;simp at m;have D:=au o;have u:=au b7;clear o b7)
  refine aW (λY=>aK Y G 101 (RZ a ⟨A8,s.n,c8⟩ ⟨P,ex.n,Q⟩ y).toArray/\aC w Y/\aK Y r4 101 S) ⟨D.O.bC 11 _,(l.O.trans (u.O.mono l.O.size)).setCell (p:=⟨G,11,I⟩) h6 _,(C.O.kept u.O).dS (p:=⟨G,11,I⟩) n46 _⟩ ?_;clear v l C D u m f Bt;rintro Y ⟨d,r,t⟩;have m:=d.cell 12;have f:=d.frozen 12;simp at m;obtain⟨v,l,C⟩:=bU d r t;clear d r t;go_upto_region 7 with(go_big_may;go_at_call 57;refine(BF.O _ l.O).mono ?_;rintro e w7 ⟨⟨wU,ya,rfl,_⟩,b7⟩;have o:=v.O.kept b7;have m:=o.cell 12;have f:=o.frozen 12;simp at m;have D:=au o;have u:=au b7;clear o b7)
  refine aW (λY=>aK Y G 101 (RZ a ⟨A8,s.n,c8⟩ ⟨P,ex.n,Q⟩ ⟨wU,y.n,ya⟩).toArray/\aC w Y/\aK Y r4 101 S) ⟨D.O.bC 12 _,(l.O.trans (u.O.mono l.O.size)).setCell (p:=⟨G,12,I⟩) h6 _,(C.O.kept u.O).dS (p:=⟨G,12,I⟩) n46 _⟩ ?_;clear v l C D u m f BF;rintro Y ⟨d,r,t⟩;have v:=au d;have l:=au r;have C:=au t;clear d r t;go_wp2_with (first
   |(refine lI _ rfl (.tmp 6) 101 rfl G 0 101 _ rfl (RZ a ⟨A8,s.n,c8⟩ ⟨P,ex.n,Q⟩ ⟨wU,y.n,ya⟩).toArray _ underlying101 kX v.O (λj _=>by rw[cO]) ?_)
   |(refine jb _ rfl (.tmp 4) (.tmp 44) 101 rfl r4 0 101 S rfl (RZ a ⟨A8,s.n,c8⟩ ⟨P,ex.n,Q⟩ ⟨wU,y.n,ya⟩).toArray rfl kX C.O (by rw[HZ.O];exact aj _) (rK _ _ _ _) ?_;intro w8 Cj u8))
  rw[mi (by rw[HZ.O];rfl)]at Cj;refine ax (ux results23 _ _ _ Cj rfl underlying101 rfl kX rfl) rfl ?_;refine⟨⟨_,_,_,_,_,rfl,AN.O⟩,?_⟩;exact l.O.trans (u8.below l.O.size (λi q=>by rw[show i=r4 from q];exact H4.O))
end
end
def zF{l:List M.Act}(h:qV l=false):l.length<=120/\∀x∈l,x.b.length<=400:=by
 unfold qV at h;rw[Bool.or_eq_false_iff,decide_eq_false_iff_not,oA]at h;refine⟨z,λx a=>?_⟩;have:=h.2 x a;simp at this;exact this
def qL{w:aw}{g:Nat}{t:TypeId}{cs:Array Value}(h:aK w g t cs):w.rangeAt g 0 cs.toList:=λj v a=>by rw[cO];exact(h.cell j).trans (by simpa using a)
def IM(w:aw):Prop:=∀W,aC w W->aF af 8 #[] W λe W'=>e=av (ai true)/\aC W W'
def ck.Ab{w:aw}{g mb:Nat}{a:Int->M.Jn}{jo:Int->Int}{N:Nat}(h:ck w g mb a jo N){s:Nat}(b:s<6):w.cell? ⟨g,s*14+8,I⟩=Z (J ar (a s).own)/\w.cell? ⟨g,s*14+9,I⟩=Z (J ar (a s).aU)/\w.cell? ⟨g,s*14+10,I⟩=Z (J aN (a s).dQ):=by
 obtain⟨cs,h1,h2,_⟩:=h.ex;exact⟨(h1.cell _).trans (h2.own s b),(h1.cell _).trans (h2.aU s b),(h1.cell _).trans (h2.dQ s b)⟩
def wrap_u16(x:Int):aN.wrap x=x % 65536:=by simp[iN,fR,gM]
def wrap_u32(x:Int):ar.wrap x=x % 4294967296:=by simp[iN,fR,gM]
def uG(a b c d:Int)(W:aw):(Op.equalIn 10000 91 (cg #[J V a,J V b]) (cg #[J V c,J V d])).run af W=.ok (a==c&&b==d) W:=by
 have e:af.underlying 91=Z (.struct (af.fieldsOf 91)):=cC;have hp:af.stoodInHeld 91=false:=cC;have h3:af.underlying 3=Z (.int V):=cC;have f:af.cellsOf 3=1:=cC;rw[show(10000:Nat)=9999+1 from rfl,run_equalIn_struct W 9999 91 _ _ e hp];simp only[Program.fieldsOf,underlying91];simp[go_sem];by_cases h1:a=c<;>by_cases h2:b=d<;>simp[h1,h2]
def wq(aG eJ cX eA ek aT:Int)(A1:Option Addr)(n1 c1:Nat)(l:List M.Act)(w:aw)(h1:pZ w A1 n1 l)(HA:IM w) :
  aF af 6 #[cg #[J V aG,J V eJ,J V cX,J V eA,J V ek,J V aT],ae A1 n1 c1] w λe w'=>e=av (ai true)/\aC w w':=by
 obtain⟨H1,PN⟩:=bu h1 HA;have TA:=h1.1;clear h1 HA;go_enter func6,ntmps6;go_upto_region 1 with fail;obtain⟨r2,e2⟩:=dH w.heap.size;rw[<-e2];refine aW (λX=>aK X r2 25 #[J V aG,J V eJ,J V cX,J V eA,J V ek,J V aT]/\aC w X) ⟨aK.newAt _ _ _ _ e2,(ao _ w).alloc (aj _) _⟩ ?_;have h2:w.heap.size<=r2:=z;clear e2;rintro X ⟨b2,bX⟩;obtain⟨PO,Bt,Hs⟩:=bU (PN.O X bX) b2 bX;clear b2 bX PN;go_upto_region 3 with(go_at_call 8;refine PO.O.mono ?_;rintro e w2 ⟨rfl,b3⟩;have ec:=au b3;clear b3)
 have bw:=Hs.O.trans (ec.O.mono Hs.O.size);have b2:=Bt.O.kept ec.O;have k0:=b2.cell 0;have k1:=b2.cell 1;have k2:=b2.cell 2;have k3:=b2.cell 3;have k4:=b2.cell 4;have k5:=b2.cell 5;simp at k0 k1 k2 k3 k4 k5;obtain⟨Bt,nB⟩:=bu b2 bw;clear b2 bw Hs ec PO;cases hc:M.jr aG eJ cX eA ek aT with
 |false =>
  have RU:=λW=>xV aG eJ cX eA ek aT W hc;have HN:=au RU;clear RU hc;go_wp2_with (go_at_call 9;refine(HN.O _).mono ?_;rintro e w3 ⟨rfl,b3⟩;have nB:=au (nB.O.trans (b3.mono nB.O.size));clear b3);go_ret;exact⟨rfl,nB.O⟩
 |true =>
  obtain⟨rm,rfl⟩:∃rm:Nat,aG=(rm:Int):=by
   have q:=hc;simp only[M.jr,cM,decide_eq_true_eq]at q;exact⟨aG.toNat,z⟩
  have Hu:=hc;simp only[M.jr,cM,decide_eq_true_eq]at Hu;obtain⟨cf,Ia⟩:=dH (⟨rm,eJ,cX,eA,ek,aT⟩:M.Ou);have BF:=λW=>tM rm eJ cX eA ek aT W hc;rw[<-Ia]at BF;obtain⟨Hh,SG,SH⟩:=bU BF Hu Ia;clear BF hc Hu Ia;go_upto_region 4 with(go_at_call 9;refine(Hh.O _).mono ?_;rintro e w3 ⟨⟨B,rfl,hR,Hi⟩,b3⟩;have ec:=au b3;have HR:=au hR;have Cj:=au Hi;clear b3 hR Hi)
  have P:mD w w3 B (.new cf) 0 [.cw r2 25 #[J V (rm:Int),J V eJ,J V cX,J V eA,J V ek,J V aT]]:=by
   have Tk:=nB.O.size;have TC:=Bt.O.lt;refine⟨HR.O,λi q=>?_,nB.O.trans (ec.O.mono Tk),λx hx=>?_,List.pairwise_singleton _ _⟩
   ·have:=Cj.O i q;omega
   ·simp at hx;subst hx;refine⟨⟨Bt.O.kept ec.O,aR,aR⟩,λi hi=>?_⟩;cases hi;exact⟨λq=>by have:=Cj.O _ q;omega,h2⟩
  have N:=au P;clear P ec HR Cj Hh nB Bt k0 k1 k2 k3 k4 k5;have SI:=λW (b:aC w W)=>xt A1 n1 c1 l W (H1.O.below b);have Ck:=au SI;clear SI;cases Cm:qV l with
  |true =>
   rw[Cm]at Ck;clear Cm;go_wp2_with (go_at_call 10;refine(Ck.O _ N.O.bw).mono ?_;rintro e w9 ⟨rfl,b9⟩;have N:=au (N.O.below b9);clear b9);go_ret;exact⟨rfl,N.O.bw⟩
  |false =>
   rw[Cm]at Ck;have SJ:=zF Cm;clear Cm;go_upto_region 6 with(go_at_call 10;refine(Ck.O _ N.O.bw).mono ?_;rintro e w9 ⟨rfl,b9⟩;have N:=au (N.O.below b9);clear b9)
   clear Ck;have Bj:=λW=>qU W;have CU:=au Bj;clear Bj;go_upto_region 7 with(go_at_call 11;refine(CU.O _).mono ?_;rintro e w9 ⟨g,mb,rfl,hA,bA,hg,hm⟩;have N:=au (N.O.new (y:=.xX g mb _ _ _) bA hA (λi hi=>by rcases hi with rfl|rfl;exact hg;exact hm));clear hA bA hg hm)
   clear CU;have wU:=au SJ;clear SJ;go_wp2_with fail;go_loopw [42] (λi wr=>∃(k:Nat) (Bk:RB) (R:M.Room) (G:Int->M.ij) (EV:Int->M.Jn) (jo:Int->Int),i=J V k/\k<=n1/\Bk.g=B.g/\mD w wr Bk R (20*k) [.xX g mb EV jo (3*k),.cw r2 25 #[J V (rm:Int),J V eJ,J V cX,J V eA,J V ek,J V aT]]/\M.lG R G k/\M.rC R G EV) (λi _=>n1-(bS i).toNat);case atStart=>exact⟨0,B,_,λ_=>⟨0,0,0,0,[],[],[]⟩,_,_,rfl,z,rfl,N.O,.start cf (by have q:=SG.O;rw[SH.O];show 1<=rm;omega) _,.start cf _ _⟩
   case round =>
    clear N;obtain⟨k,Bk,R,G,EV,jo,rfl,hk,EW,P,EZ,E0⟩:=hrel;by_cases TD:k<n1
    ·obtain⟨Bm,SK⟩:=bu EZ E0;clear EZ E0;have TE:((k:Int)<(n1:Int)):=z;have II:k<l.length:=z;obtain⟨bb,off,hA1,SL⟩:=H1.O.2.2 z;obtain⟨sl,q1,q2⟩:=SL k l[k] (ay II);have I8:=H1.O.2.1 l[k] (dy II);have I9:=wU.O.2 l[k] (dy II);have Kk:=wU.O.1;have q1:wr.rangeAt bb (off+k*14) (jQ l[k] sl).toList:=λj v hv=>aM P.bw (q1 j v hv);generalize l[k]=x at q1 q2 I8 I9;have Tl:sl.n<=400:=by rw[<-q2.len];exact I9
     subst hA1;obtain⟨N,HQ,Tm,E8⟩:=cA P q1 q2 I8;clear SL q1 q2 I8 I9 P;go_upto_region 10 with(refine gQ rfl 45 (.tmp 44) rfl bb (off+k*14) rfl (jQ x sl).toList _ HQ.O underlying45 rfl pV ?_)
     obtain⟨r9,e9⟩:=dH wr.heap.size;rw[<-e9];refine aW (λY=>mD w Y Bk R (20*k) (.cw r9 45 (jQ x sl)::[.xX g mb EV jo (3*k),.cw r2 25 #[J V (rm:Int),J V eJ,J V cX,J V eA,J V ek,J V aT]])) (N.O.new (y:=.cw r9 45 (jQ x sl)) ((ao _ _).alloc (aj _) _) ⟨aK.newAt _ _ _ _ e9,aR,aR⟩ (λi hi=>by cases hi;omega)) ?_;clear e9 N HQ;rintro Y P;have D9:=au (qL (P.get (List.mem_cons_self ..)).1);have C2:=xF P.aG Bm.O z z x E8.O sl (Tm.O.below P.bw) Tl;rw[EW]at C2;have C6:=Bm.O.act x E8.O.ok E8.O.src;have Kl:=SK.O.act x E8.O.ok;have Km:=M.xJ R x;have Kn:=M.xK R x;obtain⟨R1,Ff⟩:=dH ((R.act x).1);obtain⟨f1,Fw⟩:=dH ((R.act x).2.1);obtain⟨d1,SM⟩:=dH ((R.act x).2.2);unfold wY at C2;rw[<-Ff,<-Fw,<-SM]at C2;rw[<-Ff]at C6;rw[<-Ff,<-Fw]at Kl;rw[<-Fw]at Km Kn;have SN:=au C2;have N:=au P;have SO:=au C6;have Ko:=au Kl;have Tn:=au Km;have To:=au Kn;clear C2 P C6 Kl Km Kn Ff Fw SM Bm SK;go_upto_region 11 with(first
      |(go_at_call 14;refine SN.O.mono ?_;rintro e TF ⟨B9,rfl,SP,Kq⟩;have Hj:=Kq.g.trans EW;have C7:=au (N.O.act SP Kq);clear SP Kq)
      |(refine gQ rfl 45 (.tmp 9) rfl r9 0 rfl (jQ x sl).toList _ D9.O underlying45 rfl pV ?_))
     have SQ:=au (qL (C7.O.get (List.mem_cons_self ..)).1);have hw:=C7.O.th (.xX g mb EV jo (3*k)) dt;have Bj:=vA x sl f1 C7.O.aG hw.1 (hw.2 g (.inl rfl)).1 (hw.2 mb (.inr rfl)).1 (λq=>Tn.O q) (λq=>To.O q) z;rw[Hj]at Bj;have CU:=au Bj;clear Bj hw SN N D9;go_upto_region 12 with(first
      |(go_at_call 17;refine CU.O.mono ?_;rintro e TG ⟨rfl,hA11,f11⟩;have SU:=au (C7.O.IW (l1:=[.cw r9 45 (jQ x sl)]) (x:=.xX g mb EV jo (3*k)) (y:=.xX g mb _ _ (3*k+3)) f11 hA11 (λi hi=>.inl hi));clear hA11 f11)
      |(refine gQ rfl 45 (.tmp 9) rfl r9 0 rfl (jQ x sl).toList _ SQ.O underlying45 rfl pV ?_))
     clear C7 CU SQ;go_wp2_with fail;go_roundw;case rel=>exact⟨k+1,B9,R1,_,_,_,by go_num,z,Hj,SU.O.sub (List.sublist_cons_self _ _),SO.O,Ko.O⟩
     case measure=>simp[bS];omega
    ·have Tp:k=n1:=z;have Kk:=wU.O.1;subst Tp;obtain⟨SV,N⟩:=bu (λ(s:Int) i=>M.zB EZ.inv E0 z s i) P;clear P EZ E0 H1 wU SG SH;go_wp2_with fail;go_loopw [58] (λi wr=>∃s:Nat,i=J V s/\s<=6/\mD w wr Bk R (20*k) [.xX g mb EV jo (3*k),.cw r2 25 #[J V (rm:Int),J V eJ,J V cX,J V eA,J V ek,J V aT]]) (λi _=>6-(bS i).toNat);case atStart=>exact⟨0,rfl,z,N.O⟩
     case round =>
      clear N;obtain⟨s,rfl,hs,P⟩:=hrel;by_cases Tq:s<6
      ·have TH:((s:Int)<6):=z;have Gj:=tL P.aG (s:Int) (Ig z z) z;rw[EW]at Gj;obtain⟨ro,SW⟩:=dH (M.kA R s);have AJ:=λi=>SV.O s i;unfold M.zi at AJ;rw[<-SW]at Gj AJ;obtain⟨SX,N,Kr⟩:=bU Gj P AJ;clear Gj P AJ SW;go_upto_region 17 with(go_at_call 13;refine SX.O.mono ?_;rintro e w4 ⟨v,q,rfl,own,fit,b4⟩;obtain⟨A,c,rfl⟩:=bA own;have Hk:=au own;have AN:=au fit;have Kw:=au (N.O.below b4);clear own fit b4)
       have Ld:=λ(id:Int) W (b:aC w4 W)=>pW (Kw.O.below b).aG id;rw[EW]at Ld;obtain⟨j1,j2,j3⟩:=(Kw.O.get (x:=.xX g mb EV jo (3*k)) dt).Ab Tq;obtain⟨jt,Ln⟩:=dH ((EV s).aU);obtain⟨jq,Lz⟩:=dH ((EV s).dQ);have ya:=Kr.O;rw[<-Ln]at j2;rw[<-Lz]at j3;simp only[<-Ln,<-Lz]at ya;obtain⟨Gu,Ko,Tr,Kr⟩:=cA Ld j2 j3 ya;clear Ld j1 j2 j3 ya Ln Lz N SX;go_wp2_with fail;go_loopw [66] (λi wr=>∃j:Nat,i=J V j/\j<=ro.length/\aC w4 wr) (λi _=>ro.length-(bS i).toNat);case atStart=>exact⟨0,rfl,z,ao _ _⟩
       case round =>
        obtain⟨j,rfl,hj,br⟩:=hrel;by_cases Ts:j<ro.length
        ·have TI:((j:Int)<(ro.length:Int)):=z;obtain⟨ox,d,hx,hd,b,rfl,hb,TJ,hi⟩:=AN.O.MD Ts;obtain⟨r,cap,e1,TM,Q⟩:=jZ Hk.O (AN.O.len (DP w4)) z;injection e1 with e1 e2 e3
         subst e1 e3;obtain⟨_,cp,_,_,_,TN,Tt,_⟩:=Cz Hk.O (AN.O.len (DP w4)) z;unfold maxLen at Tt;have k0:=aM br (Q j _ hd 0 z);have k1:=aM br (Q j _ hd 1 z);simp at k0 k1;obtain⟨p,hp⟩:=dH ((M.eP ox.2).1);obtain⟨er,SY⟩:=dH ((M.eP ox.2).2);obtain⟨ke,LC⟩:=dH (M.lx p.cF);have Ac:=λW (b':aC w4 W)=>wF b.a b.n b.c ox.2 W (hb.tl.below b') hb.zero z;rw[<-hp,<-SY]at Ac;have ya:=Kr.O j ox hx;rw[<-hp,<-LC]at ya;obtain⟨GI,C8,C9,HX,Bm,Ao⟩:=lH Ac ya br hx LC Q;clear Ac ya br hx LC Q hp SY hd hb;go_upto_region 20 with fail;obtain⟨GM,LP⟩:=dH wr.heap.size;rw[<-LP];refine aW (λY=>aK Y GM 80 #[J V ox.1,ae b.a b.n b.c]/\aC w4 Y) ⟨aK.newAt _ _ _ _ LP,C9.O.alloc C9.O.size _⟩ ?_;clear LP k0 k1 C9;rintro Y ⟨GR,bY⟩;have k0:=GR.cell 0;have k1:=GR.cell 1;simp at k0 k1;obtain⟨Hl,GS⟩:=bu GR bY;clear GR bY;go_upto_region 21 with(go_at_call 23;refine(Gu.O _ _ GS.O).mono ?_;rintro e w5 ⟨⟨a,s1,x1,y1,bk,rfl,hA⟩,b5⟩;have MC:=au hA;have L:=au b5;clear hA b5)
         obtain⟨Dm,e6⟩:=dH w5.heap.size;rw[<-e6];have b6:aC w5 (w5.alloc (.cells (RZ a s1 x1 y1).toArray 101)):=(ao _ w5).alloc (aj _) _;refine aW (λD=>aK D Dm 101 (RZ a s1 x1 y1).toArray/\aK D GM 80 #[J V ox.1,ae b.a b.n b.c]/\aC w4 D) ⟨aK.newAt _ _ _ _ e6,Hl.O.kept (L.O.trans (b6.mono L.O.size)),GS.O.trans ((L.O.trans (b6.mono L.O.size)).mono GS.O.size)⟩ ?_;clear b6 e6 L Hl GS;rintro D ⟨f,u,H⟩;obtain⟨h,E,t⟩:=bU f u H;clear f u H;clear k0 k1;have k1:=E.O.cell 1;simp at k1;go_upto_region 22 with(go_at_call 16;refine(GI.O _ t.O).mono ?_;rintro e w7 ⟨⟨s2,x2,y2,rfl,hP⟩,b7⟩;have Dv:=au hP;have C:=au b7;clear hP b7)
         obtain⟨Hg,e8⟩:=dH w7.heap.size;rw[<-e8];have b8:aC w7 (w7.alloc (.cells (uA p s2 x2 y2) 76)):=(ao _ w7).alloc (aj _) _;have DB:=Dv.O.map (λq=>q.below b8) (λq=>q.below b8);refine aW (λD=>aK D Hg 76 (uA p s2 x2 y2)/\aK D GM 80 #[J V ox.1,ae b.a b.n b.c]/\aK D Dm 101 (RZ a s1 x1 y1).toArray/\iT D p s2 x2 y2/\aC w4 D) ⟨aK.newAt _ _ _ _ e8,E.O.kept (C.O.trans (b8.mono C.O.size)),h.O.kept (C.O.trans (b8.mono C.O.size)),DB,t.O.trans ((C.O.trans (b8.mono C.O.size)).mono t.O.size)⟩ ?_;clear b8 e8 C Dv DB E h t;rintro D ⟨o,u,f,DC,H⟩;obtain⟨m,E,h,S,t⟩:=gY o u f DC H;clear o u f DC H;clear k1;have k9:=m.O.cell 9;simp at k9;have MP:=Ae y2.a y2.n y2.c p.cF D S.O.y.tl S.O.y.zero (by have:=S.O.y.tl.len;have:=S.O.small.2.2;omega);rw[<-Bm.O]at MP;have SZ:=au MP;clear MP;go_upto_region 23 with(go_at_call 24;refine SZ.O.mono ?_;rintro e w9 ⟨rfl,b9⟩;have D8:=au b9;clear b9)
         refine aW (λD=>aK D GM 80 #[J V ox.1,ae b.a b.n b.c]/\aK D Dm 101 (RZ a s1 x1 y1).toArray/\aK D Hg 76 (uA p s2 x2 y2)/\aC w4 D) ⟨E.O.kept D8.O,h.O.kept D8.O,m.O.kept D8.O,t.O.trans (D8.O.mono t.O.size)⟩ ?_;clear D8 SZ k9 S E h m t;rintro D ⟨u,f,o,H⟩;obtain⟨E,h,m,t⟩:=cA u f o H;clear u f o H;obtain⟨sq,T⟩:=dH p.dQ;obtain⟨st,U⟩:=dH p.aU;have k2:=m.O.cell 2;have k3:=m.O.cell 3;simp at k2 k3;rw[<-T]at k2;rw[<-U]at k3;have MT:=C8.O;rw[<-T,<-U]at MT;obtain⟨C8,Ta,Tb⟩:=bU MT T U;clear MT T U Bm GI;by_cases MU:j=0
         ·subst MU;have Tc:=C8.O.1 rfl;have z2:=aM t.O Ko.O;have z3:=aM t.O Tr.O;by_cases hq:sq=jq
          ·obtain⟨q1,q2⟩:=Tc hq;subst hq q1 q2;go_upto_region 24 with fail;go_quiet (fail);go_wp2_with fail;go_roundw;case rel=>exact⟨1,by go_num,z,cd t.O _⟩
           case measure=>simp[bS];omega
          ·have Tu:(sq==jq)=false:=by simpa using hq
           clear Tc hq;go_upto_region 24 with fail;go_quiet (fail);go_wp2_with fail;go_roundw;case rel=>exact⟨1,by go_num,z,cd t.O _⟩
           case measure=>simp[bS];omega
         ·obtain⟨jj,MV⟩:∃jj,j=jj+1:=⟨j-1,z⟩;have TO:V.wrap ((j:Int)-1)=(jj:Int):=by rw[IntWalk.i64_in _ ⟨z,z⟩];omega
          have Td:jj<ro.length:=z;have TP:(jj:Int)<(ro.length:Int):=z;have TQ:((j:Int)==0)=false:=by simpa using MU
          obtain⟨oy,d',Te,M7,b',rfl,M9,Tz,TR⟩:=AN.O.MD Td;have m0:=aM t.O (Ao.O jj _ M7 0 z);have wU:=au (Ao.O jj _ M7 1 z);simp at m0;obtain⟨p2,NR⟩:=dH ((M.eP oy.2).1);obtain⟨TS,Ho⟩:=dH ((M.eP oy.2).2);have Ac:=λW (bb:aC w4 W)=>wF b'.a b'.n b'.c oy.2 W (M9.tl.below bb) M9.zero z;rw[<-NR,<-Ho]at Ac;have AH:=C8.O.2 jj oy MV Te;rw[<-NR]at AH;obtain⟨GI,ET,TT⟩:=bU Ac AH MV;clear Ac AH NR Ho M7 M9 Te MV MU k2 k3 C8 Ao Td;go_upto_region 27 with(go_at_call 23;refine(Gu.O _ _ t.O).mono ?_;rintro e w5 ⟨⟨a2,s3,x3,y3,bk,rfl,hA⟩,b5⟩;have EU:=au hA;have L:=au b5;clear hA b5)
          obtain⟨Tf,e6⟩:=dH w5.heap.size;rw[<-e6];have b6:aC w5 (w5.alloc (.cells (RZ a2 s3 x3 y3).toArray 101)):=(ao _ w5).alloc (aj _) _;refine aW (λD=>aK D Tf 101 (RZ a2 s3 x3 y3).toArray/\aK D Dm 101 (RZ a s1 x1 y1).toArray/\aK D Hg 76 (uA p s2 x2 y2)/\aC w4 D) ⟨aK.newAt _ _ _ _ e6,h.O.kept (L.O.trans (b6.mono L.O.size)),m.O.kept (L.O.trans (b6.mono L.O.size)),t.O.trans ((L.O.trans (b6.mono L.O.size)).mono t.O.size)⟩ ?_;clear b6 e6 L h m t;rintro D ⟨K,f,o,H⟩;obtain⟨F,h,m,t⟩:=cA K f o H;clear K f o H;clear m0;have m1:=aM t.O wU.O;try simp at m1
          go_upto_region 28 with(go_at_call 16;refine(GI.O _ t.O).mono ?_;rintro e w7 ⟨⟨s4,x4,y4,rfl,hP⟩,b7⟩;have Dv:=au hP;have C:=au b7;clear hP b7)
          obtain⟨Tv,e8⟩:=dH w7.heap.size;rw[<-e8];have b8:aC w7 (w7.alloc (.cells (uA p2 s4 x4 y4) 76)):=(ao _ w7).alloc (aj _) _;have DB:=Dv.O.map (λq=>q.below b8) (λq=>q.below b8);refine aW (λD=>aK D Tv 76 (uA p2 s4 x4 y4)/\aK D Dm 101 (RZ a s1 x1 y1).toArray/\aK D Hg 76 (uA p s2 x2 y2)/\aK D Tf 101 (RZ a2 s3 x3 y3).toArray/\iT D p2 s4 x4 y4/\aC w4 D) ⟨aK.newAt _ _ _ _ e8,h.O.kept (C.O.trans (b8.mono C.O.size)),m.O.kept (C.O.trans (b8.mono C.O.size)),F.O.kept (C.O.trans (b8.mono C.O.size)),DB,t.O.trans ((C.O.trans (b8.mono C.O.size)).mono t.O.size)⟩ ?_;clear b8 e8 C Dv DB h m F t;rintro D ⟨AO,f,o,K,Bc,H⟩;obtain⟨AI,h,m,F,Oj,t⟩:=lH AO f o K Bc H;clear AO f o K Bc H;clear m1 wU Oj;obtain⟨Tg,T⟩:=dH p2.dQ;obtain⟨OF,U⟩:=dH p2.aU;have k2:=m.O.cell 2;have k3:=m.O.cell 3;have m2:=AI.O.cell 2;have m3:=AI.O.cell 3;have n0:=h.O.cell 0;have n1:=h.O.cell 1;have n6:=h.O.cell 6;have l0:=F.O.cell 0;have l1:=F.O.cell 1;have l6:=F.O.cell 6;simp at k2 k3 m2 m3 n0 n1 n6 l0 l1 l6;rw[<-Ta.O]at k2;rw[<-Tb.O]at k3;rw[<-T]at m2;rw[<-U]at m3;have AH:=ET.O;rw[<-T,<-U]at AH;obtain⟨Tw,hz⟩:=dH ((Tg+1) % 65536);have TV:aN.wrap (Tg+1)=Tw:=by rw[wrap_u16];exact hz.symm
          obtain⟨ET,HZ⟩:=bu AH hz;clear AH hz T U h m F AI Ta Tb;by_cases hq:sq=Tw
          ·subst hq;obtain⟨a',b9,Ti,Tj,q1,q2⟩:=ET.O HZ.O;obtain rfl:=MC.O _ _ rfl Tj;obtain rfl:=EU.O _ _ rfl Ti;have heq:=λW=>uG a.origin.1 a.origin.2 a2.origin.1 a2.origin.2 W;clear ET HZ MC EU Ti Tj Gu;by_cases ho:a.origin=a2.origin
           ·have h1:=q1 ho;have ht:(a.origin.1==a2.origin.1&&a.origin.2==a2.origin.2)=true:=by rw[ho];simp
            rw[ht]at heq;obtain⟨z1,PC⟩:=dH ((st-OF) % 4294967296);have e1:ar.wrap (st-OF)=z1:=by rw[wrap_u32];exact PC.symm
            have e2:ar.wrap (a.bW.aU-a2.bW.aU)=z1:=by rw[wrap_u32,PC];exact h1.symm
            clear q1 q2 h1 PC ho ht;go_wp2_with fail;go_roundw;case rel=>exact⟨j+1,by go_num,z,t.O⟩
            case measure=>simp[bS];omega
           ·obtain⟨h1,h2⟩:=q2 ho;have ht:(a.origin.1==a2.origin.1&&a.origin.2==a2.origin.2)=false:=by
             cases q:(a.origin.1==a2.origin.1&&a.origin.2==a2.origin.2)
             ·rfl
             ·simp at q;exact absurd (Prod.ext q.1 q.2) ho
            rw[ht]at heq;have e1:ar.wrap (OF+3000)=st:=by rw[wrap_u32];exact h2.symm
            subst h1;clear q1 q2 h2 ho ht;go_wp2_with fail;go_roundw;case rel=>exact⟨j+1,by go_num,z,t.O⟩
            case measure=>simp[bS];omega
          ·have Tu:(sq==Tw)=false:=by simpa using hq
           clear hq ET HZ MC EU Gu n0 n1 n6 l0 l1 l6;go_wp2_with fail;go_roundw;case rel=>exact⟨j+1,by go_num,z,t.O⟩
           case measure=>simp[bS];omega
        ·have Tx:j=ro.length:=z;subst Tx;have C9:=au br;clear br;go_wp2_with fail;go_roundw;case rel=>exact⟨s+1,by go_num,z,Kw.O.below C9.O⟩
         case measure=>simp[bS];omega
      ·have Ty:s=6:=z;subst Ty;have N:=au P;clear P;go_wp2_with fail;go_ret;exact⟨rfl,N.O.bw⟩
end Go.Proofs.YtkfblammcilfhaaGreatDoor
