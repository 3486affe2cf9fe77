/- TopAlone is true at all its arguments, with no condition. -/
import Derived.Below
import Derived.Carry
import Derived.HandedShaped
import Derived.Handed
import Derived.LaidLaws
import Derived.Lay
import Derived.Stop.LaidErr
import Derived.MakeChecks
import Derived.Shelf.Vars
import Derived.Lib.LaidTab
import Derived.Test.YtkfblammcilfhaaGreatDoorTie
import Derived.Test.YtkfblammcilfhaaGreatDoorCards
import Derived.Test.YtkfblammcilfhaaGreatDoorP16
import Derived.Test.YtkfblammcilfhaaGreatDoorP19
set_option linter.all false
set_option maxRecDepth 100000
set_option maxHeartbeats 100000000
open Go.ChangeShapes Go.WideShapes Go.ChangeAt Go.RowKit Go.Proofs.Tryz
open Go.Lit renaming int->dU,wf->pD
open Go renaming World->aw,Ending->rJ,Calls->aF,bodyPost_ret->ax,results_tmp2->ew,wpList_load_mid->gQ,Program->jB,MemPlace->tE,wp_region_held_drew->fC,wpAnyH_ready->cH,wpAnyH_done->gV,results->aV
open Bool renaming and_eq_true->cM
open Go.Proofs.Tryz renaming prog->af,f5->iO
open Go.RowKit.Below renaming refl->ao
open Nat renaming le_refl->aj,lt_of_lt_of_le->iU,zero_add->cO,zero_mul->qA,add_mul->jG
open List renaming getElem?_eq_getElem->ay,getElem_mem->dy,any_eq_false->oA,take_of_length_le->dC,mem_cons->fw,mem_cons_self->ec,mem_cons_of_mem->dI,range->kq,mem_map->eU,getElem?_map->dE,length_append->cG,drop_zero->mI,getElem?_eq_some_iff->aS
open Go.IntKind renaming min->jI,max->jJ,signed->fR,bits->gM,i64->V,u32->ar,u16->aN,u8->bI
open Go.DataW renaming trod->mL
open Option.some renaming injEq->bf
open Go.OpenSpec renaming ofChange->ia
open Go.Act renaming put->aA
open Go.AllReadyH renaming cons->bH,nil->cy
open Go.Value renaming int->J,string->jA,cells->gW,slice->ae,bool->ai,pointer->aq,tuple->aB,agg->cg
open Go.Ending renaming returned->av
open Option renaming none->I,some->Z
namespace Go.Proofs.YtkfblammcilfhaaGreatDoor
abbrev jQ(x:M.Act)(b:Sl):Array Value:=#[J V x.nv,J V x.sub,J V x.jo,J V x.aY,ae b.a b.n b.c,J V x.w.1,J V x.w.2,ai x.fq,J ar x.own,J ar x.aU,J aN x.dQ,J ar x.s0,J ar x.s1,J ar x.s2]
structure Nf(x:M.Act):Prop where
 ok:x.Ok
 sub:(dU V x.sub).wf=true
 src:(0<=x.s0/\x.s0<=4294967295)/\(0<=x.s1/\x.s1<=4294967295)/\0<=x.s2/\x.s2<=4294967295
def wY(B:RB)(w:aw)(R:M.Room)(N:Nat)(x:M.Act)(e:rJ)(w':aw):Prop:=
 ∃B',e=av (aB #[J V (R.act x).2.1,ai (R.act x).2.2])/\aL w' B' (R.act x).1 (N+20)/\fK w w' B B'
def Fq{x:Int}(h:0<=x/\x<=4294967295):Ng x:=by unfold Ng pD;rw[cM,decide_eq_true_iff,decide_eq_true_iff];exact⟨h.1,h.2⟩
def K9{B:RB}{R:M.Room}{N:Nat}{w:aw}(h:aL w B R N){G:Int->M.ij}{n:Nat}(b:M.lG R G n)(i:N<600000) :
  aF af 37 #[aq (Z ⟨B.g,0,I⟩)] w (kk B w (J V R.tick.2) R.tick.1 (N+20)):=by
 cases a:R.cN with
 |true =>
  refine(Cl h a).mono ?_;rintro e w' ⟨c,d,rfl⟩;exact⟨B,c,by rw[d];exact h.mono z,fK.refl _ _⟩
 |false =>
  have f:R.tick.2=0:=by unfold M.Room.tick;rw[a];rfl
  rw[f];exact Jc h a (Bs b) (Ml b) z
def xF{B:RB}{R:M.Room}{N:Nat}{w:aw}(h:aL w B R N){G:Int->M.ij}{n:Nat}(hk:M.lG R G n)(hn:n<=1000)(hN:N<600000)(x:M.Act)(hx:Nf x)(s:Sl)(p:pL w s.a s.n s.c x.b)(hl:s.n<=400) :
  aF af 14 #[aq (Z ⟨B.g,0,I⟩),cg (jQ x s)] w (wY B w R N x):=by
 obtain⟨H,v,u,HB⟩:=cA h hk hx p;have A:=h.lt;clear h hk hx p;go_enter func14,ntmps14;go_upto_region 1 with fail;obtain⟨r3,C⟩:=dH w.heap.size;rw[<-C];have al:aC w (w.alloc (.cells (jQ x s) 45)):=(ao _ w).alloc (aj _) _;refine aW (λX=>aK X r3 45 (jQ x s)/\aC w X) ⟨aK.newAt _ _ _ _ C,al⟩ ?_;clear al C;rintro X ⟨b3,y⟩;have h:=H.O.below y;have p:=HB.O.below y;have hS:=fK.fN B y;have r:=b3.cell 0;have k1:=b3.cell 1;have k2:=b3.cell 2;have k3:=b3.cell 3;have k4:=b3.cell 4;have k5:=b3.cell 5;have k6:=b3.cell 6;have k7:=b3.cell 7;have k8:=b3.cell 8;have k9:=b3.cell 9;have D:=b3.cell 10;have E:=b3.cell 11;have F:=b3.cell 12;have K:=b3.cell 13;simp at r k1 k2 k3 k4 k5 k6 k7 k8 k9 D E F K;have HS:=au hS;clear y b3 H HB hS A;by_cases k:0<=x.nv/\x.nv<=8
 ·have L:x.nv=0\/x.nv=1\/x.nv=2\/x.nv=3\/x.nv=4\/x.nv=5\/x.nv=6\/x.nv=7\/x.nv=8:=z;clear k;rcases L with k|k|k|k|k|k|k|k|k
  ·have d:R.act x=((R.fT x.b).1,(R.fT x.b).2,false):=by unfold M.Room.act;simp only[k];rfl
   rw[k]at r;obtain⟨o,f⟩:=bu (tO h s x.b p hl z) d;clear d k h p;go_wp2_with (go_at_call 26;refine o.O.mono ?_;rintro e t ⟨B',rfl,i,j⟩;have l:=au i;have m:=au j;clear i j);refine ax (ew rfl _ _ _) rfl ?_;exact⟨B',by rw[f.O];rfl,by rw[f.O];exact l.O.mono z,HS.O.trans m.O⟩
  ·have d:R.act x=((R.pick x.w x.fq).1,0,(R.pick x.w x.fq).2):=by unfold M.Room.act;simp only[k];rfl
   rw[k]at r;obtain⟨o,f⟩:=bu (sY h x.w.1 x.w.2 x.fq (ta v.O hn) z) d;clear d k h p;go_wp2_with (go_at_call 25;refine o.O.mono ?_;rintro e t ⟨B',rfl,i,j⟩;have l:=au i;have m:=au j;clear i j);refine ax (ew rfl _ _ _) rfl ?_;exact⟨B',by rw[f.O];rfl,by rw[f.O];exact l.O.mono z,HS.O.trans m.O⟩
  ·have d:R.act x=(R.tick.1,R.tick.2,false):=by unfold M.Room.act;simp only[k];rfl
   rw[k]at r;obtain⟨o,f⟩:=bu (K9 h v.O hN) d;clear d k h p;go_wp2_with (go_at_call 37;refine o.O.mono ?_;rintro e t ⟨B',rfl,i,j⟩;have l:=au i;have m:=au j;clear i j);refine ax (ew rfl _ _ _) rfl ?_;exact⟨B',by rw[f.O];rfl,by rw[f.O];exact l.O.mono z,HS.O.trans m.O⟩
  ·have d:R.act x=((R.gg x.jo x.s0 x.s1 x.s2).1,(R.gg x.jo x.s0 x.s1 x.s2).2,false):=by unfold M.Room.act;simp only[k];rfl
   rw[k]at r;obtain⟨o,f⟩:=bu (vZ h x.jo x.s0 x.s1 x.s2 z (Fq u.O.src.1) (Fq u.O.src.2.1) (Fq u.O.src.2.2)) d;clear d k h p;go_wp2_with (go_at_call 38;refine o.O.mono ?_;rintro e t ⟨B',rfl,i,j⟩;have l:=au i;have m:=au j;clear i j);refine ax (ew rfl _ _ _) rfl ?_;exact⟨B',by rw[f.O];rfl,by rw[f.O];exact l.O.mono z,HS.O.trans m.O⟩
  ·have d:R.act x=((R.iJ x.sub x.own x.dQ x.aU).1,(R.iJ x.sub x.own x.dQ x.aU).2,false):=by unfold M.Room.act;simp only[k];rfl
   rw[k]at r;obtain⟨o,f⟩:=bu (Ba h x.sub x.own x.dQ x.aU z (lE u.O.ok.own) (lE u.O.ok.dQ) (lE u.O.ok.aU)) d;clear d k h p;go_wp2_with (go_at_call 39;refine o.O.mono ?_;rintro e t ⟨B',rfl,i,j⟩;have l:=au i;have m:=au j;clear i j);refine ax (ew rfl _ _ _) rfl ?_;exact⟨B',by rw[f.O];rfl,by rw[f.O];exact l.O.mono z,HS.O.trans m.O⟩
  ·have d:R.act x=((R.dN x.sub x.jo x.aY).1,(R.dN x.sub x.jo x.aY).2,false):=by unfold M.Room.act;simp only[k];rfl
   rw[k]at r;obtain⟨o,f⟩:=bu (uw h x.sub x.jo x.aY u.O.sub z (λq=>by rw[<-v.O.inv.lu];exact q)) d;clear d k h p;go_wp2_with (go_at_call 40;refine o.O.mono ?_;rintro e t ⟨B',rfl,i,j⟩;have l:=au i;have m:=au j;clear i j);refine ax (ew rfl _ _ _) rfl ?_;exact⟨B',by rw[f.O];rfl,by rw[f.O];exact l.O.mono z,HS.O.trans m.O⟩
  ·have d:R.act x=((R.iy x.sub x.aY).1,(R.iy x.sub x.aY).2,false):=by unfold M.Room.act;simp only[k];rfl
   rw[k]at r;obtain⟨o,f⟩:=bu (Jb h x.sub x.aY (λq=>by rw[<-v.O.inv.lu];exact q)) d;clear d k h p;go_wp2_with (go_at_call 41;refine o.O.mono ?_;rintro e t ⟨B',rfl,i,j⟩;have l:=au i;have m:=au j;clear i j);refine ax (ew rfl _ _ _) rfl ?_;exact⟨B',by rw[f.O];rfl,by rw[f.O];exact l.O.mono z,HS.O.trans m.O⟩
  ·have d:R.act x=((R.jE x.sub).1,(R.jE x.sub).2,false):=by unfold M.Room.act;simp only[k];rfl
   rw[k]at r;obtain⟨o,f⟩:=bu (FP h x.sub z) d;clear d k h p;go_wp2_with (go_at_call 42;refine o.O.mono ?_;rintro e t ⟨B',rfl,i,j⟩;have l:=au i;have m:=au j;clear i j);refine ax (ew rfl _ _ _) rfl ?_;exact⟨B',by rw[f.O];rfl,by rw[f.O];exact l.O.mono z,HS.O.trans m.O⟩
  ·have d:R.act x=(R.fU.1,R.fU.2,false):=by unfold M.Room.act;simp only[k];rfl
   rw[k]at r;obtain⟨o,f⟩:=bu (An h) d;clear d k h p;go_wp2_with (go_at_call 43;refine o.O.mono ?_;rintro e t ⟨rfl,i,j⟩;have l:=au i;have m:=au j;clear i j);refine ax (ew rfl _ _ _) rfl ?_;exact⟨B,by rw[f.O];rfl,by rw[f.O];exact l.O.mono z,HS.O.trans m.O⟩
 ·have P:¬x.nv=0:=z;have Q:¬x.nv=1:=z;have S:¬x.nv=2:=z;have T:¬x.nv=3:=z;have U:¬x.nv=4:=z;have W:¬x.nv=5:=z;have Y:¬x.nv=6:=z;have Bj:¬x.nv=7:=z;have Bm:¬x.nv=8:=z;have d:R.act x=(R,0,false):=by
   unfold M.Room.act;rw[if_neg P,if_neg Q,if_neg S,if_neg T,if_neg U,if_neg W,if_neg Y,if_neg Bj,if_neg Bm]
  obtain⟨f,HR⟩:=bu d h;clear d h p k;go_wp2_with fail;refine ax (ew rfl _ _ _) rfl ?_;exact⟨B,by rw[f.O];rfl,by rw[f.O];exact HR.O.mono z,HS.O⟩
section
def Fi(w:aw)(b o:Nat)(x:M.Act):Prop:=∃d:Sl,w.rangeAt b o (jQ x d).toList/\pL w d.a d.n d.c x.b
def pZ(w:aw)(A:Option Addr)(n:Nat)(l:List M.Act):Prop:=
 l.length=n/\(∀x∈l,Nf x)/\(0<n->∃b off,A=Z ⟨b,off,I⟩/\∀(i:Nat) x,l[i]? = Z x->Fi w b (off+i*14) x)
def Fi.tc{w w':aw}{b o:Nat}{x:M.Act}(h:Fi w b o x)(a:∀g i v,w.cell? ⟨g,i,I⟩=Z v->w'.cell? ⟨g,i,I⟩=Z v):Fi w' b o x:=by
 obtain⟨c,h1,h2⟩:=h;exact⟨c,λj v d=>a _ _ _ (h1 j v d),⟨h2.len,h2.wf,λh0=>by
  obtain⟨g,off,e,k⟩:=h2.cells h0
  exact⟨g,off,e,λi f=>a _ _ _ (k i f)⟩,h2.zero⟩⟩
def pZ.tc{w w':aw}{A:Option Addr}{n:Nat}{l:List M.Act}(h:pZ w A n l)(a:∀g i v,w.cell? ⟨g,i,I⟩=Z v->w'.cell? ⟨g,i,I⟩=Z v):pZ w' A n l:=by
 obtain⟨h1,h2,h3⟩:=h;refine⟨h1,h2,λh0=>?_⟩;obtain⟨b,off,e,k⟩:=h3 h0;exact⟨b,off,e,λi x c=>(k i x c).tc a⟩
def pZ.below{w w':aw}{A:Option Addr}{n:Nat}{l:List M.Act}(h:pZ w A n l)(b:aC w w'):pZ w' A n l:=h.tc λ_ _ _ q=>aM b q
def pV:(af.info? 45).map (·.size)=Z 14:=cC
def qV(l:List M.Act):Bool:=decide (120<l.length)||l.any λx=>decide (400<x.b.length)
def xt(A:Option Addr)(n c:Nat)(l:List M.Act)(w:aw)(h:pZ w A n l):aF af 10 #[ae A n c] w λe w'=>e=av (ai (qV l))/\aC w w':=by
 obtain⟨h1,h2,h3⟩:=h;by_cases E:120<n
 ·have e:qV l=true:=by unfold qV;rw[h1,decide_eq_true E];rfl
  rw[e];clear h2 h3 e h1;go_enter func10,ntmps10;have hw:(120:Int)<(n:Int):=z;go_wp2_with fail;go_ret;exact⟨rfl,ao _ _⟩
 ·have e:qV l=l.any λx=>decide (400<x.b.length):=by unfold qV;rw[h1,decide_eq_false E];rfl
  obtain⟨res,a⟩:=dH (qV l);rw[<-a];rw[e]at a;obtain⟨F,L⟩:=bu a h3;have hw:¬(120:Int)<(n:Int):=z;clear h2 h3 e a;go_enter func10,ntmps10;go_wp2_with fail;go_loopw [10] (λi wr=>∃k:Nat,i=J V k/\k<=n/\(∀x∈l.take k,decide (400<x.b.length)=false)/\aC w wr) (λi _=>n-(intOf i).toNat);case atStart=>exact⟨0,rfl,z,λx B=>by simp at B,ao _ _⟩
  case round =>
   obtain⟨k,rfl,U,u,s⟩:=hrel;by_cases N:k<n
   ·have P:((k:Int)<(n:Int)):=z;obtain⟨b,off,rfl,G⟩:=L.O z;have g:k<l.length:=z;obtain⟨p,t,H⟩:=G k l[k] (ay g);have t:wr.rangeAt b (off+k*14) (jQ l[k] p).toList:=λj v Q=>aM s (t j v Q);have hlen:=H.len;have m:l.take (k+1)=l.take k++[l[k]]:=List.take_succ_eq_append_getElem g;have d:l[k]∈l:=dy g;generalize l[k]=x at t hlen m d;obtain⟨K,R,S,r,T⟩:=gY t m u s d;clear G t H m u s d;by_cases f:400<p.n
    ·have C:(400:Int)<(p.n:Int):=z;have hr:res=true:=by rw[F.O,List.any_eq_true];exact⟨x,T.O,decide_eq_true (by rw[hlen];exact f)⟩
     have o:=au hr;clear hr;go_wp2_with (refine gQ rfl 45 (.tmp 12) rfl b (off+k*14) rfl (jQ x p).toList _ K.O underlying45 rfl pV ?_);go_ret;exact⟨by rw[o.O];rfl,r.O.alloc r.O.size _⟩
    ·have C:¬(400:Int)<(p.n:Int):=z;go_wp2_with (refine gQ rfl 45 (.tmp 12) rfl b (off+k*14) rfl (jQ x p).toList _ K.O underlying45 rfl pV ?_);go_roundw;case rel =>
      refine⟨k+1,by go_num,z,λy hy=>?_,r.O.alloc r.O.size _⟩;rw[R.O]at hy;rcases List.mem_append.1 hy with q|q
      ·exact S.O y q
      ·simp at q;subst q;rw[hlen];exact decide_eq_false f
     case measure=>simp[intOf];omega
   ·have D:k=n:=z;subst D;have hr:res=false:=by
     rw[F.O,oA];intro x B;have q:=u x (by rw[dC z];exact B);simpa using q
    obtain⟨r,o⟩:=bu s hr;clear s u hr;go_wp2_with fail;go_ret;exact⟨by rw[o.O];rfl,r.O⟩
structure rz(base:Nat)(w:aw)(B C:RB)(R S:M.Room)(N:Nat):Prop where
 a:aL w B R N
 b:aL w C S N
 vd:∀i,B.all i->¬C.all i
 Gr:∀i,B.all i->base<=i
 JH:∀i,C.all i->base<=i
def sM(w:aw)(B C:RB)(g:Nat):Prop:=¬B.all g/\¬C.all g/\g<w.heap.size
section
variable {base:Nat} {w w':aw} {B C B' C':RB} {R S R' S':M.Room} {N N':Nat}
def rz.lo(h:rz base w B C R S N):base<=w.heap.size:=by
 have h1:=h.Gr B.g ⟨.aG,rfl⟩;have h2:=h.a.lt B.g ⟨.aG,rfl⟩;omega
def rz.below(h:rz base w B C R S N)(b:aC w w'):rz base w' B C R S N:=⟨h.a.below b,h.b.below b,h.vd,h.Gr,h.JH⟩
def rz.mono(h:rz base w B C R S N)(k:N<=N'):rz base w B C R S N':=⟨h.a.mono k,h.b.mono k,h.vd,h.Gr,h.JH⟩
def rz.swap(h:rz base w B C R S N):rz base w C B S R N:=⟨h.b,h.a,λi q k=>h.vd i k q,h.JH,h.Gr⟩
def rz.left(h:rz base w B C R S N)(hR:aL w' B' R' N')(c:fK w w' B B')(d:N<=N'):rz base w' B' C R' S N':=
 ⟨hR,(h.b.fr c.fr λi a q=>h.vd i q a).mono d,λi a k=>by
  rcases c.own i a with q|q
  ·exact h.vd i q k
  ·have:=h.b.lt i k;omega,λi a=>by
  rcases c.own i a with q|q
  ·exact h.Gr i q
  ·have:=h.lo;omega,h.JH⟩
def rz.right(h:rz base w B C R S N)(hR:aL w' C' S' N')(a:fK w w' C C')(b:N<=N'):rz base w' B C' R S' N':=(h.swap.left hR a b).swap
def rz.fN(h:rz base w B C R S N)(a:fK w w' B B'):Below base w w':=a.fr.below h.lo h.Gr
def rz.RX(h:rz base w B C R S N)(a:fK w w' C C'):Below base w w':=a.fr.below h.lo h.JH
def sM.below{g:Nat}(h:sM w B C g)(b:aC w w'):sM w' B C g:=⟨h.1,h.2.1,iU h.2.2 b.size⟩
def sM.left{g:Nat}(h:sM w B C g)(a:fK w w' B B'):sM w' B' C g:=⟨λq=>by
 rcases a.own g q with q|q
 ·exact h.1 q
 ·have:=h.2.2;omega,h.2.1,iU h.2.2 a.fr.size⟩
def sM.swap{g:Nat}(h:sM w B C g):sM w C B g:=⟨h.2.1,h.1,h.2.2⟩
def sM.right{g:Nat}(h:sM w B C g)(a:fK w w' C C'):sM w' B C' g:=(h.swap.left a).swap
def sM.new(h:rz base w B C R S N)(b:aC w w'){g:Nat}(hg:g=w.heap.size)(c:g<w'.heap.size):sM w' B C g:=
 ⟨λq=>by have:=h.a.lt g q;omega,λq=>by have:=h.b.lt g q;omega,c⟩
def aK.Qu{g:Nat}{t:TypeId}{cs:Array Value}(a:aK w g t cs)(h:sM w B C g)(b:fK w w' B B'):aK w' g t cs:=a.OB b λi c e=>h.1 (e ▸ c)
def aK.Pm{g:Nat}{t:TypeId}{cs:Array Value}(a:aK w g t cs)(h:sM w B C g)(b:fK w w' C C'):aK w' g t cs:=a.OB b λi c e=>h.2.1 (e ▸ c)
end
structure kB(w wr:aw)(B C:RB)(R S:M.Room)(N:Nat)(bl:List (Nat×TypeId×Array Value)):Prop where
 two:rz w.heap.size wr B C R S N
 bw:aC w wr
 vN:∀x∈bl,aK wr x.1 x.2.1 x.2.2/\sM wr B C x.1
section
variable {w wr w':aw} {B C B' C':RB} {R S R' S':M.Room} {N N':Nat} {bl:List (Nat×TypeId×Array Value)}
def kB.below(h:kB w wr B C R S N bl)(b:aC wr w'):kB w w' B C R S N bl:=⟨h.two.below b,h.bw.trans (b.mono h.bw.size),λx a=>⟨(h.vN x a).1.kept b,(h.vN x a).2.below b⟩⟩
def kB.mono(h:kB w wr B C R S N bl)(k:N<=N'):kB w wr B C R S N' bl:=⟨h.two.mono k,h.bw,h.vN⟩
def kB.left(h:kB w wr B C R S N bl)(hR:aL w' B' R' N')(a:fK wr w' B B')(c:N<=N'):kB w w' B' C R' S N' bl:=
 ⟨h.two.left hR a c,h.bw.trans (h.two.fN a),λx b=>⟨(h.vN x b).1.Qu (h.vN x b).2 a,(h.vN x b).2.left a⟩⟩
def kB.right(h:kB w wr B C R S N bl)(hR:aL w' C' S' N')(a:fK wr w' C C')(c:N<=N'):kB w w' B C' R S' N' bl:=
 ⟨h.two.right hR a c,h.bw.trans (h.two.RX a),λx b=>⟨(h.vN x b).1.Pm (h.vN x b).2 a,(h.vN x b).2.right a⟩⟩
def kB.alloc(h:kB w wr B C R S N bl)(t:TypeId)(cs:Array Value){g:Nat}(hg:g=wr.heap.size):kB w (wr.alloc (.cells cs t)) B C R S N ((g,t,cs)::bl):=by
 have a:aC wr (wr.alloc (.cells cs t)):=(ao _ _).alloc (aj _) _;have k:=h.below a;refine⟨k.two,k.bw,λx b=>?_⟩;rcases fw.1 b with e|q
 ·subst e;exact⟨aK.newAt _ _ _ _ hg,.new h.two a hg (by subst hg;simp)⟩
 ·exact k.vN x q
def kB.set(h:kB w wr B C R S N bl){g:Nat}{t:TypeId}{cs:Array Value}(hm:(g,t,cs)∈bl)(h5:t≠5)(l:t≠41)(hg:w.heap.size<=g)(c:List (Nat×TypeId×Array Value))(p:∀x∈c,x∈bl/\x.1≠g)(i:Nat)(v:Value) :
  kB w (wr.setCell ⟨g,i,I⟩ v) B C R S N ((g,t,cs.setIfInBounds i v)::c):=by
 obtain⟨o,d⟩:=h.vN _ hm;have f:Fr (One g) wr (wr.setCell ⟨g,i,I⟩ v):=(Fr.refl (One g) _).setCell o (.inl rfl) h5 l i v;have k:(wr.setCell ⟨g,i,I⟩ v).heap.size=wr.heap.size:=by simp[World.setCell]
 refine⟨⟨h.two.a.fr f λj m q=>d.1 (q ▸ m),h.two.b.fr f λj m q=>d.2.1 (q ▸ m),h.two.vd,h.two.Gr,h.two.JH⟩,h.bw.trans (f.below h.bw.size λj q=>by cases q;exact hg),λx r=>?_⟩;rcases fw.1 r with e|q
 ·subst e;exact⟨o.bC i v,d.1,d.2.1,by rw[k];exact d.2.2⟩
 ·obtain⟨s,y⟩:=p x q;obtain⟨A,n⟩:=h.vN x s;exact⟨A.dW f.u λe=>y e,n.1,n.2.1,by rw[k];exact n.2.2⟩
def kB.lt(h:kB w wr B C R S N bl):∀x∈bl,x.1<wr.heap.size:=λx a=>(h.vN x a).2.2.2
def kB.get(h:kB w wr B C R S N bl){g:Nat}{t:TypeId}{cs:Array Value}(hm:(g,t,cs)∈bl):aK wr g t cs:=(h.vN _ hm).1
def kB.drop(h:kB w wr B C R S N bl){a:List (Nat×TypeId×Array Value)}(b:∀x∈a,x∈bl):kB w wr B C R S N a:=⟨h.two,h.bw,λx c=>h.vN x (b x c)⟩
end
end
section
def zF{l:List M.Act}(h:qV l=false):l.length<=120/\∀x∈l,x.b.length<=400:=by
 unfold qV at h;rw[Bool.or_eq_false_iff,decide_eq_false_iff_not,oA]at h;refine⟨z,λx a=>?_⟩;have:=h.2 x a;simp at this;exact this
structure rQ(w wr:aw)(B C:RB)(R S:M.Room)(N:Nat)(bl:List (Nat×TypeId×Array Value))(g n c:Nat)(q:List (List Value)):Prop where
 tb:kB w wr B C R S N bl
 own:wr.ownsRow w.heap.size 45 14 (ae (Z ⟨g,0,I⟩) n c) n q.flatten
 off:sM wr B C g
section
variable {w wr w':aw} {B C B' C':RB} {R S R' S':M.Room} {N N':Nat} {bl:List (Nat×TypeId×Array Value)} {g n c:Nat} {q:List (List Value)}
def rQ.below(h:rQ w wr B C R S N bl g n c q)(b:aC wr w'):rQ w w' B C R S N bl g n c q:=⟨h.tb.below b,gI h.own b,h.off.below b⟩
def rQ.mono(h:rQ w wr B C R S N bl g n c q)(k:N<=N'):rQ w wr B C R S N' bl g n c q:=⟨h.tb.mono k,h.own,h.off⟩
def rQ.left(h:rQ w wr B C R S N bl g n c q)(hR:aL w' B' R' N')(a:fK wr w' B B')(b:N<=N'):rQ w w' B' C R' S N' bl g n c q:=
 ⟨h.tb.left hR a b,du h.own a.fr.u (λi d q=>by cases d;exact h.off.1 q),h.off.left a⟩
def rQ.right(h:rQ w wr B C R S N bl g n c q)(hR:aL w' C' S' N')(a:fK wr w' C C')(b:N<=N'):rQ w w' B C' R S' N' bl g n c q:=
 ⟨h.tb.right hR a b,du h.own a.fr.u (λi d q=>by cases d;exact h.off.2.1 q),h.off.right a⟩
def rQ.alloc(h:rQ w wr B C R S N bl g n c q)(t:TypeId)(cs:Array Value){r:Nat}(hr:r=wr.heap.size):rQ w (wr.alloc (.cells cs t)) B C R S N ((r,t,cs)::bl) g n c q:=
 ⟨h.tb.alloc t cs hr,gI h.own ((ao _ _).alloc (aj _) _),h.off.below ((ao _ _).alloc (aj _) _)⟩
def rQ.drop(h:rQ w wr B C R S N bl g n c q){a:List (Nat×TypeId×Array Value)}(b:∀x∈a,x∈bl):rQ w wr B C R S N a g n c q:=⟨h.tb.drop b,h.own,h.off⟩
end
def AP(w:aw)(x:M.Act)(c:List Value):Prop:=∃d:Sl,c=(jQ x d).toList/\pL w d.a d.n d.c x.b
def AP.one{w:aw}{x:M.Act}{c:List Value}(h:AP w x c):∀u∈c,u.oneCell'=true:=by
 obtain⟨a,rfl,_⟩:=h;intro u hu;simp[jQ]at hu;repeat (first|(subst hu;rfl)|(rcases hu with rfl|hu;rfl))
def qL{w:aw}{g:Nat}{t:TypeId}{cs:Array Value}(h:aK w g t cs):w.rangeAt g 0 cs.toList:=λj v a=>by rw[cO];exact(h.cell j).trans (by simpa using a)
def IM(w:aw):Prop:=∀W,aC w W->aF af 8 #[] W λe W'=>e=av (ai true)/\aC W W'
end
def M9{one:Int}{R S:M.Room}(h:M.aX one R S){s:Int}(a:s≠one):De R S s:=
 ⟨by rw[h.aD s a],by unfold M.kA;rw[h.aD s a],h.di s a,by rw[h.aO]⟩
def nB(one:Int)(x:M.Act):Prop:=4<=x.nv/\x.nv<=7/\x.sub=one\/x.nv=1/\2<=x.w.1/\x.w.2=one
instance (one:Int) (x:M.Act):Decidable (nB one x):=by unfold nB;exact inferInstance
def Kw(aG eJ cX eA ek aT:Int)(A1:Option Addr)(n1 c1:Nat)(l:List M.Act)(sb:Int)(Tv:(dU bI sb).wf=true)(w:aw)(h1:pZ w A1 n1 l)(HA:IM w) :
  aF af 5 #[cg #[J V aG,J V eJ,J V cX,J V eA,J V ek,J V aT],ae A1 n1 c1,J bI sb] w λe w'=>e=av (ai true)/\aC w w':=by
 obtain⟨H1,Tw⟩:=bu h1 HA;have TP:=h1.1;have Tx:0<=sb/\sb<=255:=by simpa[pD,jI,jJ,fR,gM]using Tv
 clear h1 HA;go_enter func5,ntmps5;go_upto_region 1 with fail;obtain⟨r4,e4⟩:=dH w.heap.size;rw[<-e4];refine aW (λX=>aK X r4 25 #[J V aG,J V eJ,J V cX,J V eA,J V ek,J V aT]/\aC w X) ⟨aK.newAt _ _ _ _ e4,(ao _ w).alloc (aj _) _⟩ ?_;clear e4;rintro X ⟨b4,bX⟩;obtain⟨Ty,U,SX⟩:=bU (Tw.O X bX) b4 bX;clear b4 bX Tw;go_upto_region 3 with(go_at_call 8;refine Ty.O.mono ?_;rintro e w2 ⟨rfl,b2⟩;have SY:=au b2;clear b2)
 have bw:=SX.O.trans (SY.O.mono SX.O.size);have b4:=U.O.kept SY.O;have k0:=b4.cell 0;have k1:=b4.cell 1;have k2:=b4.cell 2;have k3:=b4.cell 3;have k4:=b4.cell 4;have k5:=b4.cell 5;simp at k0 k1 k2 k3 k4 k5;obtain⟨U,E⟩:=bu b4 bw;clear b4 bw SX SY Ty;cases hc:M.jr aG eJ cX eA ek aT with
 |false =>
  have Tz:=λW=>xV aG eJ cX eA ek aT W hc;have HN:=au Tz;clear Tz hc;go_wp2_with (go_at_call 9;refine(HN.O _).mono ?_;rintro e w3 ⟨rfl,b3⟩;have E:=au (E.O.trans (b3.mono E.O.size));have k0:=aM b3 k0;have k1:=aM b3 k1;have k2:=aM b3 k2;have k3:=aM b3 k3;have k4:=aM b3 k4;have k5:=aM b3 k5;clear b3);go_ret;exact⟨rfl,E.O⟩
 |true =>
  obtain⟨rm,rfl⟩:∃rm:Nat,aG=(rm:Int):=by
   have q:=hc;simp only[M.jr,cM,decide_eq_true_eq]at q;exact⟨aG.toNat,z⟩
  have TA:1<=rm/\rm<=8:=by
   have q:=hc;simp only[M.jr,cM,decide_eq_true_eq]at q;omega
  obtain⟨cf,TC⟩:=dH (⟨rm,eJ,cX,eA,ek,aT⟩:M.Ou);have Bj:=λW=>tM rm eJ cX eA ek aT W hc;rw[<-TC]at Bj;have TD:cf.aG=rm:=by rw[TC]
  have Bm:=au Bj;clear Bj hc;go_upto_region 4 with(go_at_call 9;refine(Bm.O _).mono ?_;rintro e w3 ⟨⟨B,rfl,hR,u⟩,b3⟩;have m:=au b3;have HR:=au hR;have Cj:=au u;clear b3 hR u)
  have k0:=aM m.O k0;have k1:=aM m.O k1;have k2:=aM m.O k2;have k3:=aM m.O k3;have k4:=aM m.O k4;have k5:=aM m.O k5;go_upto_region 5 with(go_at_call 9;refine(Bm.O _).mono ?_;rintro e w4 ⟨⟨C,rfl,hS,u⟩,b4⟩;have Cm:=au b4;have HS:=au hS;have r:=au u;clear b4 hS u)
  have t:kB w w4 B C (.new cf) (.new cf) 0 [(r4,25,#[J V (rm:Int),J V eJ,J V cX,J V eA,J V ek,J V aT])]:=by
   have TQ:=E.O.size;have Ub:=m.O.size;have Uc:=U.O.lt;refine⟨⟨HR.O.below Cm.O,HS.O,λi q k=>?_,λi q=>?_,λi q=>?_⟩,(E.O.trans (m.O.mono TQ)).trans (Cm.O.mono z),λx hx=>?_⟩
   ·have:=HR.O.lt i q;have:=r.O i k;omega
   ·have:=Cj.O i q;omega
   ·have:=r.O i q;omega
   ·simp at hx;subst hx;refine⟨(U.O.kept m.O).kept Cm.O,λq=>?_,λq=>?_,?_⟩
    ·have:=Cj.O _ q;simp only at this;omega
    ·have:=r.O _ q;simp only at this;omega
    ·have:=Cm.O.size;simp only;omega
  have c:=au t;clear t m Cm HR HS Cj r Bm E k0 k1 k2 k3 k4 k5;have TE:=λW (b:aC w W)=>xt A1 n1 c1 l W (H1.O.below b);have Gj:=au TE;clear TE;cases SG:qV l with
  |true =>
   rw[SG]at Gj;clear SG;go_wp2_with (go_at_call 10;refine(Gj.O _ c.O.bw).mono ?_;rintro e w9 ⟨rfl,K⟩;have c:=au (c.O.below K);clear K);go_ret;exact⟨rfl,c.O.bw⟩
  |false =>
   rw[SG]at Gj;have SZ:=zF SG;clear SG;go_upto_region 7 with(go_at_call 10;refine(Gj.O _ c.O.bw).mono ?_;rintro e w9 ⟨rfl,K⟩;have c:=au (c.O.below K);clear K)
   clear Gj;obtain⟨BL,TF⟩:=dH ([(r4,25,#[J V (rm:Int),J V eJ,J V cX,J V eA,J V ek,J V aT])]:List (Nat×TypeId×Array Value));rw[<-TF]at c;clear TF U;have TR:V.wrap sb=sb:=IntWalk.i64_in _ ⟨z,z⟩;go_cut [11] (λv wc=>∃one:Int,v=J V one/\wc=w9);case first =>
    clear c H1 SZ TP;go_upto_region 8 with fail;go_meet;exact⟨_,rfl,rfl⟩
   case rest =>
    obtain⟨one,rfl,rfl⟩:=hcut;clear TR Tv Tx;go_wp2_with fail;go_loopw [42] (λi wr=>∃(k:Nat) (Bk Ck:RB) (R S:M.Room) (G GS:Int->M.ij),i=J V k/\k<=n1/\Bk.g=B.g/\Ck.g=C.g/\kB w wr Bk Ck R S (40*k) BL/\M.lG R G k/\M.lG S GS k/\M.aX one R S) (λi _=>n1-(intOf i).toNat);case atStart=>exact⟨0,B,C,_,_,λ_=>⟨0,0,0,0,[],[],[]⟩,λ_=>⟨0,0,0,0,[],[],[]⟩,rfl,z,rfl,rfl,c.O,.start cf (by rw[TD];exact TA.1) _,.start cf (by rw[TD];exact TA.1) _,.refl _ _⟩
    case round =>
     clear c;obtain⟨k,Bk,Ck,R,S,G,GS,rfl,hk,TG,Ta,t,Tb,Tc,Td⟩:=hrel;by_cases Ud:k<n1
     ·have Ue:((k:Int)<(n1:Int)):=z;have Te:k<l.length:=z;obtain⟨bb,off,hA1,hc⟩:=H1.O.2.2 z;obtain⟨P,q1,q2⟩:=hc k l[k] (ay Te);have Tf:=H1.O.2.1 l[k] (dy Te);have Tg:=SZ.2 l[k] (dy Te);have q1:wr.rangeAt bb (off+k*14) (jQ l[k] P).toList:=λj v hv=>aM t.bw (q1 j v hv);generalize l[k]=x at q1 q2 Tf Tg;have TH:P.n<=400:=by rw[<-q2.len];exact Tg
      subst hA1;obtain⟨c,HQ,Th,F,SM,SH,SN⟩:=lV t q1 q2 Tf Tb Tc Td;clear hc q1 q2 Tf Tg t Tb Tc Td;go_upto_region 11 with(refine gQ rfl 45 (.tmp 44) rfl bb (off+k*14) rfl (jQ x P).toList _ HQ.O underlying45 rfl pV ?_)
      obtain⟨y,Ti⟩:=dH wr.heap.size;rw[<-Ti];refine aW (λY=>kB w Y Bk Ck R S (40*k) ((y,45,jQ x P)::BL)) (c.O.alloc 45 _ Ti) ?_;clear Ti c HQ;rintro Y t;have TI:=au (qL (t.get (ec ..)));have d:=xF t.two.a SM.O z z x F.O P (Th.O.below t.bw) TH;rw[TG]at d;have SI:=SM.O.act x F.O.ok F.O.src;obtain⟨R1,SO⟩:=dH ((R.act x).1);obtain⟨f1,Tj⟩:=dH ((R.act x).2.1);obtain⟨d1,Tk⟩:=dH ((R.act x).2.2);unfold wY at d;rw[<-SO,<-Tj,<-Tk]at d;rw[<-SO]at SI;have TJ:=au d;have c:=au t;have L:=au SI;have SP:=au SO;have Tl:=au Tj;have Tm:=au Tk;clear d t SI SO Tj Tk;go_upto_region 12 with(first
       |(go_at_call 14;refine TJ.O.mono ?_;rintro e TS ⟨B9,rfl,SJ,H⟩;have A:=H.g.trans TG;have D:=au (c.O.left SJ H z);clear SJ H)
       |(refine gQ rfl 45 (.tmp 13) rfl y 0 rfl (jQ x P).toList _ TI.O underlying45 rfl pV ?_))
      have SK:=D.O.get (ec ..);have y0:=SK.cell 0;have y1:=SK.cell 1;have y5:=SK.cell 5;have y6:=SK.cell 6;simp at y0 y1 y5 y6;clear SK TJ TI c;go_cut [83] (λv wc=>v=ai (decide (nB one x))/\wc=TS);case first =>
       have fin:∀b:Bool,(b=true↔nB one x)->b=decide (nB one x):=λb hb=>by
        cases b with
        |true=>exact(decide_eq_true (hb.1 rfl)).symm
        |false=>exact(decide_eq_false (λq=>by have:=hb.2 q;cases this)).symm
       have f:=au fin;clear fin D F SM L SH SN Th H1 SZ SP Tl Tm;by_cases a1:4<=x.nv
       ·by_cases a2:x.nv<=7
        ·have n1:¬x.nv=1:=z;by_cases a3:x.sub=one
         ·have e:decide (nB one x)=true:=decide_eq_true (.inl ⟨a1,a2,a3⟩);have Q:=au e;clear f e;go_wp2_with fail;go_meet;exact⟨by rw[Q.O],rfl⟩
         ·have e:decide (nB one x)=false:=decide_eq_false (λq=>by rcases q with q|q;exact a3 q.2.2;exact n1 q.1);have Q:=au e;clear f e;go_wp2_with fail;go_meet;exact⟨by rw[Q.O]<;>simp[a3],rfl⟩
        ·have n1:¬x.nv=1:=z;have e:decide (nB one x)=false:=decide_eq_false (λq=>by rcases q with q|q;exact a2 q.2.1;exact n1 q.1);have Q:=au e;clear f e;go_wp2_with fail;go_meet;exact⟨by rw[Q.O],rfl⟩
       ·by_cases n1:x.nv=1
        ·by_cases a4:2<=x.w.1
         ·by_cases a5:x.w.2=one
          ·have e:decide (nB one x)=true:=decide_eq_true (.inr ⟨n1,a4,a5⟩);have Q:=au e;clear f e;go_wp2_with fail;go_meet;exact⟨by rw[Q.O],rfl⟩
          ·have e:decide (nB one x)=false:=decide_eq_false (λq=>by rcases q with q|q;exact a1 q.1;exact a5 q.2.2);have Q:=au e;clear f e;go_wp2_with fail;go_meet;exact⟨by rw[Q.O]<;>simp[a5],rfl⟩
         ·have e:decide (nB one x)=false:=decide_eq_false (λq=>by rcases q with q|q;exact a1 q.1;exact a4 q.2.1);have Q:=au e;clear f e;go_wp2_with fail;go_meet;exact⟨by rw[Q.O],rfl⟩
        ·have e:decide (nB one x)=false:=decide_eq_false (λq=>by rcases q with q|q;exact a1 q.1;exact n1 q.1);have Q:=au e;clear f e;go_wp2_with fail;go_meet;exact⟨by rw[Q.O],rfl⟩
      case rest =>
       obtain⟨rfl,rfl⟩:=hcut;clear y0 y1 y5 y6;by_cases o:nB one x
       ·have e:decide (nB one x)=true:=decide_eq_true o;rw[e];have p:M.aX one R1 S:=by rw[SP.O];exact(M.Oo R x o).trans SN.O
        have T:=au p;clear e p o;go_wp2_with fail;go_roundw;case rel=>exact⟨k+1,B9,Ck,R1,S,_,_,by go_num,z,A,Ta,(D.O.drop (λ_ h=>dI _ h)).mono z,L.O,SH.O.more z,T.O⟩
        case measure=>simp[intOf];omega
       ·have e:decide (nB one x)=false:=decide_eq_false o;rw[e];obtain⟨p,SQ⟩:=SN.O.act x o;have d:=xF D.O.two.b SH.O z z x F.O P (Th.O.below D.O.bw) TH;rw[Ta]at d;have SL:=SH.O.act x F.O.ok F.O.src;unfold wY at d;rw[<-SQ,<-Tl.O,<-Tm.O]at d;obtain⟨S1,Tn⟩:=dH ((S.act x).1);rw[<-SP.O,<-Tn]at p;rw[<-Tn]at d SL;have TM:=au (qL (D.O.get (ec ..)));have SU:=au d;have SV:=au SL;have T:=au p;clear d SL p SQ e o Tn SP Tl Tm SN SM SH;go_upto_region 14 with(first
         |(go_at_call 14;refine SU.O.mono ?_;rintro e Uf ⟨C9,rfl,SJ,H⟩;have N:=H.g.trans Ta;have SW:=au (D.O.right SJ H z);clear SJ H)
         |(refine gQ rfl 45 (.tmp 13) rfl y 0 rfl (jQ x P).toList _ TM.O underlying45 rfl pV ?_))
        clear SU TM D;have c:=au (SW.O.mono (N':=40*k+40) z);clear SW;go_wp2_with fail;go_loopw [98] (λi wr=>∃s:Nat,i=J V s/\s<=6/\kB w wr B9 C9 R1 S1 (40*k+40) ((y,45,jQ x P)::BL)) (λi _=>6-(intOf i).toNat);case atStart=>exact⟨0,rfl,z,c.O⟩
        case round =>
         clear c;obtain⟨s,rfl,hs,t⟩:=hrel;by_cases Ug:s<6
         ·have Uh:((s:Int)<6):=z;have c:=au t;clear t;by_cases TT:(s:Int)=one
          ·go_wp2_with fail;go_roundw;case rel=>exact⟨s+1,by go_num,z,c.O⟩
           case measure=>simp[intOf];omega
          ·have To:=Dv c.O.two.a c.O.two.b (s:Int) (Ig z z) (M9 T.O TT) z z L.O.wf.vz SV.O.wf.vz;rw[A,N]at To;have TV:=au To;clear To;go_wp2_with (go_at_call 21;refine TV.O.mono ?_;rintro e wq ⟨rfl,K⟩;have c:=au (c.O.below K);clear K);go_roundw;case rel=>exact⟨s+1,by go_num,z,c.O⟩
           case measure=>simp[intOf];omega
         ·have TW:s=6:=z;subst TW;have c:=au t;clear t;obtain⟨cn,Tp⟩:=dH R1.bp;obtain⟨ck,Tq⟩:=dH R1.cJ;have TN:S1.bp=cn:=by rw[Tp];exact T.O.bp.symm
          have TO:S1.cJ=ck:=by rw[Tq];exact T.O.cJ.symm
          have Tr:=λW (h:kB w W B9 C9 R1 S1 (40*k+40) ((y,45,jQ x P)::BL))=>nM h.two.a;have Ts:=λW (h:kB w W B9 C9 R1 S1 (40*k+40) ((y,45,jQ x P)::BL))=>nM h.two.b;have Tt:=λW (h:kB w W B9 C9 R1 S1 (40*k+40) ((y,45,jQ x P)::BL))=>tN h.two.a;have Tu:=λW (h:kB w W B9 C9 R1 S1 (40*k+40) ((y,45,jQ x P)::BL))=>tN h.two.b;rw[A,<-Tp]at Tr;rw[N,TN]at Ts;rw[A,<-Tq]at Tt;rw[N,TO]at Tu;have TX:=au Tr;have TY:=au Ts;have T8:=au Tt;have T9:=au Tu;clear Tr Ts Tt Tu Tp Tq TN TO;go_wp2_with (first
           |(go_at_call 22;first
               |(have hq:=TX.O _ c.O;with_reducible refine hq.mono ?_;rintro e wq ⟨rfl,K⟩;have c:=au (c.O.below K);clear K hq)
               |(have hq:=TY.O _ c.O;with_reducible refine hq.mono ?_;rintro e wq ⟨rfl,K⟩;have c:=au (c.O.below K);clear K hq))
           |(go_at_call 20;first
               |(have hq:=T8.O _ c.O;with_reducible refine hq.mono ?_;rintro e wq ⟨rfl,rfl⟩;clear hq)
               |(have hq:=T9.O _ c.O;with_reducible refine hq.mono ?_;rintro e wq ⟨rfl,rfl⟩;clear hq)))
          go_roundw;case rel=>exact⟨k+1,B9,C9,R1,S1,_,_,by go_num,z,A,N,(c.O.drop (λ_ h=>dI _ h)).mono z,L.O,SV.O,T.O⟩
          case measure=>simp[intOf];omega
     ·have Ua:k=n1:=z;subst Ua;have c:=au t;clear t Tb Tc Td;go_wp2_with fail;go_ret;exact⟨rfl,c.O.bw⟩
section
open Go.ChangeShapes Go.WideShapes Go.ChangeAt Go.RowKit Go.Deep
inductive Lf where
 |b
 |i (k:IntKind)
 |y
def Lf.ok(w:aw):Lf->Value->Prop
 | .b,v=>∃x,v=ai x
 | .i k,v=>∃n,v=J k n/\(dU k n).wf=true
 | .y,v=>∃a n c xs,v=ae a n c/\pL w a n c xs
def Dh(w:aw):List Lf->List Value->Prop
 |[],cs=>cs=[]
 |l::ls,cs=>∃c a,cs=c::a/\l.ok w c/\Dh w ls a
def Dh.length{w:aw}:∀{ls:List Lf} {cs:List Value},Dh w ls cs->cs.length=ls.length
 |[],cs,h=>by cases h;rfl
 |l::ls,cs,h=>by obtain⟨c,a,rfl,_,b⟩:=h;simp[Dh.length b]
def Dh.append{w:aw}:∀{ls ms:List Lf} {cs ds:List Value},Dh w ls cs->Dh w ms ds->Dh w (ls++ms) (cs++ds)
 |[],_,_,_,h,a=>by cases h;exact a
 |l::ls,_,_,_,h,a=>by obtain⟨c,b,rfl,d,hr⟩:=h;exact⟨c,_,rfl,d,Dh.append hr a⟩
def MG(P:jB)(a:TypeId->Option (List Lf)):List Field->Nat->Option (List Lf)
 |[],_=>Z []
 |f::r,off=>if f.offset=off then
   match a f.type with
   |some ls=>if ls.length=P.cellsOf f.type then
     match MG P a r (off+P.cellsOf f.type) with
     |some rs=>Z (ls++rs)
     |none=>I
    else I
   |none=>I
  else I
def rep(ls:List Lf):Nat->List Lf
 |0=>[]
 |n+1=>ls++rep ls n
def QC(P:jB):Nat->TypeId->Option (List Lf)
 |0,_=>I
 |n+1,t =>
  match P.underlying t with
  |some .bool=>Z [.b]
  |some (.int k)=>Z [.i k]
  |some (.slice e) =>
   match P.underlying e with
   |some (.int bI)=>if P.cellsOf e=1 then Z [.y] else I
   |_=>I
  |some (.array m e) =>
   match QC P n e with
   |some ls=>if ls.length=P.cellsOf e/\P.cellsOf t=m*ls.length then Z (rep ls m) else I
   |none=>I
  |some (.struct a) =>
   match MG P (QC P n) a.toList 0 with
   |some ls=>if ls.length=P.cellsOf t then Z ls else I
   |none=>I
  |_=>I
section
variable {H:Type} {enc:TypeId×Value->H} {P:jB} {w:aw} {base:Nat} {spare:Nat->Bool} {held:Bool}
def uD{t e:TypeId}{fuel:Nat}{cs:List Value}{x:DataW H×List tE}(ht:P.underlying t=Z (.slice e))(he:P.underlying e=Z (.int bI))(m:P.cellsOf e=1)
  (h:mL enc P w base spare held fuel t cs=Z x):∃a n c xs,cs=[ae a n c]/\pL w a n c xs:=by
 rcases open_slice ht h with⟨j,_⟩ | ⟨a',d,l,A,n,D,L,j,_,M,hm,o,_,B⟩
 ·exact⟨I,0,0,[],j,rfl,λx C=>by simp at C,λh0=>absurd h0 z,λ_=>rfl⟩
 ·have hle:d<=A:=by rw[o];split<;>omega
  have key:∀i,i<d->∃y:Int,(dU bI y).wf=true/\w.cell? (a'.add i)=Z (J bI y):=λi k=>by
   obtain⟨E,g,p⟩:=B i z;rw[m,Nat.mul_one]at g;obtain⟨y,rfl,_,hy⟩:=DataW.trod_int he p;obtain⟨_,_,r⟩:=World.cells?_some g;exact⟨y,hy,by simpa[Addr.add]using r 0 z⟩
  obtain⟨f,s⟩:=choose_lt key;refine⟨Z a',d,l,(kq d).map f,j,dt,?_,λh0=>?_,λq=>by cases q⟩
  ·intro y hy;obtain⟨i,u,rfl⟩:=eU.1 hy;exact(s i (by simpa using u)).1
  ·obtain⟨b,off,spot⟩:=a';have F:spot=I:=by
    have:=(s 0 h0).2;simpa[Addr.add]using World.cell?_spot this
   subst F;refine⟨b,off,rfl,λi k=>?_⟩;have v:=(s i k).2;have G:(⟨b,off,I⟩:Addr).add i=⟨b,off+i,I⟩:=by
    unfold Addr.add;split
    ·rename_i K;rw[K];rfl
    ·rfl
   rw[G]at v;rw[v,List.getD_eq_getElem?_getD,dE,List.getElem?_range k];rfl
def IE(c:TypeId->Option (List Lf))(n:Nat)(a:∀t ls,c t=Z ls->∀cs x,mL enc P w base spare held n t cs=Z x->Dh w ls cs)(cs:List Value) :
  ∀(j:List Field) (off:Nat) (ls:List Lf),MG P c j off=Z ls->(∀f∈j,∃x,mL enc P w base spare held n f.type ((cs.drop f.offset).take (P.cellsOf f.type))=Z x) ->
   Dh w ls ((cs.drop off).take ls.length)
 |[],off,ls,h,_=>by simp only[MG,bf]at h;subst h;simp[Dh]
 |f::r,off,ls,h,k=>by
  unfold MG at h;split at h
  ·rename_i b;split at h
   ·rename_i l1 h1;split at h
    ·rename_i l;split at h
     ·rename_i rs d;simp only[bf]at h;subst h;obtain⟨x,i⟩:=k f dt;have a1:=a _ _ h1 _ _ i;rw[b,<-l]at a1;have a2:=IE c n a cs r (off+P.cellsOf f.type) rs d (λg hg=>k g (by simp[hg]));have e:(cs.drop off).take (l1++rs).length=(cs.drop off).take l1.length++(cs.drop (off+P.cellsOf f.type)).take rs.length:=by
       rw[cG,List.take_add,List.drop_drop,l]
      rw[e];exact Dh.append a1 a2
     ·cases h
    ·cases h
   ·cases h
  ·cases h
def Lo(ls:List Lf):∀(m:Nat) (cs:List Value),cs.length=m*ls.length->(∀i,i<m->Dh w ls ((cs.drop (i*ls.length)).take ls.length))->Dh w (rep ls m) cs
 |0,cs,a,_=>by
  rw[qA]at a;exact List.length_eq_zero_iff.1 a
 |m+1,cs,a,h=>by
  have h0:=h 0 z;rw[qA,mI]at h0;have e:cs=cs.take ls.length++cs.drop ls.length:=(List.take_append_drop _ _).symm;rw[e];refine Dh.append h0 (Lo ls m _ ?_ λi c=>?_)
  ·rw[List.length_drop,a,jG];omega
  ·have b:=h (i+1) z;rw[List.drop_drop];rw[show ls.length+i*ls.length=(i+1)*ls.length by rw[jG];omega];exact b
def GL:∀(m:Nat) (t:TypeId) (ls:List Lf),QC P m t=Z ls->∀(n:Nat) (cs:List Value) (x:DataW H×List tE),mL enc P w base spare held n t cs=Z x->Dh w ls cs
 |0,_,_,h=>by cases h
 |m+1,t,ls,h=>by
  intro n cs x j;unfold QC at h;split at h
  ·rename_i hu;cases h;obtain⟨b,rfl,_⟩:=DataW.trod_bool hu j;exact⟨_,_,rfl,⟨b,rfl⟩,rfl⟩
  ·rename_i hu;cases h;obtain⟨k,rfl,_,hw⟩:=DataW.trod_int hu j;exact⟨_,_,rfl,⟨k,rfl,hw⟩,rfl⟩
  ·rename_i e hu;split at h
   ·rename_i he;split at h
    ·rename_i l;cases h;obtain⟨a,g,c,xs,rfl,E⟩:=uD hu he l j;exact⟨_,_,rfl,⟨a,g,c,xs,rfl,E⟩,rfl⟩
    ·cases h
   ·cases h
  ·rename_i k e hu;split at h
   ·rename_i l1 h1;split at h
    ·rename_i o;cases h;obtain⟨xs,g,rfl,_,hlen,p,q⟩:=DataW.trod_array hu j;refine Lo l1 k cs (by rw[hlen];exact o.2) λi s=>?_;have C:=q i s;rw[o.1];have d:i<xs.length:=z;rw[ay d]at C;exact GL m e l1 h1 g _ _ C
    ·cases h
   ·cases h
  ·rename_i D hu;split at h
   ·rename_i l1 h1;split at h
    ·rename_i o;cases h;obtain⟨xs,g,rfl,_,hlen,p,q⟩:=DataW.trod_struct hu j;have r:=IE (enc:=enc) (w:=w) (base:=base) (spare:=spare) (held:=held) (QC P m) g (λF u G v K y=>GL m F u G g v K y) cs D.toList 0 ls h1 (λf A=>by
      obtain⟨i,s,B⟩:=List.getElem_of_mem A
      have d:i<D.size:=by simpa using s
      have:=q i f (by rw[Array.getElem?_eq_getElem d];exact congrArg Z B)
      rw[this]
      exact⟨_,ay z⟩)
     rw[mI,dC z]at r;exact r
    ·cases h
   ·cases h
  ·cases h
end
instance:Inhabited M.Act:=⟨⟨0,0,0,0,[],(0,0),false,0,0,0,0,0,0⟩⟩
def wf_u32{x:Int}(h:(dU ar x).wf=true):0<=x/\x<=4294967295:=by simpa[pD,jI,jJ,fR,gM]using h
def wf_u16{x:Int}(h:(dU aN x).wf=true):0<=x/\x<=65535:=by simpa[pD,jI,jJ,fR,gM]using h
def wf_u8{x:Int}(h:(dU bI x).wf=true):0<=x/\x<=255:=by simpa[pD,jI,jJ,fR,gM]using h
def PT{w:aw}{cs:List Value}(h:Dh w [.i V,.i V,.i V,.i V,.y,.i V,.i V,.b,.i ar,.i ar,.i aN,.i ar,.i ar,.i ar] cs):∃(x:M.Act) (d:Sl),cs=(jQ x d).toList/\pL w d.a d.n d.c x.b/\Nf x:=by
 obtain⟨_,_,rfl,⟨t,rfl,w0⟩,_,_,rfl,⟨u,rfl,w1⟩,_,_,rfl,⟨v,rfl,w2⟩,_,_,rfl,⟨A,rfl,w3⟩,_,_,rfl,⟨a,n,c,xs,rfl,s⟩,_,_,rfl,⟨B,rfl,w5⟩,_,_,rfl,⟨C,rfl,w6⟩,_,_,rfl,⟨D,rfl⟩,_,_,rfl,⟨E,rfl,F⟩,_,_,rfl,⟨G,rfl,H⟩,_,_,rfl,⟨e,rfl,f⟩,_,_,rfl,⟨g,rfl,j⟩,_,_,rfl,⟨k,rfl,l⟩,_,_,rfl,⟨m,rfl,o⟩,rfl⟩:=h;have L:=wf_u32 F;have N:=wf_u32 H;have K:=wf_u16 f;have p:=wf_u32 j;have q:=wf_u32 l;have r:=wf_u32 o;refine⟨⟨t,u,v,A,xs,(B,C),D,E,G,e,g,k,m⟩,⟨a,n,c⟩,rfl,s,⟨⟨λy hy=>?_,by simp only;omega,by simp only;omega,by simp only;omega⟩,w1,p,q,r⟩⟩;have:=wf_u8 (s.wf y hy);omega
section
variable {H:Type} {enc:TypeId×Value->H} {w:aw} {base:Nat} {spare:Nat->Bool} {held:Bool}
def xp{fuel:Nat}{a:Option Addr}{len cap:Nat}{x:DataW H×List tE}(h:mL enc af w base spare held fuel 26 [ae a len cap]=Z x):(∃l,pZ w a len l)/\(a=I->cap=0):=by
 rcases open_slice underlying26 h with⟨d,_⟩ | ⟨a',B,C,F,n,D,T,d,_,U,hm,p,_,G⟩
 ·simp at d;obtain⟨rfl,rfl,rfl⟩:=d;exact⟨⟨[],rfl,λx K=>by simp at K,λh0=>absurd h0 z⟩,λ_=>rfl⟩
 ·simp at d;obtain⟨rfl,rfl,rfl⟩:=d;refine⟨?_,λq=>by cases q⟩;have hle:len<=F:=by rw[p];split<;>omega
  have key:∀i,i<len->∃y:M.Act,Nf y/\∃k:Sl,(∀j,j<14->w.cell? (a'.add (i*14+j))=(jQ y k).toList[j]?)/\pL w k.a k.n k.c y.b:=λi m=>by
   obtain⟨L,g,r⟩:=G i z;rw[show af.cellsOf 45=14 from by kernel_rfl]at g;have N:=GL 6 45 [.i V,.i V,.i V,.i V,.y,.i V,.i V,.b,.i ar,.i ar,.i aN,.i ar,.i ar,.i ar] cC _ _ _ r;obtain⟨y,k,rfl,P,hr⟩:=PT N;obtain⟨_,_,s⟩:=World.cells?_some g;refine⟨y,hr,k,λj t=>?_,P⟩;have:=s j t;rw[Go.Deep.add_add]at this;exact this
  obtain⟨f,u⟩:=choose_lt key;refine⟨(kq len).map f,dt,?_,λh0=>?_⟩
  ·intro y hy;obtain⟨i,A,rfl⟩:=eU.1 hy;exact(u i (by simpa using A)).1
  ·obtain⟨b,off,spot⟩:=a';have Q:spot=I:=by
    obtain⟨_,k,h1,_⟩:=u 0 h0;have o:=h1 0 z;have e:(jQ (f 0) k).toList[0]? = Z (J V (f 0).nv):=rfl;rw[e]at o;simpa[Addr.add]using World.cell?_spot o
   subst Q;have R:∀j,(⟨b,off,I⟩:Addr).add j=⟨b,off+j,I⟩:=λj=>by
    unfold Addr.add;split
    ·rename_i S;rw[S];rfl
    ·rfl
   refine⟨b,off,rfl,λi y hy=>?_⟩;have m:i<len:=by
    have:=(aS.1 hy).1;simpa using this
   rw[dE,List.getElem?_range m]at hy;simp only[Option.map_some,bf]at hy;subst hy;obtain⟨_,k,h1,h2⟩:=u i m;refine⟨k,λj v E=>?_,h2⟩;have t:j<14:=(aS.1 E).1;have o:=h1 j t;rw[R,E]at o;rw[Nat.add_assoc];exact o
end
end
def Qr:ownKnob af.godebug=I:=cC
def qX:laidOutB af=true:=cC
def we{H:Type}{enc:TypeId×Value->H}{a:Assume}{C:Checked}{os:Os}{f:FuncId}{fn:Func}{s:ChangeSpec}{conds:List PathCond}{jF fresh handsOn again:Bool}{X:aw->Array Value->Prop}
  (q:∀(w w':aw) (args:Array Value),w.heap=w'.heap->X w args->X w' args)
  (own:ownKnob C.prog.godebug=I) (started:os.Started) (c:C.prog.inits.idxOf? f=I) (l:C.prog.funcs[f]? = Z fn)
  (witness:∃(w:aw) (tape:Tape) (i:Input),w.os=os/\(w.forCall tape i).Shaped C.prog/\i.vars=[]/\Input.okWide C.prog (w.forCall tape i) .any w.heap.size f i /\
    ((s.pre enc C.prog fn conds jF (w.forCall tape i).memory i.args/\X (w.forCall tape i).memory i.args)/\sizedMet enc C.prog fn (ia s) jF (w.forCall tape i).memory i.args)/\a.holds C.prog (lone (Frame.enter C.prog f i.args .normal) [] (w.forCall tape i)))
  (b:∀(W:aw) (base:Nat) (args:Array Value) (ds gs:List (DataW H)) (before:List tE),
    (∀(j:Nat) t v,fn.params[j]? = Z t->args[j]? = Z v->Value.okWide C.prog W .any base t v) ->
    DataW.Whole enc C.prog fn.params.toList s.vars jF W args.toList ds gs before ->
    X W args->W.ShapedOpen C.prog ->
    aF C.prog f args W λe W'=>∃v,e=av v/\s.post enc C.prog fn jF fresh handsOn again W args v W') :
  ReturnsInHanded a C os f .any (λw args=>(s.pre enc C.prog fn conds jF w args/\X w args)/\sizedMet enc C.prog fn (ia s) jF w args) (s.post enc C.prog fn jF fresh handsOn again):=by
 refine returnsInHanded_of_calls own started c witness ?_;intro w tape i _ m _ n d k;obtain⟨_,_,_,o,g,_,_,_,_,h⟩:=n;have e:o=fn:=Option.some.inj (g.symm.trans l);subst e;obtain⟨⟨⟨ds,gs,before,hw,u⟩,r⟩,x⟩:=d;have p:=DataW.Whole.of_heap (w':=w.forCall tape i) jP hw;refine(b (w.forCall tape i) w.heap.size i.args ds gs before h p (q _ _ _ jP r) m).mono λe W' ⟨v,he,hp⟩=>?_;subst he;exact ChangeSpec.post_blind hp
abbrev wD:List (String×DataW Unit):=[("math/bits.deBruijn32tab",Rows.laid_math_bits_deBruijn32tab),("math/bits.deBruijn64tab",Rows.laid_math_bits_deBruijn64tab),("internal/strconv.uint64pow10",Rows.laid_internal_strconv_uint64pow10),("unicode/utf8.acceptRanges",Rows.laid_unicode_utf8_acceptRanges),("unicode/utf8.first",Rows.laid_unicode_utf8_first)]
def Lr:(Rows.laid_internal_strconv_uint64pow10:DataW Unit)=Lib.tabData .u64 Lib.pow10Tab:=cC
def MN{W:aw}(a:laidMet af wD W)(b:W.ShapedOpen af):Env W:=by
 refine⟨?_,?_⟩
 ·exact cell_of_shapedOpen_int (g:=0) (t:=3) (zero:=#[J V 0]) (k:=V) b (of_decide_eq_true cC) cC cC cC cC cC
 ·have h3:=laidMet.tail (laidMet.tail a);rw[Lr]at h3;exact Lib.tabIs_of_head (g:=3) (t:=475) (e:=197) (n:=20) cC cC cC cC cC cC h3
def nG(w:aw)(bk o:Nat)(ns:List Int):Prop:=∀(j:Nat) x,ns[j]? = Z x->w.cell? ⟨bk,o+j,I⟩=Z (J V x)
def vQ(B:RB)(w:aw)(R:M.Room)(N:Nat)(s:ByteArray)(e:rJ)(w':aw):Prop:=∃B',e=av (.string s)/\aL w' B' R N/\fK w w' B B'
def Od(p bk o c:Nat)(w:aw)(hp:aK w p 180 #[aq I])(a:bk≠p)(b:nG w bk o [2,2,1,1,2,1]) :
  aF af 139 #[aq (Z ⟨p,0,I⟩),.string ⟨#[114,111,111,109]⟩,ae (Z ⟨bk,o,I⟩) 6 c] w λe w'=>∃B:RB,e=av (.string ⟨#[]⟩)/\aL w' B M.s0 0/\(∀i,B.all i->w.heap.size<=i)/\aK w' p 180 #[aq (Z ⟨B.g,0,I⟩)]/\cS (One p) w w':=by
 have d:=JY p bk o c 2 2 1 1 2 1 (aq I) w hp a (λj x k=>b j x k) cC;have l:=hp.cell 0;simp at l;have m:=au d;clear d hp b;go_enter func139,ntmps139;go_wp2_with (go_at_call 202;refine m.O.mono ?_;rintro e w2 ⟨B,rfl,hR,f,h,u⟩;have n:=au hR;have q:=au f;have r:=au h;have s:=au u;clear hR f h u);go_ret;exact⟨B,rfl,n.O,q.O,r.O,s.O⟩
def GO{B:RB}{N:Nat}{w:aw}(h:aL w B M.s0 N)(p bk o c:Nat)(hp:aK w p 180 #[aq (Z ⟨B.g,0,I⟩)])(f:¬B.all bk)(A:N<=500000)(n:nG w bk o [0,7,8,9]) :
  aF af 139 #[aq (Z ⟨p,0,I⟩),.string ⟨#[112,117,98,108,105,115,104]⟩,ae (Z ⟨bk,o,I⟩) 4 c] w (vQ B w M.s1 (N+9) ⟨#[]⟩):=by
 have s:=hp.cell 0;simp at s;have hr:aL w.drew B M.s0 N:=h.below (eW (ao _ _));have i:=vZ hr 0 7 8 9 z aR aR aR;rw[M.Rh]at i;obtain⟨t,u⟩:=bu i n;have d:fK w w.drew B B:=fK.fN B (eW (ao _ _));have k:=au d;clear h hp hr i n d;go_enter func139,ntmps139;go_upto_region 8 with fail;refine fC (S:=λW=>nG W bk o [0,7,8,9]) cC (λj x l=>cE (u.O j x l)) (λa=>?_);refine fS 0 (aq (Z ⟨B.g,0,I⟩)) rfl a ?_;try simp only[aA,pqq]
 refine fS 1 (ae (Z ⟨bk,o,I⟩) 4 c) rfl a ?_;simp only[aA,pqq]
 refine fS 2 (aq (Z ⟨bk,o,I⟩)) rfl a ?_;simp only[aA,pqq]
 refine fS 3 (J V 0) rfl a ?_ (hy:=λW b=>by have q:W.cell? ⟨bk,o,I⟩=Z (J V 0):=b 0 _ rfl;go_simp);simp only[aA,pqq]
 refine fS 4 (ae (Z ⟨bk,o,I⟩) 4 c) rfl a ?_;simp only[aA,pqq]
 refine fS 5 (aq (Z ⟨bk,o+1,I⟩)) rfl a ?_;simp only[aA,pqq]
 refine fS 6 (J V 7) rfl a ?_ (hy:=λW b=>by have q:W.cell? ⟨bk,o+1,I⟩=Z (J V 7):=b 1 _ rfl;go_simp);simp only[aA,pqq]
 refine fS 7 (J ar 7) rfl a ?_ (hy:=λW b=>by have q:ar.wrap 7=7:=rfl;go_simp);simp only[aA,pqq]
 refine fS 8 (ae (Z ⟨bk,o,I⟩) 4 c) rfl a ?_;simp only[aA,pqq]
 refine fS 9 (aq (Z ⟨bk,o+2,I⟩)) rfl a ?_;simp only[aA,pqq]
 refine fS 10 (J V 8) rfl a ?_ (hy:=λW b=>by have q:W.cell? ⟨bk,o+2,I⟩=Z (J V 8):=b 2 _ rfl;go_simp);simp only[aA,pqq]
 refine fS 11 (J ar 8) rfl a ?_ (hy:=λW b=>by have q:ar.wrap 8=8:=rfl;go_simp);simp only[aA,pqq]
 refine fS 12 (ae (Z ⟨bk,o,I⟩) 4 c) rfl a ?_;simp only[aA,pqq]
 refine fS 13 (aq (Z ⟨bk,o+3,I⟩)) rfl a ?_;simp only[aA,pqq]
 refine fS 14 (J V 9) rfl a ?_ (hy:=λW b=>by have q:W.cell? ⟨bk,o+3,I⟩=Z (J V 9):=b 3 _ rfl;go_simp);simp only[aA,pqq]
 refine fS 15 (J ar 9) rfl a ?_ (hy:=λW b=>by have q:ar.wrap 9=9:=rfl;go_simp);simp only[aA,pqq]
 refine fS 16 (cg #[J ar 7,J ar 8,J ar 9]) rfl a ?_;simp only[aA,pqq]
 refine cH (rs:=[17]) cC dt ?_;refine bH rfl (λK r=>?_) cy;rw[if_pos jP];go_simp;go_at_call 38;refine t.O.mono ?_;rintro e w2 ⟨B',rfl,hR,m⟩;dsimp only;have h2:nG w2 bk o [0,7,8,9]:=λj x l=>dD m.fr f (a j x l);refine r.out _ _ h2 (λv=>?_);clear v r K;try simp only[aA,pqq]
 refine fS 18 (J V 0) rfl h2 ?_;simp only[aA,pqq]
 refine gV cC ?_ _;obtain⟨y,HS⟩:=bu (hR.mono (M':=N+9) z) (k.O.trans m);clear hR m h2 a;go_wp2_with fail;go_ret;exact⟨B',rfl,y.O,HS.O⟩
def Oe{B:RB}{N:Nat}{w:aw}(h:aL w B M.s1 N)(p bk o c:Nat)(hp:aK w p 180 #[aq (Z ⟨B.g,0,I⟩)])(f:¬B.all bk)(A:N<=500000)(n:nG w bk o [0,50,5,100]) :
  aF af 139 #[aq (Z ⟨p,0,I⟩),.string ⟨#[106,111,105,110]⟩,ae (Z ⟨bk,o,I⟩) 4 c] w (vQ B w M.s2 (N+2) ⟨#[]⟩):=by
 have s:=hp.cell 0;simp at s;have hr:aL w.drew B M.s1 N:=h.below (eW (ao _ _));have i:=Ba hr 0 50 5 100 z aR aR aR;rw[M.Re]at i;obtain⟨t,u⟩:=bu i n;have d:fK w w.drew B B:=fK.fN B (eW (ao _ _));have k:=au d;clear h hp hr i n d;go_enter func139,ntmps139;go_upto_region 10 with fail;refine fC (S:=λW=>nG W bk o [0,50,5,100]) cC (λj x l=>cE (u.O j x l)) (λa=>?_);refine fS 0 (aq (Z ⟨B.g,0,I⟩)) rfl a ?_;try simp only[aA,pqq]
 refine fS 1 (ae (Z ⟨bk,o,I⟩) 4 c) rfl a ?_;simp only[aA,pqq]
 refine fS 2 (aq (Z ⟨bk,o,I⟩)) rfl a ?_;simp only[aA,pqq]
 refine fS 3 (J V 0) rfl a ?_ (hy:=λW b=>by have q:W.cell? ⟨bk,o,I⟩=Z (J V 0):=b 0 _ rfl;go_simp);simp only[aA,pqq]
 refine fS 4 (ae (Z ⟨bk,o,I⟩) 4 c) rfl a ?_;simp only[aA,pqq]
 refine fS 5 (aq (Z ⟨bk,o+1,I⟩)) rfl a ?_;simp only[aA,pqq]
 refine fS 6 (J V 50) rfl a ?_ (hy:=λW b=>by have q:W.cell? ⟨bk,o+1,I⟩=Z (J V 50):=b 1 _ rfl;go_simp);simp only[aA,pqq]
 refine fS 7 (J ar 50) rfl a ?_ (hy:=λW b=>by have q:ar.wrap 50=50:=rfl;go_simp);simp only[aA,pqq]
 refine fS 8 (ae (Z ⟨bk,o,I⟩) 4 c) rfl a ?_;simp only[aA,pqq]
 refine fS 9 (aq (Z ⟨bk,o+2,I⟩)) rfl a ?_;simp only[aA,pqq]
 refine fS 10 (J V 5) rfl a ?_ (hy:=λW b=>by have q:W.cell? ⟨bk,o+2,I⟩=Z (J V 5):=b 2 _ rfl;go_simp);simp only[aA,pqq]
 refine fS 11 (J aN 5) rfl a ?_ (hy:=λW b=>by have q:aN.wrap 5=5:=rfl;go_simp);simp only[aA,pqq]
 refine fS 12 (ae (Z ⟨bk,o,I⟩) 4 c) rfl a ?_;simp only[aA,pqq]
 refine fS 13 (aq (Z ⟨bk,o+3,I⟩)) rfl a ?_;simp only[aA,pqq]
 refine fS 14 (J V 100) rfl a ?_ (hy:=λW b=>by have q:W.cell? ⟨bk,o+3,I⟩=Z (J V 100):=b 3 _ rfl;go_simp);simp only[aA,pqq]
 refine fS 15 (J ar 100) rfl a ?_ (hy:=λW b=>by have q:ar.wrap 100=100:=rfl;go_simp);simp only[aA,pqq]
 refine cH (rs:=[16]) cC dt ?_;refine bH rfl (λK r=>?_) cy;rw[if_pos jP];go_simp;go_at_call 39;refine t.O.mono ?_;rintro e w2 ⟨B',rfl,hR,m⟩;dsimp only;have h2:nG w2 bk o [0,50,5,100]:=λj x l=>dD m.fr f (a j x l);refine r.out _ _ h2 (λv=>?_);clear v r K;try simp only[aA,pqq]
 refine fS 17 (J V 0) rfl h2 ?_;simp only[aA,pqq]
 refine gV cC ?_ _;obtain⟨y,HS⟩:=bu (hR.mono (M':=N+2) z) (k.O.trans m);clear hR m h2 a;go_wp2_with fail;go_ret;exact⟨B',rfl,y.O,HS.O⟩
def Oc{B:RB}{N:Nat}{w:aw}(h:aL w B M.s2 N)(p bk o c:Nat)(hp:aK w p 180 #[aq (Z ⟨B.g,0,I⟩)])(f:¬B.all bk)(C:N<=500000)(r:nG w bk o [0,0,0]) :
  aF af 139 #[aq (Z ⟨p,0,I⟩),.string ⟨#[116,97,107,101]⟩,ae (Z ⟨bk,o,I⟩) 3 c] w (vQ B w M.s3 (N+1) ⟨#[]⟩):=by
 have t:=hp.cell 0;simp at t;have hr:aL w.drew B M.s2 N:=h.below (eW (ao _ _));have i:=uw hr 0 0 0 aR z (λq=>by obtain⟨G,k⟩:=M.Pk;rw[<-k.inv.lu];exact q);rw[M.Rb]at i;obtain⟨u,v⟩:=bu i r;have b:fK w w.drew B B:=fK.fN B (eW (ao _ _));have l:=au b;clear h hp hr i r b;go_enter func139,ntmps139;go_upto_region 12 with fail;refine fC (S:=λW=>nG W bk o [0,0,0]) cC (λj x m=>cE (v.O j x m)) (λa=>?_);refine fS 0 (aq (Z ⟨B.g,0,I⟩)) rfl a ?_;try simp only[aA,pqq]
 refine fS 1 (ae (Z ⟨bk,o,I⟩) 3 c) rfl a ?_;simp only[aA,pqq]
 refine fS 2 (aq (Z ⟨bk,o,I⟩)) rfl a ?_;simp only[aA,pqq]
 refine fS 3 (J V 0) rfl a ?_ (hy:=λW d=>by have q:W.cell? ⟨bk,o,I⟩=Z (J V 0):=d 0 _ rfl;go_simp);simp only[aA,pqq]
 refine fS 4 (ae (Z ⟨bk,o,I⟩) 3 c) rfl a ?_;simp only[aA,pqq]
 refine fS 5 (aq (Z ⟨bk,o+1,I⟩)) rfl a ?_;simp only[aA,pqq]
 refine fS 6 (J V 0) rfl a ?_ (hy:=λW d=>by have q:W.cell? ⟨bk,o+1,I⟩=Z (J V 0):=d 1 _ rfl;go_simp);simp only[aA,pqq]
 refine fS 7 (ae (Z ⟨bk,o,I⟩) 3 c) rfl a ?_;simp only[aA,pqq]
 refine fS 8 (aq (Z ⟨bk,o+2,I⟩)) rfl a ?_;simp only[aA,pqq]
 refine fS 9 (J V 0) rfl a ?_ (hy:=λW d=>by have q:W.cell? ⟨bk,o+2,I⟩=Z (J V 0):=d 2 _ rfl;go_simp);simp only[aA,pqq]
 refine cH (rs:=[10]) cC dt ?_;refine bH rfl (λK s=>?_) cy;rw[if_pos jP];go_simp;go_at_call 40;refine u.O.mono ?_;rintro e w2 ⟨B',rfl,hR,n⟩;dsimp only;have h2:nG w2 bk o [0,0,0]:=λj x m=>dD n.fr f (a j x m);refine s.out _ _ h2 (λy=>?_);clear y s K;try simp only[aA,pqq]
 refine fS 11 (J V 0) rfl h2 ?_;simp only[aA,pqq]
 refine gV cC ?_ _;obtain⟨A,HS⟩:=bu (hR.mono (M':=N+1) z) (l.O.trans n);clear hR n h2 a;go_wp2_with fail;go_ret;exact⟨B',rfl,A.O,HS.O⟩
def PH{B:RB}{N:Nat}{w:aw}(h:aL w B M.s3 N)(p bk o c:Nat)(hp:aK w p 180 #[aq (Z ⟨B.g,0,I⟩)])(K:N<=500000)(t:nG w bk o [7,1,9]) :
  aF af 139 #[aq (Z ⟨p,0,I⟩),.string ⟨#[107,101,121]⟩,ae (Z ⟨bk,o,I⟩) 3 c] w (vQ B w M.s4 (N+1) ⟨#[]⟩):=by
 have v:=hp.cell 0;simp at v;obtain⟨y,A⟩:=bu h t;clear h hp t;go_enter func139,ntmps139;go_upto_region 18 with fail;have hm:∀W r,aC w W->aK W r 5 #[J bI 16,J bI 0]->aF af 203 #[ae (Z ⟨bk,o,I⟩) 3 c,ae (Z ⟨r,0,I⟩) 2 2] W λe w'=>(∃s:Sl,e=av (ae s.a s.n s.c)/\s.B w' M.dg)/\aC W w':=λW r b C =>
  JG bk o c 7 1 9 ⟨Z ⟨r,0,I⟩,2,2⟩ [16,0] W (λj x D=>aM b (A.O j x D)) ⟨⟨rfl,aR,λ_=>⟨r,0,_,rfl,C,λi E=>by
   rcases i with _|_|i
   ·rfl
   ·rfl
   ·simp only at E;omega⟩⟩,aj _,(ui:2<=maxLen),λq=>by cases q⟩ aR aR aR aR
 have d:=hm (w.alloc (.cells #[J bI 16,J bI 0] 5)) w.heap.size ((ao _ w).alloc (aj _) _) (aK.newAt _ _ _ _ rfl);have F:=au d;clear hm d;go_wp2_with (first
  |(go_at_call 203;refine F.O.mono ?_;rintro e w2 ⟨⟨s,rfl,f⟩,b2⟩;have b3:=((ao w.heap.size w).alloc (aj _) (.cells #[J bI 16,J bI 0] 5)).trans (b2.mono dt);have k:s.n=14:=(by rw[<-f.tl.1,M.QG];rfl);have l:=tO (y.O.below b3) s M.dg (.of f) z z;rw[M.Q9]at l;have G:=au l;have m:=au b3;clear l f b2 b3 k)
  |(go_at_call 26;refine G.O.mono ?_;rintro e w4 ⟨B',rfl,hR,u⟩;have H:=au hR;have HS:=au ((fK.fN B m.O).trans u);clear hR u))
 go_ret;exact⟨B',rfl,H.O,HS.O⟩
def Ob{B:RB}{N:Nat}{w:aw}(h:aL w B M.s4 N)(p:Nat)(hp:aK w p 180 #[aq (Z ⟨B.g,0,I⟩)])(a:¬B.all p)(f:N<=500000)(bk o c:Nat)(b:nG w bk o [1]) :
  aF af 139 #[aq (Z ⟨p,0,I⟩),.string ⟨#[116,117,114,110]⟩,ae (Z ⟨bk,o,I⟩) 1 c] w (vQ B w M.s5 (N+45) ⟨#[53]⟩):=by
 have ht:=IZ h p hp a f bk o c (b 0 _ rfl);have i:=hp.cell 0;simp at i;have j:=au ht;clear ht h hp a b;go_enter func139,ntmps139;go_wp2_with (go_at_call 205;refine j.O.mono ?_;rintro e w2 ⟨B',rfl,hR,d⟩;have k:=au hR;have HS:=au d;clear hR d);go_ret;exact⟨B',rfl,k.O,HS.O⟩
def MO{B:RB}{N:Nat}{w:aw}(h:aL w B M.s5 N)(p:Nat)(hp:aK w p 180 #[aq (Z ⟨B.g,0,I⟩)])(d:N<=500000)(he:Env w)(bk o c:Nat)(a:nG w bk o [0]) :
  aF af 139 #[aq (Z ⟨p,0,I⟩),.string ⟨#[119,114,111,116,101]⟩,ae (Z ⟨bk,o,I⟩) 1 c] w (vQ B w M.s5 N answer):=by
 have ht:=FA h p hp d he bk o c (a 0 _ rfl);have f:=hp.cell 0;simp at f;obtain⟨i,j⟩:=bu ht h;clear ht h hp a he;go_enter func139,ntmps139;go_wp2_with (go_at_call 205;refine i.O.mono ?_;rintro e w2 ⟨rfl,b2⟩;have b:=au b2;clear b2);go_ret;exact⟨B,rfl,j.O.below b.O,fK.fN B b.O⟩
def mr(w:aw)(g o:Nat)(ws:List ByteArray):Prop:=∀(j:Nat) x,ws[j]? = Z x->w.cell? ⟨g,o+j,I⟩=Z (.string x)
def mr.below{w w':aw}{g o:Nat}{ws:List ByteArray}(h:mr w g o ws)(b:aC w w'):mr w' g o ws:=λj x a=>aM b (h j x a)
def Iy{w:aw}{base:Nat}{v:Value}{ws:List ByteArray}{ns:List Int}(h:w.ownsRow base 3 1 v ws.length (ws.map λx=>J V (numOf x.data.toList)))(b:ws.map (λx=>numOf x.data.toList)=ns)(hp:0<ws.length) :
  ∃g c,v=ae (Z ⟨g,0,I⟩) ws.length c/\nG w g 0 ns/\base<=g/\g<w.heap.size:=by
 obtain⟨g,c,rfl⟩:=Joins.ownsRow_form h hp;obtain⟨e,f⟩:=h.lt g rfl;refine⟨g,c,rfl,λj x a=>?_,e,f⟩;have i:j<ns.length:=(aS.1 a).1;have k:ns.length=ws.length:=by rw[<-b,List.length_map]
 rw[cO,h.cellAt j z];rw[<-b,dE]at a;rw[dE];cases d:ws[j]? with
 |none=>rw[d]at a;cases a
 |some y=>rw[d]at a;simp at a;simp[a]
def JK{w:aw}(p:Nat)(hp:aK w p 180 #[aq I])(g o c:Nat)(hw:mr w g o Sc.w0)(Bm:7<=c) :
  aF af 78 #[aq (Z ⟨p,0,I⟩),ae (Z ⟨g,o,I⟩) 7 c] w λe w'=>∃B:RB,e=av (.string ⟨#[111,107]⟩)/\aL w' B M.s0 0/\(∀i,B.all i->w.heap.size<=i)/\aK w' p 180 #[aq (Z ⟨B.g,0,I⟩)]/\Fr (One p) w w':=by
 have Cj:∀(fn:Fn) (first cap:Array Value) (w:aw),(Instr.makeFunc fn first cap).run af w=.ok (.func fn first cap) w:=λ_ _ _ _=>rfl;obtain⟨L,N⟩:=bu hp hw;have Cm:¬c=1:=z;have Gj:¬c<1:=z;have SG:=hp.lt;clear hp hw;go_enter_defers func78,ntmps78;go_upto_region 1 with fail;obtain⟨r4,P⟩:=dH w.heap.size;rw[<-P];have Q:w.heap.size<=r4:=z;refine aW (λX=>aK X r4 9 #[.string ⟨#[]⟩]/\aC w X) ⟨aK.newAt _ _ _ _ P,(ao _ w).alloc (aj _) _⟩ ?_;rintro X ⟨b4,G⟩;have k0:X.cell? ⟨g,o,I⟩=Z (.string ⟨#[114,111,111,109]⟩):=N.O.below G 0 _ rfl;have SH:r4<X.heap.size:=b4.lt;obtain⟨r,a⟩:=bu b4 G;have s:X.cell? ⟨p,0,I⟩=Z (aq I):=by have t:=(L.O.kept G).cell 0;simpa using t
 have R:=au s;clear b4 G P s;go_upto_region 3 with fail;clear k0;have HF:=au (λW:aw=>J1 W);have h:=au (λ(W:aw) (b:aC X W)=>xY ⟨#[110,110,110,110,110,110]⟩ g (o+1) (c-1) Sc.w0.tail W (λj x hx=>by
  have t:=N.O.below (a.O.trans (b.mono a.O.size)) (j+1) x (by simpa using hx)
  rw[show o+1+j=o+(j+1) by omega];exact t) (by have:=uc (N.O 0 _ rfl);have:=a.O.size;have:=b.size;omega) rfl aR aR)
 refine wp_region_noPanic ?_;refine fC (S:=λW=>aC X W) cC (eW (ao _ _)) (λd=>?_);refine fS 0 (.string ⟨#[114,111,111,109]⟩) rfl d ?_;try simp only[aA,pqq]
 refine fS 2 (ae (Z ⟨g,o,I⟩) 7 c) rfl d ?_;simp only[aA,pqq]
 refine fS 3 (ae (Z ⟨g,o+1,I⟩) 6 (c-1)) rfl d ?_;simp only[aA,pqq]
 refine cH (rs:=[1]) cC dt ?_;refine bH rfl (λK y=>?_) cy;rw[if_pos jP];go_simp;go_at_call 138;refine(HF.O _).mono ?_;rintro e w2 ⟨rfl,rfl⟩;dsimp only;refine y.out _ _ d (λT=>?_);clear T y K;try simp only[aA,pqq]
 refine cH (rs:=[4]) cC dt ?_;refine bH rfl (λK y=>?_) cy;rw[if_pos jP];go_simp;go_at_call 137;refine(h.O _ d).mono ?_;rintro e w3 ⟨v,rfl,hv,b3⟩;dsimp only;have h3:aC X w3:=d.trans (b3.mono d.size);obtain⟨g5,c5,rfl,A,SI,SJ⟩:=Iy (ns:=[2,2,1,1,2,1]) hv aR aR;refine y.out _ _ h3 (λT=>?_);clear T y K;try simp only[aA,pqq]
 refine fS 5 (ae (Z ⟨g5,0,I⟩) Sc.w0.tail.length c5) rfl h3 ?_;simp only[aA,pqq]
 refine gV cC ?_ _;refine NoPanic.normal ?_;have SK:X.heap.size<=g5:=by have:=d.size;omega
 have l:=a.O.trans (h3.mono a.O.size);have m:=L.O.kept l;have c0:=m.cell 0;simp at c0;have C:=r.O.kept h3;have D:=Od p g5 0 c5 w3 m (lE a.O.size) A;obtain⟨U,n,E⟩:=bU D l C;clear D l C m A hv h3 b3 h HF R d r;go_wp2_with (go_at_call 139;refine U.O.mono ?_;rintro e H ⟨B,rfl,hR,hL,hP,u⟩;have b4:=E.O.dW u (λq=>by have:r4=p:=q;omega);have q4:=b4.cell 0;have f4:=b4.frozen 0;simp at q4;have HR:=au hR;have HL:=au hL;have Y:=au hP;have HU:=au u;have k:=au b4;clear hR hL hP u b4);refine leaves_cons (f:=135) (args:=#[aq (Z ⟨r4,0,I⟩)]) dt (by simp[go_sem]) ?_;refine(vJ ⟨r4,0,I⟩ _).mono ?_;rintro e u' SL ⟨rfl,rfl,rfl⟩;have Bj:(H.setCell ⟨r4,0,I⟩ (.string ⟨#[111,107]⟩)).cell? ⟨r4,0,I⟩=Z (.string ⟨#[111,107]⟩):=by have t:=(k.O.bC 0 (.string ⟨#[111,107]⟩)).cell 0;simpa using t
 simp[Go.Leaves,settle,aV,results78,go_sem,Bj];have f9:Fr (One r4) H (H.setCell ⟨r4,0,I⟩ (.string ⟨#[111,107]⟩)):=(Fr.refl (One r4) _).setCell k.O (.inl rfl) aR aR 0 _;have SM:=n.O.size;have f3:Fr (One p) w H:=(Fr.bn n.O).trans (Fr.nY HU.O (ts:=[180]) (λi F=>by cases F;exact⟨180,_,dt,L.O.kept n.O⟩) aR aR);exact⟨B,HR.O.fr f9 (λi F q=>by have:=HL.O i F;rw[show i=r4 from q]at this;omega),λi F=>by have:=HL.O i F;omega,Y.O.dW f9.u (λq=>by have:p=r4:=q;omega),f3.step f9 (λi q=>by right;rw[show i=r4 from q];exact Q)⟩
def uT{B:RB}{R R':M.Room}{N N':Nat}{w:aw}(D L more Fk:ByteArray)(wt:List ByteArray)(ns:List Int)(m:Nat)(hm:wt.length=m)(SI:(D.toList==[114,111,111,109])=false)(E:∀W,aF af 138 #[.string D] W λe w'=>e=av (.string L)/\w'=W)
  (hf:L.size=wt.length) (hl:wt.length<=100) (SJ:∀(j:Nat) (h:j<L.size) x,wt[j]? = Z x->Iz L[j] x=true) (SK:wt.map (λx=>numOf x.data.toList)=ns) (Q:0<wt.length)
  (T:more=⟨#[]⟩/\Fk=⟨#[111,107]⟩\/(more.toList.isEmpty=false/\more.size<=100)/\Fk=⟨#[111,107,32]⟩++more) (h:aL w B R N) (p:Nat) (hp:aK w p 180 #[aq (Z ⟨B.g,0,I⟩)])
  (r:∀W g5 c5,aC w W->w.heap.size<=g5->nG W g5 0 ns->aF af 139 #[aq (Z ⟨p,0,I⟩),.string D,ae (Z ⟨g5,0,I⟩) m c5] W (vQ B W R' N' more))
  (g o c:Nat) (hw:mr w g o (D::wt)) (SP:m+1<=c) :
  aF af 78 #[aq (Z ⟨p,0,I⟩),ae (Z ⟨g,o,I⟩) (m+1) c] w λe w'=>∃B',e=av (.string Fk)/\aL w' B' R' N'/\fK w w' B B':=by
 have SQ:∀(fn:Fn) (first cap:Array Value) (w:aw),(Instr.makeFunc fn first cap).run af w=.ok (.func fn first cap) w:=λ_ _ _ _=>rfl;obtain⟨HP,HW⟩:=bu hp hw;have SU:¬c=1:=z;have SV:¬c<1:=z;have U:=au r;have SL:=h.lt;have SW:¬((m:Int)+1<1):=z;have SX:¬D.toList=[114,111,111,109]:=by simpa using SI
 have SY:=hp.lt;clear hp hw r h;go_enter_defers func78,ntmps78;go_upto_region 1 with fail;obtain⟨r4,e4⟩:=dH w.heap.size;rw[<-e4];have Y:w.heap.size<=r4:=z;refine aW (λX=>aK X r4 9 #[.string ⟨#[]⟩]/\aC w X) ⟨aK.newAt _ _ _ _ e4,(ao _ w).alloc (aj _) _⟩ ?_;rintro X ⟨b4,bX⟩;have k0:X.cell? ⟨g,o,I⟩=Z (.string D):=HW.O.below bX 0 _ rfl;have SZ:r4<X.heap.size:=b4.lt;obtain⟨Bj,n⟩:=bu b4 bX;have Bm:X.cell? ⟨p,0,I⟩=Z (aq (Z ⟨B.g,0,I⟩)):=by have F:=(HP.O.kept bX).cell 0;simpa using F
 have SM:=au Bm;clear b4 bX e4 Bm;go_upto_region 3 with fail;clear k0;have HF:=au E;have s:=au (λ(W:aw) (b:aC X W)=>xY L g (o+1) (c-1) wt W (λj x hx=>by
  have F:=HW.O.below (n.O.trans (b.mono n.O.size)) (j+1) x (by simpa using hx)
  rw[show o+1+j=o+(j+1) by omega];exact F) (by have:=uc (HW.O 0 _ rfl);have:=n.O.size;have:=b.size;omega) hf hl SJ)
 rw[hm]at s;refine wp_region_noPanic ?_;refine fC (S:=λW=>aC X W) cC (eW (ao _ _)) (λy=>?_);refine fS 0 (.string D) rfl y ?_;try simp only[aA,pqq]
 refine fS 2 (ae (Z ⟨g,o,I⟩) (m+1) c) rfl y ?_;simp only[aA,pqq]
 refine fS 3 (ae (Z ⟨g,o+1,I⟩) m (c-1)) rfl y ?_;simp only[aA,pqq]
 refine cH (rs:=[1]) cC dt ?_;refine bH rfl (λK hK=>?_) cy;rw[if_pos jP];go_simp;go_at_call 138;refine(HF.O _).mono ?_;rintro e w2 ⟨rfl,rfl⟩;dsimp only;refine hK.out _ _ y (λhq=>?_);clear hq hK K;try simp only[aA,pqq]
 refine cH (rs:=[4]) cC dt ?_;refine bH rfl (λK hK=>?_) cy;rw[if_pos jP];go_simp;go_at_call 137;refine(s.O _ y).mono ?_;rintro e w3 ⟨v,rfl,hv,b3⟩;dsimp only;have h3:aC X w3:=y.trans (b3.mono y.size);rw[<-hm]at hv;obtain⟨g5,c5,rfl,Cj,Ta,Tb⟩:=Iy hv SK Q;rw[hm];refine hK.out _ _ h3 (λhq=>?_);clear hq hK K;try simp only[aA,pqq]
 refine fS 5 (ae (Z ⟨g5,0,I⟩) m c5) rfl h3 ?_;simp only[aA,pqq]
 refine gV cC ?_ _;refine NoPanic.normal ?_;have Tc:X.heap.size<=g5:=by have:=y.size;omega
 have A:=n.O.trans (h3.mono n.O.size);have Cm:=HP.O.kept A;have c0:=Cm.cell 0;simp at c0;have Gj:=Bj.O.kept h3;have r:=U.O w3 g5 c5 A (lE n.O.size) Cj;obtain⟨SG,SH,l⟩:=bU r A Gj;have C:¬B.all r4:=λq=>by have:=SL r4 q;omega
 clear r A Gj Cm Cj hv h3 b3 s HF SM y Bj;rcases T with⟨rfl,rfl⟩ | ⟨⟨Td,Te⟩,rfl⟩
 ·go_wp2_with (go_at_call 139;refine SG.O.mono ?_;rintro e G ⟨B',rfl,hR,a⟩;have b4:=l.O.dW a.fr.u C;have q4:=b4.cell 0;have f4:=b4.frozen 0;simp at q4;have t:¬B'.all r4:=(λq=>by rcases a.own r4 q with k|k;exact C k;have:=l.O.lt;omega);have HR:=au hR;have HS:=au a;have d:=au b4;clear hR a b4);refine leaves_cons (f:=135) (args:=#[aq (Z ⟨r4,0,I⟩)]) dt (by simp[go_sem]) ?_;refine(vJ ⟨r4,0,I⟩ _).mono ?_;rintro e u' SN ⟨rfl,rfl,rfl⟩;have H:(G.setCell ⟨r4,0,I⟩ (.string ⟨#[111,107]⟩)).cell? ⟨r4,0,I⟩=Z (.string ⟨#[111,107]⟩):=by have F:=(d.O.bC 0 (.string ⟨#[111,107]⟩)).cell 0;simpa using F
  simp[Go.Leaves,settle,aV,results78,go_sem,H];have f9:Fr (One r4) G (G.setCell ⟨r4,0,I⟩ (.string ⟨#[111,107]⟩)):=(Fr.refl (One r4) _).setCell d.O (.inl rfl) aR aR 0 _;have a:=(fK.fN B SH.O).trans HS.O;exact⟨B',HR.O.fr f9 (λi hi q=>t ((show i=r4 from q) ▸ hi)),a.g,a.fr.step f9 (λi q=>by right;rw[show i=r4 from q];exact Y),a.own⟩
 ·have SO:=λW:aw=>run_string_add (P:=af) W ⟨#[111,107,32]⟩ more aR z;go_wp2_with (go_at_call 139;refine SG.O.mono ?_;rintro e G ⟨B',rfl,hR,a⟩;have b4:=l.O.dW a.fr.u C;have q4:=b4.cell 0;have f4:=b4.frozen 0;simp at q4;have t:¬B'.all r4:=(λq=>by rcases a.own r4 q with k|k;exact C k;have:=l.O.lt;omega);have HR:=au hR;have HS:=au a;have d:=au b4;clear hR a b4);refine leaves_cons (f:=135) (args:=#[aq (Z ⟨r4,0,I⟩)]) dt (by simp[go_sem]) ?_;refine(vJ ⟨r4,0,I⟩ _).mono ?_;rintro e u' SN ⟨rfl,rfl,rfl⟩;have H:(G.setCell ⟨r4,0,I⟩ (.string (⟨#[111,107,32]⟩++more))).cell? ⟨r4,0,I⟩=Z (.string (⟨#[111,107,32]⟩++more)):=by have F:=(d.O.bC 0 (.string (⟨#[111,107,32]⟩++more))).cell 0;simpa using F
  simp[Go.Leaves,settle,aV,results78,go_sem,H];have f9:Fr (One r4) G (G.setCell ⟨r4,0,I⟩ (.string (⟨#[111,107,32]⟩++more))):=(Fr.refl (One r4) _).setCell d.O (.inl rfl) aR aR 0 _;have a:=(fK.fN B SH.O).trans HS.O;exact⟨B',HR.O.fr f9 (λi hi q=>t ((show i=r4 from q) ▸ hi)),a.g,a.fr.step f9 (λi q=>by right;rw[show i=r4 from q];exact Y),a.own⟩
def CJ{B:RB}{N:Nat}{w:aw}(p:Nat)(h:aL w B M.s0 N)(hp:aK w p 180 #[aq (Z ⟨B.g,0,I⟩)])(d:¬B.all p)(f:N<=400000)(g o c:Nat)(hw:mr w g o Sc.w1)(a:5<=c) :
  aF af 78 #[aq (Z ⟨p,0,I⟩),ae (Z ⟨g,o,I⟩) 5 c] w λe w'=>∃B',e=av (.string ⟨#[111,107]⟩)/\aL w' B' M.s1 (N+9)/\fK w w' B B':=
 uT ⟨#[112,117,98,108,105,115,104]⟩ ⟨#[110,110,110,110]⟩ ⟨#[]⟩ ⟨#[111,107]⟩ Sc.w1.tail [0,7,8,9] 4 rfl cC CO rfl aR aR aR aR (.inl ⟨rfl,rfl⟩) h p hp (λW g c b hg n=>GO (h.below b) p g 0 c (hp.kept b) (λq=>by have:=h.lt g q;omega) z n) g o c hw a
def JL{B:RB}{N:Nat}{w:aw}(p:Nat)(h:aL w B M.s1 N)(hp:aK w p 180 #[aq (Z ⟨B.g,0,I⟩)])(d:¬B.all p)(f:N<=400000)(g o c:Nat)(hw:mr w g o Sc.w2)(a:5<=c) :
  aF af 78 #[aq (Z ⟨p,0,I⟩),ae (Z ⟨g,o,I⟩) 5 c] w λe w'=>∃B',e=av (.string ⟨#[111,107]⟩)/\aL w' B' M.s2 (N+2)/\fK w w' B B':=
 uT ⟨#[106,111,105,110]⟩ ⟨#[110,110,115,110]⟩ ⟨#[]⟩ ⟨#[111,107]⟩ Sc.w2.tail [0,50,5,100] 4 rfl cC J5 rfl aR aR aR aR (.inl ⟨rfl,rfl⟩) h p hp (λW g c b hg n=>Oe (h.below b) p g 0 c (hp.kept b) (λq=>by have:=h.lt g q;omega) z n) g o c hw a
def JJ{B:RB}{N:Nat}{w:aw}(p:Nat)(h:aL w B M.s2 N)(hp:aK w p 180 #[aq (Z ⟨B.g,0,I⟩)])(d:¬B.all p)(f:N<=400000)(g o c:Nat)(hw:mr w g o Sc.w3)(a:4<=c) :
  aF af 78 #[aq (Z ⟨p,0,I⟩),ae (Z ⟨g,o,I⟩) 4 c] w λe w'=>∃B',e=av (.string ⟨#[111,107]⟩)/\aL w' B' M.s3 (N+1)/\fK w w' B B':=
 uT ⟨#[116,97,107,101]⟩ ⟨#[110,110,110]⟩ ⟨#[]⟩ ⟨#[111,107]⟩ Sc.w3.tail [0,0,0] 3 rfl cC J0 rfl aR aR aR aR (.inl ⟨rfl,rfl⟩) h p hp (λW g c b hg n=>Oc (h.below b) p g 0 c (hp.kept b) (λq=>by have:=h.lt g q;omega) z n) g o c hw a
def LV{B:RB}{N:Nat}{w:aw}(p:Nat)(h:aL w B M.s3 N)(hp:aK w p 180 #[aq (Z ⟨B.g,0,I⟩)])(d:¬B.all p)(f:N<=400000)(g o c:Nat)(hw:mr w g o Sc.w4)(a:4<=c) :
  aF af 78 #[aq (Z ⟨p,0,I⟩),ae (Z ⟨g,o,I⟩) 4 c] w λe w'=>∃B',e=av (.string ⟨#[111,107]⟩)/\aL w' B' M.s4 (N+1)/\fK w w' B B':=
 uT ⟨#[107,101,121]⟩ ⟨#[110,115,110]⟩ ⟨#[]⟩ ⟨#[111,107]⟩ Sc.w4.tail [7,1,9] 3 rfl cC ME rfl aR aR aR aR (.inl ⟨rfl,rfl⟩) h p hp (λW g c b hg n=>PH (h.below b) p g 0 c (hp.kept b) z n) g o c hw a
def JI{B:RB}{N:Nat}{w:aw}(p:Nat)(h:aL w B M.s4 N)(hp:aK w p 180 #[aq (Z ⟨B.g,0,I⟩)])(a:¬B.all p)(f:N<=400000)(g o c:Nat)(hw:mr w g o Sc.w5)(d:2<=c) :
  aF af 78 #[aq (Z ⟨p,0,I⟩),ae (Z ⟨g,o,I⟩) 2 c] w λe w'=>∃B',e=av (.string ⟨#[111,107,32,53]⟩)/\aL w' B' M.s5 (N+45)/\fK w w' B B':=
 uT ⟨#[116,117,114,110]⟩ ⟨#[116]⟩ ⟨#[53]⟩ ⟨#[111,107,32,53]⟩ Sc.w5.tail [1] 1 rfl cC JZ rfl aR aR aR aR (.inr ⟨⟨cC,aR⟩,cC⟩) h p hp (λW g c b hg n=>Ob (h.below b) p (hp.kept b) a z g 0 c n) g o c hw d
def Gs{B:RB}{N:Nat}{w:aw}(p:Nat)(h:aL w B M.s5 N)(hp:aK w p 180 #[aq (Z ⟨B.g,0,I⟩)])(d:¬B.all p)(f:N<=400000)(he:Env w)(g o c:Nat)(hw:mr w g o Sc.w6)(a:2<=c) :
  aF af 78 #[aq (Z ⟨p,0,I⟩),ae (Z ⟨g,o,I⟩) 2 c] w λe w'=>∃B',e=av (.string ⟨#[111,107,32,48,58,53,58,49,48,48]⟩)/\aL w' B' M.s5 (N+0)/\fK w w' B B':=
 uT ⟨#[119,114,111,116,101]⟩ ⟨#[110]⟩ ⟨#[48,58,53,58,49,48,48]⟩ ⟨#[111,107,32,48,58,53,58,49,48,48]⟩ Sc.w6.tail [0] 1 rfl cC GK rfl aR aR aR aR (.inr ⟨⟨cC,aR⟩,cC⟩) h p hp (λW g c b hg n=>MO (h.below b) p (hp.kept b) z (he.below b) g 0 c n) g o c hw a
section
namespace Sc
def SR:Nat->M.Room
 |0=>M.s0
 |1=>M.s1
 |2=>M.s2
 |3=>M.s3
 |4=>M.s4
 |_=>M.s5
def Sa:∀k,Nl (SR k)
 |0=>Ri
 |1=>Rf
 |2=>Rc
 |3=>Ra
 |4=>Q8
 |_+5=>QX
def Fk:Nat->ByteArray
 |5=>⟨#[111,107,32,53]⟩
 |6=>⟨#[111,107,32,48,58,53,58,49,48,48]⟩
 |_=>⟨#[111,107]⟩
def ws:Nat->List ByteArray
 |0=>w0
 |1=>w1
 |2=>w2
 |3=>w3
 |4=>w4
 |5=>w5
 |_=>w6
def ln:Nat->ByteArray
 |0=>l0
 |1=>l1
 |2=>l2
 |3=>l3
 |4=>l4
 |5=>l5
 |_=>l6
def fF:Nat->List UInt8
 |0=>[]
 |k+1=>fF k++(Fk k).data.toList++[10]
end Sc
def Hv(w:aw)(base p b gl:Nat):Nat->Prop
 |0=>aK w p 180 #[aq I]
 |k+1=>∃B:RB,aL w B (Sc.SR k) (100*k)/\aK w p 180 #[aq (Z ⟨B.g,0,I⟩)]/\∀i,B.all i->base<=i/\i≠p/\i≠b/\i≠gl
def aL.ni{w:aw}{B:RB}{R:M.Room}{N:Nat}(h:aL w B R N):vP w B.all:=λi ⟨X,a⟩=>(h.part X).ni i a
structure KJ(w0:aw)(p b gl:Nat)(w:aw)(k:Nat)(t:List UInt8):Prop where
 st:Hv w w0.heap.size p b gl k
 OR:yA w w0.heap.size b t
 lines:aK w gl 9 (Sc.lines.map jA).toArray
 env:Env w
 fN:aC w0 w
 lo:w0.heap.size<=p/\w0.heap.size<=b/\w0.heap.size<=gl
 ne:p≠b/\gl≠p/\gl≠b
section
variable {w0 w w':aw} {p b gl k:Nat} {t:List UInt8}
def yA.fr{F:Nat->Prop}{base:Nat}(h:yA w base b t)(f:Fr F w w')(a:¬F b)(hm:vP w F):yA w' base b t:=by
 obtain⟨c,v,h1,h2,h3,h4⟩:=h;refine⟨c,v,h1,h2.dW f.u a,h3,h4.dW f.u λi d q=>?_⟩;obtain⟨cs,e⟩:=h4.PL d;exact(hm i q).ne e (.inl rfl) rfl
def Hv.below{base:Nat}:∀{k:Nat},Hv w base p b gl k->aC w w'->Hv w' base p b gl k
 |0,h,u=>aK.kept h u
 |k+1,h,u=>by obtain⟨B,h1,h2,h3⟩:=h;exact⟨B,h1.below u,h2.kept u,h3⟩
def KJ.below(h:KJ w0 p b gl w k t)(u:aC w w'):KJ w0 p b gl w' k t:=
 ⟨h.st.below u,h.OR.fr (F:=cr) (.bn u) id (vP.none _),h.lines.kept u,h.env.below u,h.fN.trans (u.mono h.fN.size),h.lo,h.ne⟩
def Env.PM(h:Env w0)(u:aC w0 w):Env w:=h.below u
def KJ.line(h:KJ w0 p b gl w k t)(he:Env w0)(E:k<7)(g o c:Nat)(hw:mr w g o (Sc.ws k))(n:(Sc.ws k).length<=c) :
  aF af 78 #[aq (Z ⟨p,0,I⟩),ae (Z ⟨g,o,I⟩) (Sc.ws k).length c] w λe w'=>e=av (.string (Sc.Fk k))/\KJ w0 p b gl w' (k+1) t:=by
 have fin:∀(B B':RB) (w':aw),aL w B (Sc.SR (k-1)) (100*(k-1))->(∀i,B.all i->w0.heap.size<=i/\i≠p/\i≠b/\i≠gl)->aK w p 180 #[aq (Z ⟨B.g,0,I⟩)] ->
   aL w' B' (Sc.SR k) (100*k)->fK w w' B B'->KJ w0 p b gl w' (k+1) t:=λB B' w' hR j l d m=>by
  have r:Below w0.heap.size w w':=m.fr.below h.fN.size λi s=>(j i s).1;have hp:=l.lt;have x:=h.lines.lt;have y:b<w.heap.size:=by obtain⟨A,v,_,q,_⟩:=h.OR;exact q.lt
  refine⟨⟨B',d,?_,λi s=>?_⟩,h.OR.fr m.fr (λq=>(j b q).2.2.1 rfl) hR.ni,h.lines.dW m.fr.u (λq=>(j gl q).2.2.2 rfl),he.PM (h.fN.trans r),h.fN.trans r,h.lo,h.ne⟩
  ·rw[m.g];exact l.dW m.fr.u (λq=>(j p q).2.1 rfl)
  ·rcases m.own i s with q|q
   ·exact j i q
   ·have:=h.fN.size;exact⟨z,z,z,z⟩
 have lt7:k=0\/k=1\/k=2\/k=3\/k=4\/k=5\/k=6:=z;rcases lt7 with rfl|rfl|rfl|rfl|rfl|rfl|rfl
 ·refine(JK p h.st g o c hw n).mono ?_;rintro e w' ⟨B,rfl,hR,C,l,f⟩;have hp:aK w p 180 #[aq I]:=h.st;have D:=hp.lt;have x:=h.lines.lt;have y:b<w.heap.size:=by obtain⟨A,v,_,q,_⟩:=h.OR;exact q.lt
  have r:Below w0.heap.size w w':=f.below h.fN.size λi s=>by cases s;exact h.lo.1
  refine⟨rfl,⟨B,hR,l,λi s=>?_⟩,h.OR.fr f (λq=>h.ne.1 (by cases q;rfl)) (λi q=>by cases q;exact .cw hp aR aR),h.lines.dW f.u (λq=>h.ne.2.1 q),he.PM (h.fN.trans r),h.fN.trans r,h.lo,h.ne⟩;have:=C i s;have:=h.fN.size;exact⟨z,z,z,z⟩
 ·obtain⟨B,a,l,j⟩:=h.st;have hR:aL w B M.s0 0:=a;refine(CJ p hR l (λq=>(j p q).2.1 rfl) aR g o c hw n).mono ?_;rintro e w' ⟨B',rfl,d,m⟩;exact⟨rfl,fin B B' w' a j l (d.mono aR) m⟩
 ·obtain⟨B,a,l,j⟩:=h.st;have hR:aL w B M.s1 100:=a;refine(JL p hR l (λq=>(j p q).2.1 rfl) aR g o c hw n).mono ?_;rintro e w' ⟨B',rfl,d,m⟩;exact⟨rfl,fin B B' w' a j l (d.mono aR) m⟩
 ·obtain⟨B,a,l,j⟩:=h.st;have hR:aL w B M.s2 200:=a;refine(JJ p hR l (λq=>(j p q).2.1 rfl) aR g o c hw n).mono ?_;rintro e w' ⟨B',rfl,d,m⟩;exact⟨rfl,fin B B' w' a j l (d.mono aR) m⟩
 ·obtain⟨B,a,l,j⟩:=h.st;have hR:aL w B M.s3 300:=a;refine(LV p hR l (λq=>(j p q).2.1 rfl) aR g o c hw n).mono ?_;rintro e w' ⟨B',rfl,d,m⟩;exact⟨rfl,fin B B' w' a j l (d.mono aR) m⟩
 ·obtain⟨B,a,l,j⟩:=h.st;have hR:aL w B M.s4 400:=a;refine(JI p hR l (λq=>(j p q).2.1 rfl) aR g o c hw n).mono ?_;rintro e w' ⟨B',rfl,d,m⟩;exact⟨rfl,fin B B' w' a j l (d.mono aR) m⟩
 ·obtain⟨B,a,l,j⟩:=h.st;have hR:aL w B M.s5 500:=a;refine(Gs p hR l (λq=>(j p q).2.1 rfl) aR h.env g o c hw n).mono ?_;rintro e w' ⟨B',rfl,d,m⟩;exact⟨rfl,fin B B' w' a j l (d.mono aR) m⟩
def KJ.wrote(h:KJ w0 p b gl w k t)(he:Env w0){m:List UInt8}(hp:yT w w0.heap.size b m w'):KJ w0 p b gl w' k m:=by
 obtain⟨o,F,⟨r,hF⟩,u⟩:=hp;have a:Below w0.heap.size w w':=u.below h.fN.size λi c=>(hF i c).1;have h5:∀{g:Nat} {ty:TypeId} {cs:Array Value},aK w g ty cs->ty≠5->g≠b->¬F g:=λd ht f q=>by
  rcases(hF _ q).2 with e | ⟨j,e⟩
  ·exact f e
  ·exact aK.jf d e ht rfl
 have l:Hv w' w0.heap.size p b gl k:=by
  cases k with
  |zero=>exact aK.dW (show aK w p 180 #[aq I] from h.st) u (h5 h.st aR h.ne.1)
  |succ k =>
   obtain⟨B,hR,n,d⟩:=h.st;refine⟨B,hR.jF u r (Sc.Sa k) (λi c q=>?_),n.dW u (h5 n aR h.ne.1),d⟩;rcases(hF i q).2 with e | ⟨j,e⟩
   ·exact(d i c).2.2.1 e
   ·exact(hR.ni i c).ne e (.inl rfl) rfl
 exact⟨l,o,h.lines.dW u (h5 h.lines aR h.ne.2.2),he.PM (h.fN.trans a),h.fN.trans a,h.lo,h.ne⟩
end
def No(k:Nat)(o:k<7){w:aw}(he:Env w):aF af 76 #[.string (Sc.ln k)] w λe w'=>∃g c,e=av (ae (Z ⟨g,0,I⟩) (Sc.ws k).length c)/\mr w' g 0 (Sc.ws k)/\(Sc.ws k).length<=c/\aC w w':=by
 obtain⟨m,hm⟩:=he.max;have fin:∀(L:List ByteArray),0<L.length->∀(e:rJ) (w':aw),(∃v,e=av v/\w'.ownsRow w.heap.size 9 1 v L.length (L.map jA)/\aC w w')->∃g c,e=av (ae (Z ⟨g,0,I⟩) L.length c)/\mr w' g 0 L/\L.length<=c/\aC w w':=by
  rintro L i e w' ⟨v,rfl,d,b⟩;obtain⟨g,c,rfl⟩:=Joins.ownsRow_form d i;have f:L.length<=c:=by
   rcases d.2 with⟨q,_⟩ | ⟨p,cap,dx,q,_,_,l,_⟩
   ·cases q
   ·injection q with _ _ n
    subst n;exact l
  refine⟨g,c,rfl,λj x h=>?_,f,b⟩;have r:j<L.length:=(aS.1 h).1;rw[cO,d.cellAt j z,dE,h];rfl
 have lt7:k=0\/k=1\/k=2\/k=3\/k=4\/k=5\/k=6:=z;rcases lt7 with rfl|rfl|rfl|rfl|rfl|rfl|rfl
 ·have a:=oW Sc.l0 Sc.w0 Sc.Mj Sc.Mk aR aR m w hm;rw[Sc.Nv]at a;exact a.mono (fin _ aR)
 ·have a:=oW Sc.l1 Sc.w1 Sc.Mh Sc.Mi aR aR m w hm;rw[Sc.Nu]at a;exact a.mono (fin _ aR)
 ·have a:=oW Sc.l2 Sc.w2 Sc.Mf Sc.Mg aR aR m w hm;rw[Sc.Nt]at a;exact a.mono (fin _ aR)
 ·have a:=oW Sc.l3 Sc.w3 Sc.Md Sc.Me aR aR m w hm;rw[Sc.Ns]at a;exact a.mono (fin _ aR)
 ·have a:=oW Sc.l4 Sc.w4 Sc.Mb Sc.Mc aR aR m w hm;rw[Sc.Nr]at a;exact a.mono (fin _ aR)
 ·have a:=oW Sc.l5 Sc.w5 Sc.L8 Sc.Ma aR aR m w hm;rw[Sc.Nq]at a;exact a.mono (fin _ aR)
 ·have a:=oW Sc.l6 Sc.w6 Sc.L4 Sc.L7 aR aR m w hm;rw[Sc.Np]at a;exact a.mono (fin _ aR)
def PQ(k:Nat):∀x∈Lib.strCells (Sc.Fk k),x≠J bI 16:=by
 have key:∀(s:ByteArray),(∀b∈s.data.toList,b≠16)->∀x∈Lib.strCells s,x≠J bI 16:=λs c x a=>by
  unfold Lib.strCells at a;rw[eU]at a;obtain⟨b,d,rfl⟩:=a;intro e;injection e with _ e
  exact c b d (UInt8.toNat_inj.1 (by simpa using Int.ofNat.inj e))
 refine key _ ?_;unfold Sc.Fk;split<;>decide
def Fc(k:Nat):(Sc.Fk k).size<=10:=by unfold Sc.Fk;split<;>decide
def DQ:∀k,(Sc.fF k).length<=11*k
 |0=>aj _
 |k+1=>by
  have:=DQ k;have h2:=Fc k;have h3:(Sc.Fk k).data.toList.length=(Sc.Fk k).size:=rfl;unfold Sc.fF;simp only[cG,List.length_cons,List.length_nil];omega
def OS(k:Nat):0<(Sc.ws k).length:=by unfold Sc.ws;split<;>decide
def Py(k:Nat)(a:k<7):(Sc.lines.map jA).toArray[k]? = Z (.string (Sc.ln k)):=by
 have lt7:k=0\/k=1\/k=2\/k=3\/k=4\/k=5\/k=6:=z;rcases lt7 with rfl|rfl|rfl|rfl|rfl|rfl|rfl<;>rfl
abbrev said:ByteArray:=⟨#[111,107,10,111,107,10,111,107,10,111,107,10,111,107,10,111,107,32,53,10,111,107,32,48,58,53,58,49,48,48,10]⟩
def LG:(⟨(Sc.fF 7).toArray⟩:ByteArray)=said:=cC
def Lg(w:aw)(he:Env w):aF af 29 #[.string Sc.text] w λe w'=>e=av (aB #[.string said,J V 0])/\aC w w':=by
 obtain⟨m,hm⟩:=he.max;have G:=au he;have h:=λW (b:aC w W)=>Tryz.strings_Split Sc.text ⟨#[10]⟩ m W aR (aM b hm) aR;rw[Sc.Fy,Sc.Fz]at h;have s:=au h;clear he h hm;go_enter func29,ntmps29;go_upto_region 5 with fail;obtain⟨p,hp⟩:=dH (w.heap.size+1);obtain⟨b,H⟩:=dH w.heap.size;try simp only[World.size_alloc]
 rw[<-hp,<-H];have j:aC w ((w.alloc (.cells #[aq I,ae I 0 0] 178)).alloc (.cells #[aq I] 180)):=((ao _ w).alloc (aj _) _).alloc dt _;refine aW (λX=>aK X b 178 #[aq I,ae I 0 0]/\aK X p 180 #[aq I]/\aC w X) ⟨(aK.newAt _ _ _ _ H).alloc _,aK.newAt _ _ _ _ (by simp[hp]),j⟩ ?_;have d:p≠b/\w.heap.size<=p/\w.heap.size<=b:=z;clear j hp H;rintro X ⟨bB,bP,bX⟩;obtain⟨K,L,t⟩:=bU bB bP bX;clear bB bP bX;go_wp2_with (go_at_call 75;refine(s.O _ t.O).mono ?_;rintro e w2 ⟨rfl,rfl⟩);obtain⟨gl,hg⟩:=dH X.heap.size;rw[<-hg];refine aW (λBm=>KJ w p b gl Bm 0 (Sc.fF 0)) ?_ ?_
 ·have j:aC X (X.alloc (.cells (Sc.lines.map jA).toArray 9)):=(ao _ X).alloc (aj _) _;have h1:=K.O.lt;have h2:=L.O.lt;have h3:=t.O.size;refine⟨L.O.kept j,⟨I,ae I 0 0,d.2.2,K.O.kept j,.inl rfl,⟨⟨rfl,.inl ⟨rfl,rfl⟩⟩,λg cs q=>by cases q⟩⟩,aK.newAt _ _ _ _ hg,G.O.below (t.O.trans (j.mono h3)),t.O.trans (j.mono h3),⟨d.2.1,d.2.2,z⟩,d.1,z,z⟩
 clear s K L hg;rintro Bm hZ;have HZ:=au hZ;clear hZ t;go_loopw [15] (λi wr=>∃k:Nat,i=J V k/\k<=7/\KJ w p b gl wr k (Sc.fF k)) (λi _=>7-(intOf i).toNat);case atStart=>exact⟨0,rfl,z,HZ.O⟩
 case round =>
  clear HZ;obtain⟨k,rfl,hk,hR⟩:=hrel;by_cases l:k<7
  ·have Cj:((k:Int)<7):=z;have a:wr.cell? ⟨gl,k,I⟩=Z (.string (Sc.ln k)):=(hR.lines.cell k).trans (Py k l);have u:(0:Int)<((Sc.ws k).length:Int):=by have:=OS k;omega
   have M:=au (No k l hR.env);have Cm:=hR.fN.size;have Gj:=DQ k;have SG:=Fc k;have HR:=au hR;obtain⟨ls,v⟩:=dH (Sc.ln k);rw[<-v]at a M;clear hR v;go_upto_region 10 with(go_at_call 76;refine M.O.mono ?_;rintro e w3 ⟨g,c,rfl,hW,N,b3⟩;have x:=au hW;have y:=au (HR.O.below b3);clear hW b3)
   clear a M HR u;have A:=au (y.O.line G.O l g 0 c x.O N);go_upto_region 11 with(first
    |(go_at_call 78;refine A.O.mono ?_;rintro e w4 ⟨rfl,f⟩;have P:=f.fN.size;have B:=au f;have C:=au (IP w.heap.size b (Sc.fF k) (Sc.Fk k) w4 f.OR (PQ k) z P);clear f)
    |(go_at_call 77;refine C.O.mono ?_;rintro e w5 ⟨rfl,D⟩;have n:=B.O.wrote G.O D;have Q:=n.fN.size;have E:=au n;clear D n))
   have o:=Fl w.heap.size b (Sc.fF k++(Sc.Fk k).data.toList) 10 w5 E.O.OR aR (by
    have h3:(Sc.Fk k).data.toList.length=(Sc.Fk k).size:=rfl
    rw[cG];omega) Q
   rw[show(((10:UInt8).toNat:Nat):Int)=10 from rfl]at o;have R:=au o;clear o A C B y x;go_wp2_with (go_at_call 79;refine R.O.mono ?_;rintro e w6 ⟨rfl,F⟩;have S:=au (E.O.wrote G.O F);clear F);go_roundw;case rel=>exact⟨k+1,by go_num,z,S.O⟩
   case measure=>simp[intOf];omega
  ·have T:k=7:=z;subst T;have r:=Og w.heap.size b (Sc.fF 7) wr hR.OR hR.fN.size;rw[LG]at r;obtain⟨U,Y⟩:=bu r hR.fN;clear r hR;go_wp2_with (go_at_call 80;refine U.O.mono ?_;rintro e w3 ⟨rfl,b3⟩;have Bj:=au b3;clear b3);refine ax (ew rfl _ _ _) rfl ?_;exact⟨rfl,Y.O.trans Bj.O⟩
def BO(w:aw)(he:Env w):aF af 8 #[] w λe w'=>e=av (ai true)/\aC w w':=by
 have hr:=Lg w he;have a:=au hr;clear hr he;go_enter func8,ntmps8;go_wp2_with (go_at_call 29;refine a.O.mono ?_;rintro e w2 ⟨rfl,b2⟩;have b:=au b2;clear b2);go_ret;exact⟨rfl,b.O⟩
end
end Go.Proofs.YtkfblammcilfhaaGreatDoor
open Go.Proofs.YtkfblammcilfhaaGreatDoor
namespace Go.Proofs.YtkfblammcilfhaaGreatDoor.topAlone
open Go.ChangeShapes Go.WideShapes Go.ChangeAt Go.RowKit Go.Proofs.YtkfblammcilfhaaGreatDoor
theorem lifted(os:Os)(started:os.Started)(H:Type)(enc:TypeId×Value->H) :
  ReturnsInHanded {} Tryz.checked os 5 .any (λw args=>(Rows.topAloneSpec.pre enc af iO [] false w args/\laidMetH af wD w)/\sizedMet enc af iO (ia Rows.topAloneSpec) false w args)
   (Rows.topAloneSpec.post enc af iO false true false false):=by
 refine we (C:=Tryz.checked) (X:=λw _=>laidMetH af wD w) (λ_ _ _ hh h=>h.of_heap hh) Qr started cC func5
  (ChangeSpec.witness_shaped (enc:=enc) (C:=Tryz.checked) (os:=os) (X:=λw _=>laidMetH af wD w) false (World.laidAll af os wD) #[cg #[J V 0,J V 0,J V 0,J V 0,J V 0,J V 0],ae I 0 0,J bI 0] 8 (World.laidAll_os _ _ _)
    (World.shaped_of_ZipB cC cC) cC cC cC
    (by rw[MakeChecks.laidMetH_plain _ _ _ cC];exact laidMet_laidAll _ cC cC)) ?_
 intro W base args ds gs before c L M u;have a:∀(j:Nat) t v,iO.params[j]? = Z t->args[j]? = Z v->Value.okWide af W .any base t v:=c;have y:=L;obtain⟨p,q,hA0,hV,rfl,Cm,Gj⟩:=L;have N:DataW.TrodAll enc af W 0 (λ_=>true) true iO.params.toList args.toList ds p:=hA0;rw[params5]at N a;rw[MakeChecks.laidMetH_plain _ _ _ cC]at M;have d:Env W:=MN M u;obtain⟨v0,SG,d0,SH,p0,q0,A,rfl,rfl,h0,r0⟩:=trodAll_cons N;obtain⟨v1,SI,d1,SJ,p1,q1,rfl,rfl,rfl,h1,r1⟩:=trodAll_cons r0;obtain⟨v2,SK,d2,SL,p2,q2,rfl,rfl,rfl,h2,r2⟩:=trodAll_cons r1;obtain⟨rfl,rfl,rfl⟩:=trodAll_nil r2;obtain rfl:args=#[v0,v1,v2]:=by cases args;simp_all
 obtain⟨rfl,rfl⟩:=trodVars_none hV;have P:=h0;have B:∀x∈p0,x.block<W.heap.size:=by obtain⟨m,hm⟩:=P;exact DataW.trod_lt m _ _ _ hm
 have Q:=h1;have D:∀x∈p1,x.block<W.heap.size:=by obtain⟨m,hm⟩:=Q;exact DataW.trod_lt m _ _ _ hm
 have R:=h2;have E:∀x∈p2,x.block<W.heap.size:=by obtain⟨m,hm⟩:=R;exact DataW.trod_lt m _ _ _ hm
 obtain⟨F,rfl,SM⟩:=okWide_struct underlying25 (a 0 25 v0 rfl rfl);obtain⟨l0⟩:=F;obtain⟨SN,G⟩:=h0;have S:=CP 6 25 [.i V,.i V,.i V,.i V,.i V,.i V] cC _ _ _ G;simp only[gW]at S;obtain⟨_,_,rfl,⟨f,rfl,T⟩,⟨_,_,rfl,⟨g,rfl,U⟩,⟨_,_,rfl,⟨k,rfl,Y⟩,⟨_,_,rfl,⟨l,rfl,Bj⟩,⟨_,_,rfl,⟨n,rfl,Bm⟩,⟨_,_,rfl,⟨o,rfl,Cj⟩,rfl⟩⟩⟩⟩⟩⟩:=S;obtain⟨b1,r,s,rfl⟩:=okWide_slice underlying26 (a 1 26 v1 rfl rfl);obtain⟨SO,K⟩:=h1;obtain⟨⟨l1,L1⟩,z1⟩:=xp (by simpa[gW]using K);obtain⟨a2,rfl,rfl,rfl,w2⟩:=open_int underlying5 (a 2 5 v2 rfl rfl) h2;clear hA0 c;refine(Kw f g k l n o b1 r s l1 a2 w2 W L1 (λX b=>BO X (d.below b))).mono λe W' ⟨he,fN⟩=>?_;subst he;exact⟨_,rfl,_,_,_,[],_,[],y,trodAll_mk1 (shut_bool underlying4 _),(trodAll_cons_mk (Below.trod qX cC (of_decide_eq_true cC) P fN B) (trodAll_cons_mk (Below.trod qX cC (of_decide_eq_true cC) Q fN D) (trodAll_cons_mk (Below.trod qX cC (of_decide_eq_true cC) R fN E) trodAll_mk0))),rfl,fN.frame _,λh=>by cases h⟩
theorem over:Rows.topAloneRow.holds Tryz.pinned (ia Rows.topAloneSpec):=
 OpenClaim.holds_of_wide 5 iO rfl rfl rfl rfl rfl rfl rfl ⟨rfl,rfl,rfl,rfl,rfl⟩ rfl rfl rfl rfl rfl MA func5 facts
  GD GC
  (λos started H enc _=>lifted os started H enc)
theorem proved:Rows.TopAloneCardSaid:=
 Claim7.holds_tied_plain_at .later [] [.data,.data,.data,.data,.pinned] true (true, "fe3bf948f87408109fc988edfa475a9853c94568239a86a91671cb0854e8905a") true
  over (λ_ h=>by cases h) RO (λ_ h=>by cases h) topAlone_row_tie rfl ⟨rfl,rfl⟩ RQ rfl
  (λf fn c b=>by
    obtain rfl:f=5:=Option.some.inj (MA.symm.trans c) |>.symm
    obtain rfl:fn=iO:=(Option.some.inj (func5.symm.trans b)).symm
    exact⟨Rr,λj t ht=>by
     rw[params5]at ht
     have hm:t∈[25,26,5]:=by simpa using Array.mem_of_getElem? ht
     have a:([25,26,5].all λu=>!Tryz.prog.wantsStandIn u)=true:=cC
     exact(show af.wantsStandIn t=false by simpa using List.all_eq_true.1 a t hm)⟩)
  RR
#print axioms proved
end Go.Proofs.YtkfblammcilfhaaGreatDoor.topAlone
namespace Go.Proofs.YtkfblammcilfhaaGreatDoor
end Go.Proofs.YtkfblammcilfhaaGreatDoor
