import Derived.Below
import Derived.Carry
import Derived.HandedShaped
import Derived.Handed
import Derived.LaidLaws
import Derived.Lay
import Derived.Stop.LaidErr
import Derived.MakeChecks
import Derived.Shelf.Vars
import Derived.Lib.LaidTab
import Derived.WideKeyEntry
import Derived.Test.YtkfblammcilfhaaGreatDoorP16
import Derived.Test.YtkfblammcilfhaaGreatDoorP19
set_option linter.all false
set_option maxRecDepth 100000
set_option maxHeartbeats 100000000
open Go.ChangeShapes Go.WideShapes Go.ChangeAt Go.RowKit Go.Proofs.Tryz
open Go.Lit renaming int->dU,wf->pD
open Go renaming World->aw,Calls->aF,bodyPost_ret->ax,results_tmp2->ew,wpList_load_mid->gQ,Program->jB,MemPlace->tE,zeroValue->ja,run_underlying->oE
open Bool renaming and_eq_true->cM,not_false->rN,false_eq_true->cB,or_eq_true->AN
open Go.Proofs.Tryz renaming prog->af
open Go.RowKit.Below renaming refl->ao
open Nat renaming le_refl->aj,zero_mul->qA,add_mul->jG,zero_add->cO
open List renaming getElem?_eq_getElem->ay,take_succ_eq_append_getElem->dK,any_eq_true->tw,mem_append->bt,any_eq_false->oA,take_of_length_le->dC,range->kq,mem_map->eU,getElem?_map->dE,length_append->cG,drop_zero->mI,getElem_of_mem->ed,getElem?_eq_some_iff->aS,pairwise_cons->cv,mem_cons->fw,pairwise_append->ef,filter_append->ju,mem_filter->eL,take_length->cT,sublist_cons_self->oq
open Go.DataW renaming trod->mL
open Option.some renaming injEq->bf
open Go.IntKind renaming min->jI,max->jJ,signed->fR,bits->gM,i64->V,u32->ar,u16->aN,u8->bI
open Option renaming map_some->ya,isSome_iff_exists->dw,none->I,some->Z
open Array renaming getElem?_setIfInBounds_ne->gi,getElem?_setIfInBounds_self_of_lt->fV,getElem?_eq_some_iff->jm
open Go.Instr renaming mapUpdate->eF,mapEntry->nB,entryStore->Bt,lookup->cD,index->ec
open Go.Value renaming bool->ai,int->J,slice->ae,pointer->aq,tuple->aB,agg->cg
open Go.Act renaming put->aA
open Go.MapKept renaming run_getObj_map->qs,run_setObj_map->Ao
open Go.Result renaming andThen->jH
open Go.Ending renaming returned->av
namespace Go.Proofs.YtkfblammcilfhaaGreatDoor
abbrev jQ(x:M.Act)(b:Sl):Array Value:=#[J V x.nv,J V x.sub,J V x.jo,J V x.aY,ae b.a b.n b.c,J V x.w.1,J V x.w.2,ai x.fq,J ar x.own,J ar x.aU,J aN x.dQ,J ar x.s0,J ar x.s1,J ar x.s2]
structure Nf(x:M.Act):Prop where
 ok:x.Ok
 sub:(dU V x.sub).wf=true
 src:(0<=x.s0/\x.s0<=4294967295)/\(0<=x.s1/\x.s1<=4294967295)/\0<=x.s2/\x.s2<=4294967295
 wk:(dU V x.w.2).wf=true
def wY(B:RB)(w:aw)(R:M.Room)(N:Nat)(x:M.Act)(e:Ending)(w':aw):Prop:=
 ∃B',e=av (aB #[J V (R.act x).2.1,ai (R.act x).2.2])/\aL w' B' (R.act x).1 (N+20)/\fK w w' B B'
def Fq{x:Int}(h:0<=x/\x<=4294967295):Ng x:=by unfold Ng pD;rw[cM,decide_eq_true_iff,decide_eq_true_iff];exact⟨h.1,h.2⟩
def K9{B:RB}{R:M.Room}{N:Nat}{w:aw}(h:aL w B R N){G:Int->M.ij}{n:Nat}(b:M.lG R G n)(i:N<600000) :
  aF af 37 #[aq (Z ⟨B.g,0,I⟩)] w (kk B w (J V R.tick.2) R.tick.1 (N+20)):=by
 cases a:R.cN with
 |true =>
  refine(Cl h a).mono ?_;rintro e w' ⟨c,d,rfl⟩;exact⟨B,c,by rw[d];exact h.mono z,fK.refl _ _⟩
 |false =>
  have f:R.tick.2=0:=by unfold M.Room.tick;rw[a];rfl
  rw[f];exact Jc h a (Bs b) (Ml b) z
def xF{B:RB}{R:M.Room}{N:Nat}{w:aw}(h:aL w B R N){G:Int->M.ij}{n:Nat}(hk:M.lG R G n)(hn:n<=1000)(hN:N<600000)(x:M.Act)(hx:Nf x)(s:Sl)(p:pL w s.a s.n s.c x.b)(hl:s.n<=400) :
  aF af 14 #[aq (Z ⟨B.g,0,I⟩),cg (jQ x s)] w (wY B w R N x):=by
 obtain⟨H,v,u,HB⟩:=cA h hk hx p;have A:=h.lt;clear h hk hx p;go_enter func14,ntmps14;go_upto_region 1 with fail;obtain⟨r3,C⟩:=dH w.heap.size;rw[<-C];have al:aC w (w.alloc (.cells (jQ x s) 45)):=(ao _ w).alloc (aj _) _;refine aW (λX=>aK X r3 45 (jQ x s)/\aC w X) ⟨aK.newAt _ _ _ _ C,al⟩ ?_;clear al C;rintro X ⟨b3,y⟩;have h:=H.O.below y;have p:=HB.O.below y;have hS:=fK.fN B y;have r:=b3.cell 0;have k1:=b3.cell 1;have k2:=b3.cell 2;have k3:=b3.cell 3;have k4:=b3.cell 4;have k5:=b3.cell 5;have k6:=b3.cell 6;have k7:=b3.cell 7;have k8:=b3.cell 8;have k9:=b3.cell 9;have D:=b3.cell 10;have E:=b3.cell 11;have F:=b3.cell 12;have K:=b3.cell 13;simp at r k1 k2 k3 k4 k5 k6 k7 k8 k9 D E F K;have HS:=au hS;clear y b3 H HB hS A;by_cases k:0<=x.nv/\x.nv<=8
 ·have L:x.nv=0\/x.nv=1\/x.nv=2\/x.nv=3\/x.nv=4\/x.nv=5\/x.nv=6\/x.nv=7\/x.nv=8:=z;clear k;rcases L with k|k|k|k|k|k|k|k|k
  ·have d:R.act x=((R.fT x.b).1,(R.fT x.b).2,false):=by unfold M.Room.act;simp only[k];rfl
   rw[k]at r;obtain⟨o,f⟩:=bu (tO h s x.b p hl z) d;clear d k h p;go_wp2_with (go_at_call 26;refine o.O.mono ?_;rintro e t ⟨B',rfl,i,j⟩;have l:=au i;have m:=au j;clear i j);refine ax (ew rfl _ _ _) rfl ?_;exact⟨B',by rw[f.O];rfl,by rw[f.O];exact l.O.mono z,HS.O.trans m.O⟩
  ·have d:R.act x=((R.pick x.w x.fq).1,0,(R.pick x.w x.fq).2):=by unfold M.Room.act;simp only[k];rfl
   rw[k]at r;obtain⟨o,f⟩:=bu (sY h x.w.1 x.w.2 x.fq (ta v.O hn) z) d;clear d k h p;go_wp2_with (go_at_call 25;refine o.O.mono ?_;rintro e t ⟨B',rfl,i,j⟩;have l:=au i;have m:=au j;clear i j);refine ax (ew rfl _ _ _) rfl ?_;exact⟨B',by rw[f.O];rfl,by rw[f.O];exact l.O.mono z,HS.O.trans m.O⟩
  ·have d:R.act x=(R.tick.1,R.tick.2,false):=by unfold M.Room.act;simp only[k];rfl
   rw[k]at r;obtain⟨o,f⟩:=bu (K9 h v.O hN) d;clear d k h p;go_wp2_with (go_at_call 37;refine o.O.mono ?_;rintro e t ⟨B',rfl,i,j⟩;have l:=au i;have m:=au j;clear i j);refine ax (ew rfl _ _ _) rfl ?_;exact⟨B',by rw[f.O];rfl,by rw[f.O];exact l.O.mono z,HS.O.trans m.O⟩
  ·have d:R.act x=((R.gg x.jo x.s0 x.s1 x.s2).1,(R.gg x.jo x.s0 x.s1 x.s2).2,false):=by unfold M.Room.act;simp only[k];rfl
   rw[k]at r;obtain⟨o,f⟩:=bu (vZ h x.jo x.s0 x.s1 x.s2 z (Fq u.O.src.1) (Fq u.O.src.2.1) (Fq u.O.src.2.2)) d;clear d k h p;go_wp2_with (go_at_call 38;refine o.O.mono ?_;rintro e t ⟨B',rfl,i,j⟩;have l:=au i;have m:=au j;clear i j);refine ax (ew rfl _ _ _) rfl ?_;exact⟨B',by rw[f.O];rfl,by rw[f.O];exact l.O.mono z,HS.O.trans m.O⟩
  ·have d:R.act x=((R.iJ x.sub x.own x.dQ x.aU).1,(R.iJ x.sub x.own x.dQ x.aU).2,false):=by unfold M.Room.act;simp only[k];rfl
   rw[k]at r;obtain⟨o,f⟩:=bu (Ba h x.sub x.own x.dQ x.aU z (lE u.O.ok.own) (lE u.O.ok.dQ) (lE u.O.ok.aU)) d;clear d k h p;go_wp2_with (go_at_call 39;refine o.O.mono ?_;rintro e t ⟨B',rfl,i,j⟩;have l:=au i;have m:=au j;clear i j);refine ax (ew rfl _ _ _) rfl ?_;exact⟨B',by rw[f.O];rfl,by rw[f.O];exact l.O.mono z,HS.O.trans m.O⟩
  ·have d:R.act x=((R.dN x.sub x.jo x.aY).1,(R.dN x.sub x.jo x.aY).2,false):=by unfold M.Room.act;simp only[k];rfl
   rw[k]at r;obtain⟨o,f⟩:=bu (uw h x.sub x.jo x.aY u.O.sub z (λq=>by rw[<-v.O.inv.lu];exact q)) d;clear d k h p;go_wp2_with (go_at_call 40;refine o.O.mono ?_;rintro e t ⟨B',rfl,i,j⟩;have l:=au i;have m:=au j;clear i j);refine ax (ew rfl _ _ _) rfl ?_;exact⟨B',by rw[f.O];rfl,by rw[f.O];exact l.O.mono z,HS.O.trans m.O⟩
  ·have d:R.act x=((R.iy x.sub x.aY).1,(R.iy x.sub x.aY).2,false):=by unfold M.Room.act;simp only[k];rfl
   rw[k]at r;obtain⟨o,f⟩:=bu (Jb h x.sub x.aY (λq=>by rw[<-v.O.inv.lu];exact q)) d;clear d k h p;go_wp2_with (go_at_call 41;refine o.O.mono ?_;rintro e t ⟨B',rfl,i,j⟩;have l:=au i;have m:=au j;clear i j);refine ax (ew rfl _ _ _) rfl ?_;exact⟨B',by rw[f.O];rfl,by rw[f.O];exact l.O.mono z,HS.O.trans m.O⟩
  ·have d:R.act x=((R.jE x.sub).1,(R.jE x.sub).2,false):=by unfold M.Room.act;simp only[k];rfl
   rw[k]at r;obtain⟨o,f⟩:=bu (FP h x.sub z) d;clear d k h p;go_wp2_with (go_at_call 42;refine o.O.mono ?_;rintro e t ⟨B',rfl,i,j⟩;have l:=au i;have m:=au j;clear i j);refine ax (ew rfl _ _ _) rfl ?_;exact⟨B',by rw[f.O];rfl,by rw[f.O];exact l.O.mono z,HS.O.trans m.O⟩
  ·have d:R.act x=(R.fU.1,R.fU.2,false):=by unfold M.Room.act;simp only[k];rfl
   rw[k]at r;obtain⟨o,f⟩:=bu (An h) d;clear d k h p;go_wp2_with (go_at_call 43;refine o.O.mono ?_;rintro e t ⟨rfl,i,j⟩;have l:=au i;have m:=au j;clear i j);refine ax (ew rfl _ _ _) rfl ?_;exact⟨B,by rw[f.O];rfl,by rw[f.O];exact l.O.mono z,HS.O.trans m.O⟩
 ·have P:¬x.nv=0:=z;have Q:¬x.nv=1:=z;have S:¬x.nv=2:=z;have T:¬x.nv=3:=z;have U:¬x.nv=4:=z;have W:¬x.nv=5:=z;have Y:¬x.nv=6:=z;have Tf:¬x.nv=7:=z;have Tg:¬x.nv=8:=z;have d:R.act x=(R,0,false):=by
   unfold M.Room.act;rw[if_neg P,if_neg Q,if_neg S,if_neg T,if_neg U,if_neg W,if_neg Y,if_neg Tf,if_neg Tg]
  obtain⟨f,HR⟩:=bu d h;clear d h p k;go_wp2_with fail;refine ax (ew rfl _ _ _) rfl ?_;exact⟨B,by rw[f.O];rfl,by rw[f.O];exact HR.O.mono z,HS.O⟩
def Fi(w:aw)(b o:Nat)(x:M.Act):Prop:=∃d:Sl,w.rangeAt b o (jQ x d).toList/\pL w d.a d.n d.c x.b
def pZ(w:aw)(A:Option Addr)(n:Nat)(l:List M.Act):Prop:=
 l.length=n/\(∀x∈l,Nf x)/\(0<n->∃b off,A=Z ⟨b,off,I⟩/\∀(i:Nat) x,l[i]? = Z x->Fi w b (off+i*14) x)
def Fi.tc{w w':aw}{b o:Nat}{x:M.Act}(h:Fi w b o x)(a:∀g i v,w.cell? ⟨g,i,I⟩=Z v->w'.cell? ⟨g,i,I⟩=Z v):Fi w' b o x:=by
 obtain⟨c,h1,h2⟩:=h;exact⟨c,λj v d=>a _ _ _ (h1 j v d),⟨h2.len,h2.wf,λh0=>by
  obtain⟨g,off,e,k⟩:=h2.cells h0
  exact⟨g,off,e,λi hi=>a _ _ _ (k i hi)⟩,h2.zero⟩⟩
def pZ.tc{w w':aw}{A:Option Addr}{n:Nat}{l:List M.Act}(h:pZ w A n l)(a:∀g i v,w.cell? ⟨g,i,I⟩=Z v->w'.cell? ⟨g,i,I⟩=Z v):pZ w' A n l:=by
 obtain⟨h1,h2,h3⟩:=h;refine⟨h1,h2,λh0=>?_⟩;obtain⟨b,off,e,k⟩:=h3 h0;exact⟨b,off,e,λi x c=>(k i x c).tc a⟩
def pZ.below{w w':aw}{A:Option Addr}{n:Nat}{l:List M.Act}(h:pZ w A n l)(b:aC w w'):pZ w' A n l:=h.tc λ_ _ _ q=>aM b q
def pV:(af.info? 45).map (·.size)=Z 14:=cC
def qV(l:List M.Act):Bool:=decide (120<l.length)||l.any λx=>decide (400<x.b.length)
def xt(A:Option Addr)(n c:Nat)(l:List M.Act)(w:aw)(h:pZ w A n l):aF af 10 #[ae A n c] w λe w'=>e=av (ai (qV l))/\aC w w':=by
 obtain⟨h1,h2,h3⟩:=h;by_cases E:120<n
 ·have e:qV l=true:=by unfold qV;rw[h1,decide_eq_true E];rfl
  rw[e];clear h2 h3 e h1;go_enter func10,ntmps10;have hw:(120:Int)<(n:Int):=z;go_wp2_with fail;go_ret;exact⟨rfl,ao _ _⟩
 ·have e:qV l=l.any λx=>decide (400<x.b.length):=by unfold qV;rw[h1,decide_eq_false E];rfl
  obtain⟨res,a⟩:=dH (qV l);rw[<-a];rw[e]at a;obtain⟨F,L⟩:=bu a h3;have hw:¬(120:Int)<(n:Int):=z;clear h2 h3 e a;go_enter func10,ntmps10;go_wp2_with fail;go_loopw [10] (λi wr=>∃k:Nat,i=J V k/\k<=n/\(∀x∈l.take k,decide (400<x.b.length)=false)/\aC w wr) (λi _=>n-(intOf i).toNat);case atStart=>exact⟨0,rfl,z,λx B=>by simp at B,ao _ _⟩
  case round =>
   obtain⟨k,rfl,U,u,s⟩:=hrel;by_cases N:k<n
   ·have P:((k:Int)<(n:Int)):=z;obtain⟨b,off,rfl,G⟩:=L.O z;have g:k<l.length:=z;obtain⟨p,t,H⟩:=G k l[k] (ay g);have t:wr.rangeAt b (off+k*14) (jQ l[k] p).toList:=λj v Q=>aM s (t j v Q);have hlen:=H.len;have m:l.take (k+1)=l.take k++[l[k]]:=dK g;have d:l[k]∈l:=List.getElem_mem g;generalize l[k]=x at t hlen m d;obtain⟨K,R,S,r,T⟩:=gY t m u s d;clear G t H m u s d;by_cases f:400<p.n
    ·have C:(400:Int)<(p.n:Int):=z;have hr:res=true:=by rw[F.O,tw];exact⟨x,T.O,decide_eq_true (by rw[hlen];exact f)⟩
     have o:=au hr;clear hr;go_wp2_with (refine gQ rfl 45 (.tmp 12) rfl b (off+k*14) rfl (jQ x p).toList _ K.O underlying45 rfl pV ?_);go_ret;exact⟨by rw[o.O];rfl,r.O.alloc r.O.size _⟩
    ·have C:¬(400:Int)<(p.n:Int):=z;go_wp2_with (refine gQ rfl 45 (.tmp 12) rfl b (off+k*14) rfl (jQ x p).toList _ K.O underlying45 rfl pV ?_);go_roundw;case rel =>
      refine⟨k+1,by go_num,z,λy hy=>?_,r.O.alloc r.O.size _⟩;rw[R.O]at hy;rcases bt.1 hy with q|q
      ·exact S.O y q
      ·simp at q;subst q;rw[hlen];exact decide_eq_false f
     case measure=>simp[intOf];omega
   ·have D:k=n:=z;subst D;have hr:res=false:=by
     rw[F.O,oA];intro x B;have q:=u x (by rw[dC z];exact B);simpa using q
    obtain⟨r,o⟩:=bu s hr;clear s u hr;go_wp2_with fail;go_ret;exact⟨by rw[o.O];rfl,r.O⟩
section
open Go.ChangeShapes Go.WideShapes Go.ChangeAt Go.RowKit Go.Deep
inductive Lf where
 |b
 |i (k:IntKind)
 |y
def Lf.ok(w:aw):Lf->Value->Prop
 | .b,v=>∃x,v=ai x
 | .i k,v=>∃n,v=J k n/\(dU k n).wf=true
 | .y,v=>∃a n c xs,v=ae a n c/\pL w a n c xs
def Dh(w:aw):List Lf->List Value->Prop
 |[],cs=>cs=[]
 |l::ls,cs=>∃c a,cs=c::a/\l.ok w c/\Dh w ls a
def Dh.append{w:aw}:∀{ls ms:List Lf} {cs ds:List Value},Dh w ls cs->Dh w ms ds->Dh w (ls++ms) (cs++ds)
 |[],_,_,_,h,a=>by cases h;exact a
 |l::ls,_,_,_,h,a=>by obtain⟨c,b,rfl,d,hr⟩:=h;exact⟨c,_,rfl,d,Dh.append hr a⟩
def MG(P:jB)(a:TypeId->Option (List Lf)):List Field->Nat->Option (List Lf)
 |[],_=>Z []
 |f::r,off=>if f.offset=off then
   match a f.type with
   |some ls=>if ls.length=P.cellsOf f.type then
     match MG P a r (off+P.cellsOf f.type) with
     |some rs=>Z (ls++rs)
     |none=>I
    else I
   |none=>I
  else I
def rep(ls:List Lf):Nat->List Lf
 |0=>[]
 |n+1=>ls++rep ls n
def QC(P:jB):Nat->TypeId->Option (List Lf)
 |0,_=>I
 |n+1,t =>
  match P.underlying t with
  |some .bool=>Z [.b]
  |some (.int k)=>Z [.i k]
  |some (.slice e) =>
   match P.underlying e with
   |some (.int bI)=>if P.cellsOf e=1 then Z [.y] else I
   |_=>I
  |some (.array m e) =>
   match QC P n e with
   |some ls=>if ls.length=P.cellsOf e/\P.cellsOf t=m*ls.length then Z (rep ls m) else I
   |none=>I
  |some (.struct a) =>
   match MG P (QC P n) a.toList 0 with
   |some ls=>if ls.length=P.cellsOf t then Z ls else I
   |none=>I
  |_=>I
section
variable {H:Type} {enc:TypeId×Value->H} {P:jB} {w:aw} {base:Nat} {spare:Nat->Bool} {held:Bool}
def uD{t e:TypeId}{fuel:Nat}{cs:List Value}{x:DataW H×List tE}(ht:P.underlying t=Z (.slice e))(he:P.underlying e=Z (.int bI))(m:P.cellsOf e=1)
  (h:mL enc P w base spare held fuel t cs=Z x):∃a n c xs,cs=[ae a n c]/\pL w a n c xs:=by
 rcases open_slice ht h with⟨j,_⟩ | ⟨a',d,l,A,n,D,K,j,_,L,hm,o,_,hi⟩
 ·exact⟨I,0,0,[],j,rfl,λx B=>by simp at B,λh0=>absurd h0 z,λ_=>rfl⟩
 ·have hle:d<=A:=by rw[o];split<;>omega
  have key:∀i,i<d->∃y:Int,(dU bI y).wf=true/\w.cell? (a'.add i)=Z (J bI y):=λi k=>by
   obtain⟨C,g,p⟩:=hi i z;rw[m,Nat.mul_one]at g;obtain⟨y,rfl,_,hy⟩:=DataW.trod_int he p;obtain⟨_,_,r⟩:=World.cells?_some g;exact⟨y,hy,by simpa[Addr.add]using r 0 z⟩
  obtain⟨f,s⟩:=choose_lt key;refine⟨Z a',d,l,(kq d).map f,j,dt,?_,λh0=>?_,λq=>by cases q⟩
  ·intro y hy;obtain⟨i,u,rfl⟩:=eU.1 hy;exact(s i (by simpa using u)).1
  ·obtain⟨b,off,spot⟩:=a';have E:spot=I:=by
    have:=(s 0 h0).2;simpa[Addr.add]using World.cell?_spot this
   subst E;refine⟨b,off,rfl,λi k=>?_⟩;have v:=(s i k).2;have F:(⟨b,off,I⟩:Addr).add i=⟨b,off+i,I⟩:=by
    unfold Addr.add;split
    ·rename_i G;rw[G];rfl
    ·rfl
   rw[F]at v;rw[v,List.getD_eq_getElem?_getD,dE,List.getElem?_range k];rfl
def IE(c:TypeId->Option (List Lf))(n:Nat)(a:∀t ls,c t=Z ls->∀cs x,mL enc P w base spare held n t cs=Z x->Dh w ls cs)(cs:List Value) :
  ∀(j:List Field) (off:Nat) (ls:List Lf),MG P c j off=Z ls->(∀f∈j,∃x,mL enc P w base spare held n f.type ((cs.drop f.offset).take (P.cellsOf f.type))=Z x) ->
   Dh w ls ((cs.drop off).take ls.length)
 |[],off,ls,h,_=>by simp only[MG,bf]at h;subst h;simp[Dh]
 |f::r,off,ls,h,k=>by
  unfold MG at h;split at h
  ·rename_i b;split at h
   ·rename_i l1 h1;split at h
    ·rename_i l;split at h
     ·rename_i rs d;simp only[bf]at h;subst h;obtain⟨x,i⟩:=k f dt;have a1:=a _ _ h1 _ _ i;rw[b,<-l]at a1;have a2:=IE c n a cs r (off+P.cellsOf f.type) rs d (λg hg=>k g (by simp[hg]));have e:(cs.drop off).take (l1++rs).length=(cs.drop off).take l1.length++(cs.drop (off+P.cellsOf f.type)).take rs.length:=by
       rw[cG,List.take_add,List.drop_drop,l]
      rw[e];exact Dh.append a1 a2
     ·cases h
    ·cases h
   ·cases h
  ·cases h
def Lo(ls:List Lf):∀(m:Nat) (cs:List Value),cs.length=m*ls.length->(∀i,i<m->Dh w ls ((cs.drop (i*ls.length)).take ls.length))->Dh w (rep ls m) cs
 |0,cs,a,_=>by
  rw[qA]at a;exact List.length_eq_zero_iff.1 a
 |m+1,cs,a,h=>by
  have h0:=h 0 z;rw[qA,mI]at h0;have e:cs=cs.take ls.length++cs.drop ls.length:=(List.take_append_drop _ _).symm;rw[e];refine Dh.append h0 (Lo ls m _ ?_ λi hi=>?_)
  ·rw[List.length_drop,a,jG];omega
  ·have b:=h (i+1) z;rw[List.drop_drop];rw[show ls.length+i*ls.length=(i+1)*ls.length by rw[jG];omega];exact b
def GL:∀(m:Nat) (t:TypeId) (ls:List Lf),QC P m t=Z ls->∀(n:Nat) (cs:List Value) (x:DataW H×List tE),mL enc P w base spare held n t cs=Z x->Dh w ls cs
 |0,_,_,h=>by cases h
 |m+1,t,ls,h=>by
  intro n cs x j;unfold QC at h;split at h
  ·rename_i hu;cases h;obtain⟨b,rfl,_⟩:=DataW.trod_bool hu j;exact⟨_,_,rfl,⟨b,rfl⟩,rfl⟩
  ·rename_i hu;cases h;obtain⟨k,rfl,_,hw⟩:=DataW.trod_int hu j;exact⟨_,_,rfl,⟨k,rfl,hw⟩,rfl⟩
  ·rename_i e hu;split at h
   ·rename_i he;split at h
    ·rename_i l;cases h;obtain⟨a,g,c,xs,rfl,D⟩:=uD hu he l j;exact⟨_,_,rfl,⟨a,g,c,xs,rfl,D⟩,rfl⟩
    ·cases h
   ·cases h
  ·rename_i k e hu;split at h
   ·rename_i l1 h1;split at h
    ·rename_i o;cases h;obtain⟨xs,g,rfl,_,hlen,p,q⟩:=DataW.trod_array hu j;refine Lo l1 k cs (by rw[hlen];exact o.2) λi hi=>?_;have B:=q i hi;rw[o.1];have d:i<xs.length:=z;rw[ay d]at B;exact GL m e l1 h1 g _ _ B
    ·cases h
   ·cases h
  ·rename_i C hu;split at h
   ·rename_i l1 h1;split at h
    ·rename_i o;cases h;obtain⟨xs,g,rfl,_,hlen,p,q⟩:=DataW.trod_struct hu j;have r:=IE (enc:=enc) (w:=w) (base:=base) (spare:=spare) (held:=held) (QC P m) g (λE s F u G v=>GL m E s F g u G v) cs C.toList 0 ls h1 (λf y=>by
      obtain⟨i,hi,A⟩:=ed y
      have d:i<C.size:=by simpa using hi
      have:=q i f (by rw[Array.getElem?_eq_getElem d];exact congrArg Z A)
      rw[this]
      exact⟨_,ay z⟩)
     rw[mI,dC z]at r;exact r
    ·cases h
   ·cases h
  ·cases h
end
instance:Inhabited M.Act:=⟨⟨0,0,0,0,[],(0,0),false,0,0,0,0,0,0⟩⟩
def wf_u32{x:Int}(h:(dU ar x).wf=true):0<=x/\x<=4294967295:=by simpa[pD,jI,jJ,fR,gM]using h
def wf_u16{x:Int}(h:(dU aN x).wf=true):0<=x/\x<=65535:=by simpa[pD,jI,jJ,fR,gM]using h
def wf_u8{x:Int}(h:(dU bI x).wf=true):0<=x/\x<=255:=by simpa[pD,jI,jJ,fR,gM]using h
def PT{w:aw}{cs:List Value}(h:Dh w [.i V,.i V,.i V,.i V,.y,.i V,.i V,.b,.i ar,.i ar,.i aN,.i ar,.i ar,.i ar] cs):∃(x:M.Act) (d:Sl),cs=(jQ x d).toList/\pL w d.a d.n d.c x.b/\Nf x:=by
 obtain⟨_,_,rfl,⟨t,rfl,w0⟩,_,_,rfl,⟨u,rfl,w1⟩,_,_,rfl,⟨v,rfl,w2⟩,_,_,rfl,⟨A,rfl,w3⟩,_,_,rfl,⟨a,n,c,xs,rfl,s⟩,_,_,rfl,⟨B,rfl,w5⟩,_,_,rfl,⟨C,rfl,w6⟩,_,_,rfl,⟨D,rfl⟩,_,_,rfl,⟨E,rfl,F⟩,_,_,rfl,⟨G,rfl,H⟩,_,_,rfl,⟨e,rfl,f⟩,_,_,rfl,⟨g,rfl,j⟩,_,_,rfl,⟨k,rfl,l⟩,_,_,rfl,⟨m,rfl,o⟩,rfl⟩:=h;have L:=wf_u32 F;have N:=wf_u32 H;have K:=wf_u16 f;have p:=wf_u32 j;have q:=wf_u32 l;have r:=wf_u32 o;refine⟨⟨t,u,v,A,xs,(B,C),D,E,G,e,g,k,m⟩,⟨a,n,c⟩,rfl,s,⟨⟨λy hy=>?_,by simp only;omega,by simp only;omega,by simp only;omega⟩,w1,⟨p,q,r⟩,w6⟩⟩;have:=wf_u8 (s.wf y hy);omega
section
variable {H:Type} {enc:TypeId×Value->H} {w:aw} {base:Nat} {spare:Nat->Bool} {held:Bool}
def xp{fuel:Nat}{a:Option Addr}{len cap:Nat}{x:DataW H×List tE}(h:mL enc af w base spare held fuel 26 [ae a len cap]=Z x):(∃l,pZ w a len l)/\(a=I->cap=0):=by
 rcases open_slice underlying26 h with⟨d,_⟩ | ⟨a',B,C,F,n,D,S,d,_,T,hm,p,_,hi⟩
 ·simp at d;obtain⟨rfl,rfl,rfl⟩:=d;exact⟨⟨[],rfl,λx G=>by simp at G,λh0=>absurd h0 z⟩,λ_=>rfl⟩
 ·simp at d;obtain⟨rfl,rfl,rfl⟩:=d;refine⟨?_,λq=>by cases q⟩;have hle:len<=F:=by rw[p];split<;>omega
  have key:∀i,i<len->∃y:M.Act,Nf y/\∃k:Sl,(∀j,j<14->w.cell? (a'.add (i*14+j))=(jQ y k).toList[j]?)/\pL w k.a k.n k.c y.b:=λi m=>by
   obtain⟨K,g,r⟩:=hi i z;rw[show af.cellsOf 45=14 from by kernel_rfl]at g;have L:=GL 6 45 [.i V,.i V,.i V,.i V,.y,.i V,.i V,.b,.i ar,.i ar,.i aN,.i ar,.i ar,.i ar] cC _ _ _ r;obtain⟨y,k,rfl,N,hr⟩:=PT L;obtain⟨_,_,s⟩:=World.cells?_some g;refine⟨y,hr,k,λj t=>?_,N⟩;have:=s j t;rw[Go.Deep.add_add]at this;exact this
  obtain⟨f,u⟩:=choose_lt key;refine⟨(kq len).map f,dt,?_,λh0=>?_⟩
  ·intro y hy;obtain⟨i,A,rfl⟩:=eU.1 hy;exact(u i (by simpa using A)).1
  ·obtain⟨b,off,spot⟩:=a';have P:spot=I:=by
    obtain⟨_,k,h1,_⟩:=u 0 h0;have o:=h1 0 z;have e:(jQ (f 0) k).toList[0]? = Z (J V (f 0).nv):=rfl;rw[e]at o;simpa[Addr.add]using World.cell?_spot o
   subst P;have Q:∀j,(⟨b,off,I⟩:Addr).add j=⟨b,off+j,I⟩:=λj=>by
    unfold Addr.add;split
    ·rename_i R;rw[R];rfl
    ·rfl
   refine⟨b,off,rfl,λi y hy=>?_⟩;have m:i<len:=by
    have:=(aS.1 hy).1;simpa using this
   rw[dE,List.getElem?_range m]at hy;simp only[ya,bf]at hy;subst hy;obtain⟨_,k,h1,h2⟩:=u i m;refine⟨k,λj v E=>?_,h2⟩;have t:j<14:=(aS.1 E).1;have o:=h1 j t;rw[Q,E]at o;rw[Nat.add_assoc];exact o
end
end
def Qr:ownKnob af.godebug=I:=cC
def qX:laidOutB af=true:=cC
def we{H:Type}{enc:TypeId×Value->H}{a:Assume}{C:Checked}{os:Os}{f:FuncId}{fn:Func}{s:ChangeSpec}{conds:List PathCond}{jF fresh handsOn again:Bool}{X:aw->Array Value->Prop}
  (q:∀(w w':aw) (args:Array Value),w.heap=w'.heap->X w args->X w' args)
  (own:ownKnob C.prog.godebug=I) (started:os.Started) (c:C.prog.inits.idxOf? f=I) (l:C.prog.funcs[f]? = Z fn)
  (witness:∃(w:aw) (tape:Tape) (i:Input),w.os=os/\(w.forCall tape i).Shaped C.prog/\i.vars=[]/\Input.okWide C.prog (w.forCall tape i) .any w.heap.size f i /\
    ((s.pre enc C.prog fn conds jF (w.forCall tape i).memory i.args/\X (w.forCall tape i).memory i.args)/\sizedMet enc C.prog fn (OpenSpec.ofChange s) jF (w.forCall tape i).memory i.args)/\a.holds C.prog (lone (Frame.enter C.prog f i.args .normal) [] (w.forCall tape i)))
  (b:∀(W:aw) (base:Nat) (args:Array Value) (ds gs:List (DataW H)) (before:List tE),
    (∀(j:Nat) t v,fn.params[j]? = Z t->args[j]? = Z v->Value.okWide C.prog W .any base t v) ->
    DataW.Whole enc C.prog fn.params.toList s.vars jF W args.toList ds gs before ->
    X W args->W.ShapedOpen C.prog ->
    aF C.prog f args W λe W'=>∃v,e=av v/\s.post enc C.prog fn jF fresh handsOn again W args v W') :
  ReturnsInHanded a C os f .any (λw args=>(s.pre enc C.prog fn conds jF w args/\X w args)/\sizedMet enc C.prog fn (OpenSpec.ofChange s) jF w args) (s.post enc C.prog fn jF fresh handsOn again):=by
 refine returnsInHanded_of_calls own started c witness ?_;intro w tape i _ m _ n d k;obtain⟨_,_,_,o,g,_,_,_,_,h⟩:=n;have e:o=fn:=Option.some.inj (g.symm.trans l);subst e;obtain⟨⟨⟨ds,gs,before,hw,u⟩,r⟩,x⟩:=d;have p:=DataW.Whole.of_heap (w':=w.forCall tape i) jP hw;refine(b (w.forCall tape i) w.heap.size i.args ds gs before h p (q _ _ _ jP r) m).mono λe W' ⟨v,he,hp⟩=>?_;subst he;exact ChangeSpec.post_blind hp
abbrev wD:List (String×DataW Unit):=[("math/bits.deBruijn32tab",Rows.laid_math_bits_deBruijn32tab),("math/bits.deBruijn64tab",Rows.laid_math_bits_deBruijn64tab),("internal/strconv.uint64pow10",Rows.laid_internal_strconv_uint64pow10),("unicode/utf8.acceptRanges",Rows.laid_unicode_utf8_acceptRanges),("unicode/utf8.first",Rows.laid_unicode_utf8_first)]
def Lr:(Rows.laid_internal_strconv_uint64pow10:DataW Unit)=Lib.tabData .u64 Lib.pow10Tab:=cC
def MN{W:aw}(a:laidMet af wD W)(b:W.ShapedOpen af):Env W:=by
 refine⟨?_,?_⟩
 ·exact cell_of_shapedOpen_int (g:=0) (t:=3) (zero:=#[J V 0]) (k:=V) b (of_decide_eq_true cC) cC cC cC cC cC
 ·have h3:=laidMet.tail (laidMet.tail a);rw[Lr]at h3;exact Lib.tabIs_of_head (g:=3) (t:=475) (e:=197) (n:=20) cC cC cC cC cC cC h3
namespace M
def vy(R':Room)(x:Act)(e:Int)(jo:Int->Int)(s:Int):Int:=
 if R'.eG s=true then -1 else if e=0/\x.nv=5/\s=x.sub then x.jo else if e=0/\x.nv=7/\s=x.sub then -1 else jo s
def II(R:Room)(jo:Int->Int):Prop:=∀s,jo s=(R.of s).getD (-1)
def of_same{R R':Room}{s:Int}(h:R'.bh s=R.bh s):R'.of s=R.of s:=by unfold Room.of;rw[h]
def SK{R:Room}{G:Int->ij}{n:Nat}(h:Inv R G n)(s:Int)(hg:R.eG s=true):R.of s=I:=by
 unfold Room.of;cases b:R.bh s with
 |none=>rfl
 |some y =>
  cases hy:y.cL with
  |false=>simp[hy]
  |true =>
   obtain⟨_,l,c,_,a⟩:=h.jo s y b hy;unfold Room.eG at hg;rw[c]at hg;simp only at hg;rw[a]at hg;cases hg
def Sb.foldl{α:Type}(f:Room->α->Room)(b:∀r a,Sb r (f r a)):∀(l:List α) (r:Room),Sb r (l.foldl f r)
 |[],r=>Sb.refl r
 |a::l,r=>(b r a).trans (Sb.foldl f b l (f r a))
def Sb.bR(r:Room)(s:Int)(id:Nat)(f:Int):Sb r (r.bR s id f):=(nW r s id f).2.2.2
def Sb.fG(r:Room)(o:bN)(f:eu->eu):Sb r (r.fG o f):=by
 unfold Room.fG;split<;>rfl
def Sb.ask(r:Room)(x:Int):Sb r (r.ask x):=by
 unfold Room.ask;refine Sb.foldl _ (λr s=>?_) _ r;split
 ·split
  ·exact Sb.fG _ _ _
  ·exact Sb.refl _
 ·exact Sb.refl _
def Sb.fE(r:Room)(id:Nat)(l:List Int)(e:Int):Sb r (M.fE r id l e):=by
 unfold M.fE;split
 ·exact Sb.foldl _ (λr s=>Sb.bR r s id 3) _ _
 ·split
  ·exact Sb.foldl _ (λr s=>Sb.bR r s id 2) _ _
  ·split
   ·exact Sb.foldl _ (λr s=>Sb.bR r s id 6) _ _
   ·exact Sb.refl _
def Sb.je(r:Room)(o:bN)(p:cR):Sb r (r.je o p):=by
 rw[mS];split
 ·exact Sb.refl r
 ·rename_i s e;have k:Sb r (M.ka r o s p (if s.any then jL s.dv p.dQ else nE p.dQ) (s.bQ.push r.dA.eJ (if s.any then jL s.dv p.dQ else nE p.dQ) r.cJ r.aO.length).1 (r.ik o.1)):=rfl;exact k.trans (Sb.fE _ _ _ _)
def Sb.read(r:Room):Sb r r.read:=by
 unfold Room.read;split
 ·exact Sb.refl r
 ·rename_i b q e;have k:Sb r { r with dm:=q }:=rfl;have a:∀f,Sb r (Room.count { r with dm:=q } f):=λf=>rfl;simp only;split
  ·split
   ·exact a _
   ·exact(a _).trans (Sb.foldl _ Sb.ask _ _)
  ·split
   ·exact a _
   ·split
    ·exact a _
    ·exact k.trans (Sb.je _ _ _)
def Sb.fg(r:Room)(o:bN):Sb r (r.fg o):=by
 unfold Room.fg;split
 ·exact Sb.refl r
 ·simp only;split<;>rfl
def MT(r:Room)(w:eK)(a:Bool)(s:Int):(r.pick w a).1.bh s=r.bh s\/(r.pick w a).1.eG s=true:=by
 have fo:∀(s:Int) (v:Option dP),Sb r { r with aD:=set r.aD s v }:=λs v=>rfl;have same:∀{r':Room},Sb r r'->r'.bh s=r.bh s\/r'.eG s=true:=λk=>.inl (congrFun k s);unfold Room.pick;split
 ·exact same (Sb.refl r)
 ·simp only;split
  ·refine same ?_;rw[rf];have k:Sb r (jd r w):=by
    unfold jd;split
    ·rfl
    ·split
     ·refine Sb.foldl _ (λr o=>?_) _ _;unfold Room.cP;split
      ·exact Sb.refl r
      ·rename_i s e;have b:Sb r { r with az:=set r.az o (Z { s with bQ:=mf.iu s.bQ.bD.length s.bQ }) }:=rfl;exact b.trans (Sb.foldl _ (λr id=>Sb.foldl _ (λr s=>Sb.bR r s id 8) _ r) _ _)
     ·split
      ·exact Sb.refl r
      ·split
       ·exact(fo _ _).trans (Sb.foldl _ (λr id=>Sb.bR r w.2 id 8) _ _)
       ·split
        ·exact(fo _ _).trans (Sb.foldl _ (λr id=>Sb.bR r w.2 id 8) _ _)
        ·exact(fo _ _).trans (Sb.foldl _ (λr id=>Sb.bR r w.2 id 8) _ _)
   refine k.trans ?_;unfold back;split
   ·rfl
   ·exact Sb.refl _
  ·split
   ·exact same (Sb.read r)
   ·split
    ·refine same ?_;unfold Room.order;cases e:r.ready with
     |none=>exact Sb.refl r
     |some o =>
      cases d:r.az o with
      |none=>simp only[d];exact Sb.refl r
      |some s =>
       simp only[d];cases hh:s.bQ.bD with
       |nil=>exact Sb.refl r
       |cons h t =>
        have b:Sb r { r with az:=set r.az o (Z { s with bQ:=s.bQ.least }) }:=rfl;refine b.trans (Sb.foldl _ (λr s=>?_) _ _);unfold Room.iW;split
        ·split
         ·exact Sb.refl r
         ·simp only;have l1:∀v,Sb r { r with aD:=set r.aD s v }:=λv=>rfl;split
          ·exact(l1 _).trans (Sb.bR _ _ _ _)
          ·exact l1 _
        ·exact Sb.refl r
    ·split
     ·refine same ?_;unfold Room.gq;split
      ·exact Sb.refl r
      ·simp only;split
       ·exact(fo _ _).trans (Sb.bR _ _ _ _)
       ·exact fo _ _
     ·split
      ·refine same ?_;unfold Room.fD;split
       ·exact Sb.refl r
       ·simp only;split
        ·exact(fo _ _).trans (Sb.bR _ _ _ _)
        ·exact fo _ _
      ·rw[kh];split
       ·exact same (Sb.refl r)
       ·rename_i l el;generalize (l.write r.dA.aT a).2.1=id;generalize (l.write r.dA.aT a).2.2=f;generalize (l.write r.dA.aT a).1=l';have g:Sb r (kg r w.2 l' id f):=by
         unfold kg;split
         ·exact(fo _ _).trans (Sb.bR _ _ _ _)
         ·exact fo _ _
        have j:(kg r w.2 l' id f).aD=set r.aD w.2 (Z l'):=by
         unfold kg;split
         ·exact(nW _ _ _ _).1
         ·rfl
        unfold nA;split
        ·rename_i hg;by_cases i:s=w.2
         ·subst i;right;unfold Room.eG;show(match(kg r w.2 l' id f).aD w.2 with | some l=>l.eG | none=>false)=true;rw[j];simp[set,hg]
         ·left;show(match(kg r w.2 l' id f).bh w.2 with | some s=>if s.cL then set (kg r w.2 l' id f).bh w.2 (Z ⟨s.own,false,0⟩) else(kg r w.2 l' id f).bh | none=>(kg r w.2 l' id f).bh) s=r.bh s;have c:(kg r w.2 l' id f).bh=r.bh:=g;rw[c];cases r.bh w.2 with
          |none=>rfl
          |some y =>
           simp only;split
           ·exact da _ _ i
           ·rfl
        ·exact same g
def GR(r:Room)(s p l:Int):(∀t,t≠s->(r.dN s p l).1.bh t=r.bh t)/\((r.dN s p l).2=0->(r.dN s p l).1.of s=Z p)/\((r.dN s p l).2≠0->(r.dN s p l).1.bh s=r.bh s):=by
 unfold Room.dN;split
 ·exact⟨λt _=>rfl,λh=>by simp at h,λ_=>rfl⟩
 split
 ·exact⟨λt _=>rfl,λh=>by simp at h,λ_=>rfl⟩
 rename_i d;split
 ·exact⟨λt _=>rfl,λh=>by simp at h,λ_=>rfl⟩
 rename_i a;split
 ·exact⟨λt _=>rfl,λh=>by simp at h,λ_=>rfl⟩
 split
 ·exact⟨λt _=>rfl,λh=>by simp at h,λ_=>rfl⟩
 ·rename_i y hy;split
  ·exact⟨λt _=>rfl,λh=>by simp at h,λ_=>rfl⟩
  split
  ·exact⟨λt _=>rfl,λh=>by simp at h,λ_=>rfl⟩
  ·unfold Room.fj;simp only;cases e:r.aD s with
   |none =>
    refine⟨λt ht=>da _ _ ht,λ_=>?_,λh=>absurd rfl h⟩;unfold Room.of;simp[set]
   |some m =>
    simp only;refine⟨λt ht=>da _ _ ht,λ_=>?_,λh=>?_⟩
    ·unfold Room.of;simp[set]
    ·exfalso;refine h ?_;have b:there l=true:=by simpa using d
     have c:m.eG=false:=by
      unfold Room.eG at a;rw[e]at a;simpa using a
     unfold dP.iy;simp[b,c]
def Ld{R:Room}{G:Int->ij}{n:Nat}{jo:Int->Int}(h:II R jo)(hi:Inv R G n)(x:Act)(g:x.Ok):II (R.act x).1 (vy (R.act x).1 x (R.act x).2.1 jo):=by
 have i:=hi.act x g;intro s;unfold vy;by_cases hg:(R.act x).1.eG s=true
 ·rw[if_pos hg,SK i s hg];rfl
 rw[if_neg hg];have key:(R.act x).1.bh s=R.bh s->jo s=((R.act x).1.of s).getD (-1):=λq=>by rw[of_same q];exact h s
 have sb:Sb R (R.act x).1->jo s=((R.act x).1.of s).getD (-1):=λq=>key (congrFun q s);by_cases h5:x.nv=5
 ·have e:R.act x=((R.dN x.sub x.jo x.aY).1,(R.dN x.sub x.jo x.aY).2,false):=by simp[Room.act,h5]
  rw[e]at key ⊢;obtain⟨j,k,l⟩:=GR R x.sub x.jo x.aY;simp only at key ⊢;rw[if_neg (show¬((R.dN x.sub x.jo x.aY).2=0/\x.nv=7/\s=x.sub) fromλq=>z)];by_cases a:s=x.sub
  ·subst a;by_cases h0:(R.dN x.sub x.jo x.aY).2=0
   ·rw[if_pos ⟨h0,h5,rfl⟩,k h0];rfl
   ·rw[if_neg (λq=>h0 q.1)];exact key (l h0)
  ·rw[if_neg (λq=>a q.2.2)];exact key (j s a)
 rw[if_neg (λq=>h5 q.2.1)];by_cases h7:x.nv=7
 ·have e:R.act x=((R.jE x.sub).1,(R.jE x.sub).2,false):=by simp[Room.act,h7]
  rw[e]at key ⊢;simp only at key ⊢;have m:R.jE x.sub=(R,7)\/R.jE x.sub=(R,1)\/R.jE x.sub=(R,5)\/R.jE x.sub=({ (R.ji x.sub 7) with bh:=set R.bh x.sub I,aD:=set R.aD x.sub I },0):=by
   unfold Room.jE;split
   ·exact .inl rfl
   split
   ·exact .inr (.inl rfl)
   split
   ·exact .inr (.inr (.inl rfl))
   ·exact .inr (.inr (.inr rfl))
  rcases m with q|q|q|q
  ·rw[q]at key ⊢;rw[if_neg dt];exact key rfl
  ·rw[q]at key ⊢;rw[if_neg dt];exact key rfl
  ·rw[q]at key ⊢;rw[if_neg dt];exact key rfl
  ·rw[q]at key ⊢;by_cases a:s=x.sub
   ·rw[if_pos ⟨rfl,h7,a⟩];unfold Room.of;simp[set,a]
   ·rw[if_neg (λq=>a q.2.2)];exact key (da _ _ a)
 rw[if_neg (λq=>h7 q.2.1)];by_cases h1:x.nv=1
 ·have e:R.act x=((R.pick x.w x.fq).1,0,(R.pick x.w x.fq).2):=by simp[Room.act,h1]
  rw[e]at key hg ⊢;rcases MT R x.w x.fq s with q|q
  ·exact key q
  ·exact absurd q hg
 by_cases h4:x.nv=4
 ·have e:R.act x=((R.iJ x.sub x.own x.dQ x.aU).1,(R.iJ x.sub x.own x.dQ x.aU).2,false):=by simp[Room.act,h4]
  rw[e]at key sb ⊢;simp only at key sb ⊢;unfold Room.iJ at key sb ⊢;split at key
  ·rename_i q;simp only[if_pos q]at sb ⊢;exact sb rfl
  rename_i c;split at key
  ·rename_i q;simp only[if_neg c,if_pos q]at sb ⊢;exact sb rfl
  rename_i d;split at key
  ·rename_i q;simp only[if_neg c,if_neg d,if_pos q]at sb ⊢;exact sb rfl
  rename_i f;simp only[if_neg c,if_neg d,if_neg f]at sb ⊢;by_cases a:s=x.sub
  ·have o:R.bh s=I:=by rw[a];simpa using f
   have:=h s;unfold Room.of at this ⊢;rw[o]at this;simp[set,a]at this ⊢;exact this
  ·exact key (da _ _ a)
 ·refine sb ?_;unfold Room.act;by_cases h0:x.nv=0
  ·rw[if_pos h0];show Sb R (R.fT x.b).1;unfold Room.fT;split<;>rfl
  rw[if_neg h0,if_neg h1];by_cases h2:x.nv=2
  ·rw[if_pos h2];show Sb R R.tick.1;unfold Room.tick;split
   ·rfl
   ·exact Sb.trans (b:={ R with cJ:=R.cJ+1 }) rfl (Sb.foldl _ Sb.fg _ _)
  rw[if_neg h2];by_cases h3:x.nv=3
  ·rw[if_pos h3];show Sb R (R.gg x.jo x.s0 x.s1 x.s2).1;unfold Room.gg;repeat' split
   all_goals rfl
  rw[if_neg h3,if_neg h4,if_neg h5];by_cases h6:x.nv=6
  ·rw[if_pos h6];show Sb R (R.iy x.sub x.aY).1;unfold Room.iy;split
   ·rfl
   split
   ·rfl
   split
   ·rfl
   ·unfold Room.fj;split<;>rfl
  rw[if_neg h6,if_neg h7];by_cases h8:x.nv=8
  ·rw[if_pos h8];show Sb R R.fU.1;unfold Room.fU;split<;>rfl
  rw[if_neg h8];rfl
def LC(c:Ou):II (.new c) (λ_=>-1):=λs=>rfl
end M
namespace M
structure Jn where
 own:Int
 dQ:Int
 aU:Int
def kF(x:Act)(e:Int)(Jo:Int->Jn)(s:Int):Jn:=if x.nv=4/\e=0/\s=x.sub then⟨x.own,x.dQ,x.aU⟩ else Jo s
end M
section
structure nF(cs:Array Value)(Jo:Int->M.Jn)(jo:Int->Int):Prop where
 size:cs.size=91
 own:∀s:Nat,s<6->cs[s*14+8]? = Z (J ar (Jo s).own)
 aU:∀s:Nat,s<6->cs[s*14+9]? = Z (J ar (Jo s).aU)
 dQ:∀s:Nat,s<6->cs[s*14+10]? = Z (J aN (Jo s).dQ)
 jo:∀s:Nat,s<6->cs[84+s]? = Z (J V (jo s))
structure ck(w:aw)(g mb:Nat)(Jo:Int->M.Jn)(jo:Int->Int)(N:Nat):Prop where
 ex:∃cs:Array Value,aK w g 84 cs/\nF cs Jo jo/\cs[90]? = Z (.map (Z mb))
 map:∃F,gA KO w mb F N
section
variable {w w':aw} {g mb:Nat} {Jo:Int->M.Jn} {jo:Int->Int} {N:Nat}
def ck.dW{G:Nat->Prop}(h:ck w g mb Jo jo N)(u:cS G w w')(hg:¬G g)(hm:¬G mb):ck w' g mb Jo jo N:=by
 obtain⟨cs,h1,h2⟩:=h.ex;obtain⟨F,hF⟩:=h.map;exact⟨⟨cs,h1.dW u hg,h2⟩,F,hF.dW u hm⟩
def ck.below(h:ck w g mb Jo jo N)(u:aC w w'):ck w' g mb Jo jo N:=h.dW (G:=cr) (.bn u) id id
def ck.mono{N':Nat}(h:ck w g mb Jo jo N)(k:N<=N'):ck w g mb Jo jo N':=⟨h.ex,h.map.imp λF q=>q.mono k⟩
def ck.lt(h:ck w g mb Jo jo N):g<w.heap.size/\mb<w.heap.size:=by
 obtain⟨cs,h1,_⟩:=h.ex;obtain⟨F,hF⟩:=h.map;exact⟨h1.lt,hF.lt⟩
def ck.ne(h:ck w g mb Jo jo N):mb≠g:=by
 obtain⟨cs,h1,_⟩:=h.ex;obtain⟨F,hF⟩:=h.map;exact hF.ki h1
def ck.ni(h:ck w g mb Jo jo N):vP w (jK g mb):=λi hi=>by
 obtain⟨cs,h1,_⟩:=h.ex;obtain⟨F,hF⟩:=h.map;rcases hi with rfl|rfl
 ·exact PY.cw h1 aR aR
 ·exact hF.mut
def ck.cell(h:ck w g mb Jo jo N){s:Nat}(a:s<6):w.cell? ⟨g,84+s,I⟩=Z (J V (jo s))/\w.frozen? ⟨g,84+s,I⟩=false:=by
 obtain⟨cs,h1,h2,_⟩:=h.ex;exact⟨(h1.cell _).trans (h2.jo s a),h1.frozen _⟩
def ck.Aa(h:ck w g mb Jo jo N):w.cell? ⟨g,90,I⟩=Z (.map (Z mb)):=by
 obtain⟨cs,h1,_,h2⟩:=h.ex;exact(h1.cell _).trans h2
def ck.congr{c:Int->M.Jn}{a:Int->Int}(h:ck w g mb Jo jo N)(b:∀s:Nat,s<6->c s=Jo s)(hp:∀s:Nat,s<6->a s=jo s):ck w g mb c a N:=by
 obtain⟨cs,h1,h2,h3⟩:=h.ex;exact⟨⟨cs,h1,⟨h2.size,λs q=>by rw[b s q];exact h2.own s q,λs q=>by rw[b s q];exact h2.aU s q,λs q=>by rw[b s q];exact h2.dQ s q,λs q=>by rw[hp s q];exact h2.jo s q⟩,h3⟩,h.map⟩
end
def nF.iJ{cs:Array Value}{Jo:Int->M.Jn}{jo:Int->Int}(h:nF cs Jo jo)(s:Nat)(d:s<6)(x:M.Act)(b:Sl):nF (de cs (s*14) (jQ x b).toList) (M.set Jo (s:Int) ⟨x.own,x.dQ,x.aU⟩) jo:=by
 have c:=h.size;have f:(jQ x b).toList.length=14:=rfl;have hle:s*14+(jQ x b).toList.length<=cs.size:=z;have key:∀(k j:Nat) (v v0:Value),k<6->j<14->cs[k*14+j]? = Z v0->(jQ x b).toList[j]? = Z v->(de cs (s*14) (jQ x b).toList)[k*14+j]? = Z (if k=s then v else v0):=λk j v v0 a g h0 h1=>by
  by_cases e:k=s
  ·subst e;rw[if_pos rfl,qG hle z];exact h1
  ·rw[if_neg e,kT hle (by rcases Nat.lt_or_gt_of_ne e with q|q;left;omega;right;omega)];exact h0
 refine⟨by rw[gU hle];exact c,λk a=>?_,λk a=>?_,λk a=>?_,λk a=>?_⟩
 ·rw[key k 8 _ _ a z (h.own k a) rfl];unfold M.set;by_cases e:k=s
  ·rw[if_pos e,if_pos z]
  ·rw[if_neg e,if_neg z]
 ·rw[key k 9 _ _ a z (h.aU k a) rfl];unfold M.set;by_cases e:k=s
  ·rw[if_pos e,if_pos z]
  ·rw[if_neg e,if_neg z]
 ·rw[key k 10 _ _ a z (h.dQ k a) rfl];unfold M.set;by_cases e:k=s
  ·rw[if_pos e,if_pos z]
  ·rw[if_neg e,if_neg z]
 ·rw[kT hle (by right;omega)];exact h.jo k a
def nF.zY{cs:Array Value}{v:Value}(b:cs.size=91)(h:cs[90]? = Z v)(s:Nat)(c:s<6)(x:M.Act)(a:Sl):(de cs (s*14) (jQ x a).toList)[90]? = Z v:=by
 have d:(jQ x a).toList.length=14:=rfl;rw[kT z (by right;omega)];exact h
def nF.put{cs:Array Value}{Jo:Int->M.Jn}{jo:Int->Int}(h:nF cs Jo jo)(s:Nat)(c:s<6)(v:Int):nF (cs.setIfInBounds (84+s) (J V v)) Jo (M.set jo (s:Int) v):=by
 have b:=h.size;refine⟨by rw[Array.size_setIfInBounds];exact b,λk a=>?_,λk a=>?_,λk a=>?_,λk a=>?_⟩
 ·rw[gi z];exact h.own k a
 ·rw[gi z];exact h.aU k a
 ·rw[gi z];exact h.dQ k a
 ·unfold M.set;by_cases e:k=s
  ·subst e;rw[fV z,if_pos rfl]
  ·rw[gi z,if_neg z];exact h.jo k a
def nF.zZ{cs:Array Value}{v:Value}(h:cs[90]? = Z v)(s:Nat)(a:s<6)(u:Value):(cs.setIfInBounds (84+s) u)[90]? = Z v:=by
 rw[gi z];exact h
def ck.put{w:aw}{g mb:Nat}{Jo:Int->M.Jn}{jo:Int->Int}{N:Nat}(h:ck w g mb Jo jo N){s:Nat}(a:s<6)(v:Int):ck (w.setCell ⟨g,84+s,I⟩ (J V v)) g mb Jo (M.set jo (s:Int) v) N/\Fr (jK g mb) w (w.setCell ⟨g,84+s,I⟩ (J V v)):=by
 have b:=h.ne;obtain⟨cs,h1,h2,h3⟩:=h.ex;obtain⟨F,hF⟩:=h.map;exact⟨⟨⟨_,h1.bC _ _,h2.put s a v,nF.zZ h3 s a _⟩,F,hF.dW (G:=One g) ((cS.refl (One g) w).setCell (p:=⟨g,84+s,I⟩) (.inl rfl) _) b⟩,(Fr.refl _ _).setCell h1 (.inl (.inl rfl)) aR aR _ _⟩
def ck.iJ{w w':aw}{g mb:Nat}{Jo:Int->M.Jn}{jo:Int->Int}{N:Nat}(h:ck w g mb Jo jo N){s:Nat}(c:s<6)(x:M.Act)(a:Sl){cs:Array Value}(h1:aK w g 84 cs)(d:aK w' g 84 (de cs (s*14) (jQ x a).toList))(u:cS (One g) w w') :
  ck w' g mb (M.set Jo (s:Int) ⟨x.own,x.dQ,x.aU⟩) jo N/\Fr (jK g mb) w w':=by
 have e:=h.ne;obtain⟨b,f,h2,h3⟩:=h.ex;obtain rfl:b=cs:=by
  have:=f.symm.trans h1;simpa using this
 obtain⟨F,hF⟩:=h.map;exact⟨⟨⟨_,d,h2.iJ s c x a,nF.zY h2.size h3 s c x a⟩,F,hF.dW u e⟩,.jT (u.mono λi _ q=>.inl q) h.ni⟩
def ck.src{w:aw}{g mb:Nat}{Jo:Int->M.Jn}{jo:Int->Int}{N:Nat}(h:ck w g mb Jo jo N)(a:N<1000000)(y:Int×Int)(b:Gi y)(c:Value):∃w',(eF 82 (.map (Z mb)) (pv y) c).run af w=.ok () w'/\ck w' g mb Jo jo (N+1)/\Fr (jK g mb) w w':=by
 have d:=h.ne;obtain⟨cs,h1,h2⟩:=h.ex;obtain⟨F,hF⟩:=h.map;obtain⟨w',hr,e,u⟩:=hF.nX xM underlying82 a y c b;exact⟨w',hr,⟨⟨cs,h1.dW u (λq=>d q.symm),h2⟩,_,e⟩,.jT (u.mono λi _ q=>.inr q) h.ni⟩
def qU(w:aw):aF af 11 #[] w λe w'=>∃g mb:Nat,e=av (aq (Z ⟨g,0,I⟩))/\ck w' g mb (λ_=>⟨0,0,0⟩) (λ_=>-1) 0/\aC w w'/\w.heap.size<=g/\w.heap.size<=mb:=by
 have n:=@run_makeMap af;go_enter func11,ntmps11;go_upto_region 2 with fail;obtain⟨g,hg⟩:=dH (w.heap.size+1);rw[<-hg];refine aW (λX=>ck X g w.heap.size (λ_=>⟨0,0,0⟩) (λ_=>0) 0/\aC w X) ⟨?_,?_⟩ ?_
 ·have b:aK ((w.alloc (.map #[] 0)).alloc (.cells (Tryz.zeroCells84.setIfInBounds 90 (.map (Z w.heap.size))) 84)) g 84 (Tryz.zeroCells84.setIfInBounds 90 (.map (Z w.heap.size))):=aK.newAt _ _ _ _ (by rw[hg];simp);refine⟨⟨_,b,⟨rfl,λs c=>?_,λs c=>?_,λs c=>?_,λs c=>?_⟩,rfl⟩,_,(gA.made w KO).dW (G:=cr) (.bn ((ao _ _).alloc (aj _) _)) id⟩;all_goals rcases(z:s=0\/s=1\/s=2\/s=3\/s=4\/s=5) with rfl|rfl|rfl|rfl|rfl|rfl<;>rfl
 ·exact((ao _ w).alloc (aj _) _).alloc dt _
 rintro X ⟨a,t⟩;have d:w.heap.size<=g:=z;obtain⟨l,m⟩:=bu a t;clear a t hg n;go_wp2_with fail;go_loopw [6] (λv wr=>∃k:Nat,v=J V k/\k<=6/\∃jo:Int->Int,ck wr g w.heap.size (λ_=>⟨0,0,0⟩) jo 0/\(∀s:Nat,s<k->jo s = -1)/\aC w wr) (λi _=>6-(intOf i).toNat);case atStart=>exact⟨0,rfl,z,λ_=>0,l.O,λs h=>z,m.O⟩
 case round =>
  clear l m;obtain⟨k,rfl,A,jo,a,hp,b⟩:=hrel;by_cases f:k<6
  ·have x:((k:Int)<6):=z;obtain⟨c1,c2⟩:=a.cell f;have u:=(a.put f (-1)).1;have j:=b.setCell (p:=⟨g,84+k,I⟩) d (J V (-1));obtain⟨y,o,q⟩:=bU u j hp;clear a b u j hp;go_wp2_with fail;go_roundw;case rel =>
    refine⟨k+1,by go_num,z,_,y.O,λs c=>?_,o.O⟩;unfold M.set;by_cases e:s=k
    ·rw[if_pos z]
    ·rw[if_neg z];exact q.O s z
   case measure=>simp[intOf];omega
  ·have r:k=6:=z;subst r;obtain⟨l,m,q⟩:=bU a b hp;clear a b hp;go_wp2_with fail;go_ret;exact⟨g,_,rfl,l.O.congr (λ_ _=>rfl) (λs c=>(q.O s c).symm),m.O,d,aj _⟩
end
section
structure Th where
 own:Nat->Prop
 At:aw->Prop
 dW:∀{w w':aw} {G:Nat->Prop},At w->cS G w w'->(∀i,own i->¬G i)->At w'
 ni:∀{w:aw},At w->vP w own
def PY.lt{w:aw}{i:Nat}(h:PY w i):i<w.heap.size:=by
 rcases h with⟨es,k,h⟩ | ⟨t,cs,h,_⟩
 ·exact(jm.1 h).1
 ·exact h.lt
def Th.lt(x:Th){w:aw}(h:x.At w):∀i,x.own i->i<w.heap.size:=λi hi=>(x.ni h i hi).lt
def Th.cw(g:Nat)(t:TypeId)(cs:Array Value):Th:=⟨One g,λw=>aK w g t cs/\t≠5/\t≠41,λh u k=>⟨h.1.dW u (k g rfl),h.2⟩,λh i hi=>by cases hi;exact .cw h.1 h.2.1 h.2.2⟩
def Th.map(b:Nat)(F:M.bN->Option Value)(N:Nat):Th:=⟨One b,λw=>gA KO w b F N,λh u k=>gA.dW (F:=F) h u (k b rfl),λh i hi=>by cases hi;exact gA.mut (F:=F) h⟩
def Th.xX(g mb:Nat)(a:Int->M.Jn)(jo:Int->Int)(N:Nat):Th:=⟨jK g mb,λw=>ck w g mb a jo N,λh u k=>h.dW u (k g (.inl rfl)) (k mb (.inr rfl)),λh=>h.ni⟩
structure mD(w wr:aw)(B:RB)(R:M.Room)(N:Nat)(X:List Th):Prop where
 aG:aL wr B R N
 low:∀i,B.all i->w.heap.size<=i
 bw:aC w wr
 th:∀x∈X,x.At wr/\∀i,x.own i->¬B.all i/\w.heap.size<=i
 vd:X.Pairwise λx y=>∀i,x.own i->¬y.own i
section
variable {w wr w':aw} {B B':RB} {R R':M.Room} {N N':Nat} {X Y l1 l2:List Th} {x y:Th}
def mD.below(h:mD w wr B R N X)(b:aC wr w'):mD w w' B R N X:=
 ⟨h.aG.below b,h.low,h.bw.trans (b.mono h.bw.size),λx a=>⟨x.dW (h.th x a).1 (G:=cr) (.bn b) (λ_ _ q=>q),(h.th x a).2⟩,h.vd⟩
def mD.act(h:mD w wr B R N X)(hR:aL w' B' R' N')(b:fK wr w' B B'):mD w w' B' R' N' X:=by
 have c:=h.bw.size;refine⟨hR,λi hi=>?_,h.bw.trans (b.fr.below c h.low),λx a=>⟨x.dW (h.th x a).1 b.fr.u (λi hi q=>((h.th x a).2 i hi).1 q),λi hi=>⟨λq=>?_,((h.th x a).2 i hi).2⟩⟩,h.vd⟩
 ·rcases b.own i hi with q|q
  ·exact h.low i q
  ·omega
 ·rcases b.own i q with q|q
  ·exact((h.th x a).2 i hi).1 q
  ·have:=x.lt (h.th x a).1 i hi;omega
def mD.get(h:mD w wr B R N X)(a:x∈X):x.At wr:=(h.th x a).1
def mD.sub(h:mD w wr B R N X)(s:Y.Sublist X):mD w wr B R N Y:=⟨h.aG,h.low,h.bw,λx a=>h.th x (s.subset a),h.vd.sublist s⟩
def mD.new(h:mD w wr B R N X)(b:aC wr w')(hy:y.At w')(a:∀i,y.own i->wr.heap.size<=i):mD w w' B R N (y::X):=by
 have k:=h.below b;have d:=h.bw.size;refine⟨k.aG,k.low,k.bw,λx c=>?_,cv.2 ⟨λx c i hi q=>?_,h.vd⟩⟩
 ·rcases fw.1 c with e|q
  ·subst e;refine⟨hy,λi hi=>⟨λq=>?_,?_⟩⟩
   ·have:=h.aG.lt i q;have:=a i hi;omega
   ·have:=a i hi;omega
  ·exact k.th x q
 ·have:=x.lt (h.th x c).1 i q;have:=a i hi;omega
def mD.IW(h:mD w wr B R N (l1++x::l2))(f:Fr x.own wr w')(hy:y.At w')(j:∀i,y.own i->x.own i\/wr.heap.size<=i):mD w w' B R N (l1++y::l2):=by
 have g:=h.th x dt;have m:=h.bw.size;obtain⟨d1,d2,d3⟩:=ef.1 h.vd;obtain⟨d4,d5⟩:=cv.1 d2;have other:∀c∈l1++l2,(∀i,c.own i->¬x.own i)/\c.At wr/\∀i,c.own i->¬B.all i/\w.heap.size<=i:=λc d=>by
  rcases bt.1 d with q|q
  ·exact⟨d3 c q x dt,h.th c (by simp[q])⟩
  ·exact⟨λi a b=>d4 c q i b a,h.th c (by simp[q])⟩
 have l:∀c∈l1++l2,∀i,c.own i->¬y.own i:=λc d i a b=>by
  rcases j i b with q|q
  ·exact(other c d).1 i a q
  ·have:=c.lt (other c d).2.1 i a;omega
 refine⟨h.aG.fr f λi hi q=>(g.2 i q).1 hi,h.low,h.bw.trans (f.below m λi q=>(g.2 i q).2),λc d=>?_,?_⟩
 ·have d:c=y\/c∈l1++l2:=by
   simp at d ⊢;rcases d with q|q|q
   ·exact .inr (.inl q)
   ·exact .inl q
   ·exact .inr (.inr q)
  rcases d with e|q
  ·subst e;refine⟨hy,λi hi=>?_⟩;rcases j i hi with q|q
   ·exact g.2 i q
   ·exact⟨λk=>by have:=h.aG.lt i k;omega,z⟩
  ·exact⟨c.dW (other c q).2.1 f.u λi hi=>(other c q).1 i hi,(other c q).2.2⟩
 ·refine ef.2 ⟨d1,cv.2 ⟨λc d i a b=>l c (by simp[d]) i b a,d5⟩,λc d u hu=>?_⟩;rcases fw.1 hu with e|q
  ·subst e;exact l c (by simp[d])
  ·exact d3 c d u (by simp[q])
end
end
def Oo(x:M.Act)(b:Sl):∀v∈(jQ x b).toList,v.oneCell'=true:=by
 intro v a;simp at a;repeat (first|(subst a;rfl)|(rcases a with rfl|a;rfl))
def mY(x:M.Act)(e:Int)(jo:Int->Int)(s:Int):Int:=if e=0/\x.nv=5/\s=x.sub then x.jo else if e=0/\x.nv=7/\s=x.sub then -1 else jo s
def vp(R:M.Room)(x:M.Act)(e:Int)(jo:Int->Int)(s:Int):M.vy R x e jo s=if R.eG s=true then -1 else mY x e jo s:=rfl
def zk(R:M.Room)(s:Int):Nat:=match R.aD s with | some l=>l.ready.length | none=>0
def ud(R:M.Room)(s:Int):Int×Int:=match R.aD s with | some l=>(l.dx,l.fh) | none=>(0,0)
def tv(R:M.Room)(s:Int):∃(a b:Int) (th:Bool),qW (R.aD s)=aB #[cg #[J V (ud R s).1,J V (ud R s).2],cg #[J V a,J V b,J V (zk R s)],ai (R.eG s),ai th]:=by
 unfold zk ud M.Room.eG;cases R.aD s with
 |none=>exact⟨0,0,false,rfl⟩
 |some l=>exact⟨l.cK.length,l.bF.length,true,rfl⟩
def ez(R:M.Room)(p:Int->Int)(k:Nat)(s:Int):Int:=if s<(k:Int)/\R.eG s=true then -1 else p s
def pE(R:M.Room)(p:Int->Int)(k:Nat)(h:R.eG k=true)(s:Int):ez R p (k+1) s=M.set (ez R p k) k (-1) s:=by
 unfold ez M.set;by_cases e:s=k
 ·subst e;rw[if_pos rfl,if_pos ⟨z,h⟩]
 ·rw[if_neg e];show _=if s<(k:Int)/\R.eG s=true then -1 else p s
  by_cases q:s<(k:Int)/\R.eG s=true
  ·rw[if_pos q,if_pos ⟨z,q.2⟩]
  ·rw[if_neg q,if_neg (λa=>q ⟨z,a.2⟩)]
def oC(R:M.Room)(p:Int->Int)(k:Nat)(h:R.eG k=false)(s:Int):ez R p (k+1) s=ez R p k s:=by
 unfold ez;by_cases q:s<(k:Int)/\R.eG s=true
 ·rw[if_pos q,if_pos ⟨z,q.2⟩]
 ·rw[if_neg q,if_neg (λa=>by
   by_cases e:s=k
   ·subst e;rw[h]at a;cases a.2
   ·exact q ⟨z,a.2⟩)]
def vA{B:RB}{R:M.Room}{N M' g mb:Nat}{w:aw}{TF:Int->M.Jn}{jo:Int->Int}(x:M.Act)(sl:Sl)(e:Int)(h:aL w B R N)(o:ck w g mb TF jo M')(hg:¬B.all g)(hm:¬B.all mb)
  (Ts:e=0->4<=x.nv->x.nv<=7->0<=x.sub/\x.sub<6) (Tt:e=0->x.nv=3->0<=x.jo/\x.jo<3) (hM:M'<900000) :
  aF af 17 #[aq (Z ⟨g,0,I⟩),aq (Z ⟨B.g,0,I⟩),cg (jQ x sl),J V e] w λr w'=>r=av (aB #[])/\ck w' g mb (M.kF x e TF) (M.vy R x e jo) (M'+3)/\Fr (jK g mb) w w':=by
 have Tf:∀W,Fr (jK g mb) w W->aL W B R N:=λW f=>h.fr f λi hi q=>by
  rcases q with rfl|rfl
  ·exact hg hi
  ·exact hm hi
 obtain⟨J1,Tw⟩:=dH (M.kF x e TF);obtain⟨p1,Tx⟩:=dH (mY x e jo);obtain⟨p2,Ty⟩:=dH (M.vy R x e jo);have Tu:∀W Tg,ck W g mb J1 Tg (M'+3)->(∀s:Nat,s<6->Tg s=ez R p1 6 s)->ck W g mb J1 p2 (M'+3):=λW Tg q k=>q.congr (λ_ _=>rfl) λs hs=>by
  rw[k s hs,Ty,vp,<-Tx];unfold ez;by_cases hq:R.eG s=true
  ·rw[if_pos hq,if_pos ⟨z,hq⟩]
  ·rw[if_neg hq,if_neg (λm=>hq m.2)]
 rw[<-Tw,<-Ty];obtain⟨Ti,l,L,To,Tj,P,C⟩:=lV Tf o Tu Tw Tx Ts Tt;clear Tf h o hg hm Tw Tx Ty Tu Ts Tt;go_enter func17,ntmps17;go_upto_region 1 with fail;obtain⟨r6,e6⟩:=dH w.heap.size;rw[<-e6];have hl:=l.O.lt;have TG:¬One g r6:=λq=>by have q:r6=g:=q;omega
 have Tv:¬jK g mb r6:=λq=>by rcases q with q|q<;>omega
 have al:aC w (w.alloc (.cells (jQ x sl) 45)):=(ao _ w).alloc (aj _) _;refine aW (λX=>aK X r6 45 (jQ x sl)/\ck X g mb TF jo M'/\Fr (jK g mb) w X) ⟨aK.newAt _ _ _ _ e6,l.O.below al,.bn al⟩ ?_;clear al e6 l hl;obtain⟨N6,TH⟩:=bu TG Tv;clear TG Tv;rintro X ⟨A,o,f⟩;obtain⟨t,l,y⟩:=bU A o f;have k0:=A.cell 0;have k1:=A.cell 1;have Y:=A.cell 2;have D:=A.cell 11;have E:=A.cell 12;have F:=A.cell 13;simp at k0 k1 Y D E F;clear A o f;obtain⟨b1,TI⟩:=dH (decide (e=0/\4<=x.nv/\x.nv<=7));have p:=au TI;clear TI;go_cut [26] (λv wc=>v=ai b1/\X=wc);case first =>
  clear k1 Y D E F C Ti L l y t To Tj P;by_cases he:e=0
  ·subst he;by_cases h4:4<=x.nv
   ·by_cases h7:x.nv<=7
    ·have E2:Hd (true=b1):=au (by rw[p.O];exact(decide_eq_true ⟨rfl,h4,h7⟩).symm);clear p;go_wp2_with fail;go_meet;exact⟨congrArg ai E2.O,rfl⟩
    ·have E2:Hd (false=b1):=au (by rw[p.O];exact(decide_eq_false (λq=>h7 q.2.2)).symm);clear p;go_wp2_with fail;go_meet;exact⟨congrArg ai E2.O,rfl⟩
   ·have E2:Hd (false=b1):=au (by rw[p.O];exact(decide_eq_false (λq=>h4 q.2.1)).symm);clear p;go_wp2_with fail;go_meet;exact⟨congrArg ai E2.O,rfl⟩
  ·have hw:(e==0)=false:=by simpa using he
   have E2:Hd (false=b1):=au (by rw[p.O];exact(decide_eq_false (λq=>he q.1)).symm);clear p he;go_wp2_with fail;go_meet;exact⟨congrArg ai E2.O,rfl⟩
 case rest =>
 obtain⟨rfl,rfl⟩:=hcut;go_upto_if 26 with fail;go_cut [] (λwc=>ck wc g mb J1 p1 M'/\aK wc r6 45 (jQ x sl)/\Fr (jK g mb) w wc);case first =>
  clear Y D E F C Ti L;have fin:∀W J' p',ck W g mb J' p' M'->(∀s:Nat,s<6->J1 s=J' s)->(∀s:Nat,s<6->p1 s=p' s)->Fr (jK g mb) X W->ck W g mb J1 p1 M'/\aK W r6 45 (jQ x sl)/\Fr (jK g mb) w W:=λW J' p' a b c d =>
   ⟨a.congr b c,t.O.dW d.u TH.O,y.O.trans d⟩
  have same:(¬(e=0/\x.nv=4))->∀s:Nat,s<6->J1 s=TF s:=λq s _=>by rw[To.O];unfold M.kF;rw[if_neg (λm=>q ⟨m.2.1,m.1⟩)]
  have Tk:(¬(e=0/\x.nv=5))->(¬(e=0/\x.nv=7))->∀s:Nat,s<6->p1 s=jo s:=λq q' s _=>by rw[Tj.O];unfold mY;rw[if_neg (λm=>q ⟨m.1,m.2.1⟩),if_neg (λm=>q' ⟨m.1,m.2.1⟩)]
  obtain⟨Tl,U,T⟩:=bU fin same Tk;clear fin same Tk;cases b1;rotate_left
  ·have hd:=p.O;rw[eq_comm,decide_eq_true_iff]at hd;obtain⟨he,hd⟩:=hd;clear p
   ·obtain⟨s0,s6⟩:=P.O he hd.1 hd.2;obtain⟨k,hk⟩:∃k:Nat,x.sub=k:=⟨x.sub.toNat,z⟩;have Tp:k<6:=z;have HK:=au hk;rw[hk]at k1;obtain⟨c1,c2⟩:=l.O.cell Tp;have hb:(k:Int)<6:=z;clear s0 s6 P;rcases(z:x.nv=4\/x.nv=5\/x.nv=6\/x.nv=7) with h4|h4|h4|h4
    ·rw[h4]at k0;obtain⟨cs,q1,q2,q3⟩:=l.O.ex;obtain⟨TJ,TQ,n⟩:=bU q1 q2.size h4;subst he;clear q1 q2 q3 h4 hd c1 c2;go_upto_region 4 with fail;refine wp_region_held_drew (S:=λW=>cS (One g) X W) cC ((cS.refl _ _).drew) (λhH=>?_);refine fS 0 (aq (Z ⟨g,0,I⟩)) rfl hH ?_;try simp only[aA,pqq]
     refine fS 1 (aq (Z ⟨r6,1,I⟩)) rfl hH ?_;simp only[aA,pqq]
     refine fS 2 (J V k) rfl hH ?_ (hy:=λW hW=>by have q:=(t.O.dW hW N6.O).cell 1;simp[hk]at q;go_simp);simp only[aA,pqq]
     refine Fj 3 _ rfl (yieldsIf_load_mid jP 45 (.tmp 6) rfl r6 0 rfl (jQ x sl:Array Value).toList _ (λW hW j v hv=>by rw[cO,(t.O.dW hW N6.O).cell];simpa using hv) underlying45 rfl pV) hH ?_;simp only[aA,pqq]
     refine fS 4 (aq (Z ⟨g,0,I⟩)) rfl hH ?_;simp only[aA,pqq]
     refine fS 5 (aq (Z ⟨g,0,I⟩)) rfl hH ?_;simp only[aA,pqq]
     refine fS 6 (aq (Z ⟨g,k*14,I⟩)) rfl hH ?_;simp only[aA,pqq]
     refine wpAnyH_ready (rs:=[7]) cC dt ?_;refine AllReadyH.cons rfl (λK hK=>?_) AllReadyH.nil;refine lj jP (.tmp 37) (.tmp 34) _ jP g (k*14) _ _ rfl (jQ x sl) rfl pV TJ.O.drew (by rw[TQ.O];show k*14+14<=91;omega) (Oo x sl) ?_;intro w5 TM u5;refine hK.out _ _ (((cS.refl (One g) X).drew).trans u5) (λh3=>?_);clear hK K;try simp only[aA,pqq]
     refine wpAnyH_done cC ?_ _;have m:=l.O.iJ Tp x sl TJ.O TM (((cS.refl (One g) X).drew).trans u5);have HZ:=au m;clear m TM u5 h3 hH;go_wp2_with fail;go_meet;exact Tl.O _ _ _ HZ.O.1 (λs hs=>by
      rw[To.O];unfold M.kF M.set
      by_cases q:(s:Int)=k
      ·rw[if_pos q,if_pos ⟨n.O,rfl,by rw[HK.O];exact q⟩]
      ·rw[if_neg q,if_neg (λm=>q (by rw[<-HK.O];exact m.2.2))]) (T.O (λq=>by have:=q.2;have:=n.O;omega) (λq=>by have:=q.2;have:=n.O;omega)) HZ.O.2
    ·rw[h4]at k0;have n:=au h4;have Y:=t.O.cell 2;simp at Y;subst he;clear h4 hd;go_upto_region 6 with fail;go_region;have m:=(l.O.dW (G:=cr) ((cS.refl cr X).drew) id id).put Tp x.jo;have HZ:=au (And.intro m.1 (((Fr.refl (jK g mb) X).drew).trans m.2));clear m c1 c2;go_wp2_with fail;go_meet;exact Tl.O _ _ _ HZ.O.1 (U.O (λq=>by have:=q.2;have:=n.O;omega)) (λs hs=>by
      rw[Tj.O];unfold mY M.set
      by_cases q:(s:Int)=k
      ·rw[if_pos q,if_pos ⟨rfl,n.O,by rw[HK.O];exact q⟩]
      ·rw[if_neg q,if_neg (λm=>q (by rw[<-HK.O];exact m.2.2)),if_neg (λm=>by have:=m.2.1;have:=n.O;omega)]) HZ.O.2
    ·rw[h4]at k0;have n:=au h4;subst he;clear h4 hd c1 c2;go_wp2_with fail;go_meet;exact Tl.O _ _ _ l.O (U.O (λq=>by have:=q.2;have:=n.O;omega)) (T.O (λq=>by have:=q.2;have:=n.O;omega) (λq=>by have:=q.2;have:=n.O;omega)) (Fr.refl _ _)
    ·rw[h4]at k0;have n:=au h4;subst he;clear h4 hd;go_upto_region 8 with fail;go_region;have m:=(l.O.dW (G:=cr) ((cS.refl cr X).drew) id id).put Tp (-1);have HZ:=au (And.intro m.1 (((Fr.refl (jK g mb) X).drew).trans m.2));clear m c1 c2;go_wp2_with fail;go_meet;exact Tl.O _ _ _ HZ.O.1 (U.O (λq=>by have:=q.2;have:=n.O;omega)) (λs hs=>by
      rw[Tj.O];unfold mY M.set
      rw[if_neg (λm=>by have:=m.2.1;have:=n.O;omega)]
      by_cases q:(s:Int)=k
      ·rw[if_pos q,if_pos ⟨rfl,n.O,by rw[HK.O];exact q⟩]
      ·rw[if_neg q,if_neg (λm=>q (by rw[<-HK.O];exact m.2.2))]) HZ.O.2
  ·have hn:=p.O;rw[eq_comm,decide_eq_false_iff_not]at hn;have HN:=au hn;clear hn p P;go_wp2_with fail;go_meet;exact Tl.O _ _ _ l.O (U.O (λq=>HN.O ⟨q.1,z,z⟩)) (T.O (λq=>HN.O ⟨q.1,z,z⟩) (λq=>HN.O ⟨q.1,z,z⟩)) (Fr.refl _ _)
 case rest =>
  obtain⟨o,A,f⟩:=hcut;clear l t y k0 k1 Y D E F To Tj P;obtain⟨t,l,y⟩:=bU A o f;have k0:=A.cell 0;have Y:=A.cell 2;have D:=A.cell 11;have E:=A.cell 12;have F:=A.cell 13;simp at k0 Y D E F;clear A o f;obtain⟨b2,TN⟩:=dH (decide (e=0/\x.nv=3));have H:=au TN;clear TN;go_upto_region 9 with fail;go_cut [62] (λv wd=>v=ai b2/\wc=wd);case first =>
   clear Y D E F C Ti L l y t;by_cases he:e=0
   ·subst he;by_cases h3:x.nv=3
    ·have E2:Hd (true=b2):=au (by rw[H.O];exact(decide_eq_true ⟨rfl,h3⟩).symm);clear H;go_wp2_with fail;go_meet;exact⟨congrArg ai E2.O,rfl⟩
    ·have E2:Hd (false=b2):=au (by rw[H.O];exact(decide_eq_false (λq=>h3 q.2)).symm);have TV:(x.nv==3)=false:=by simpa using h3
     clear H h3;go_wp2_with fail;go_meet;exact⟨congrArg ai E2.O,rfl⟩
   ·have hw:(e==0)=false:=by simpa using he
    have E2:Hd (false=b2):=au (by rw[H.O];exact(decide_eq_false (λq=>he q.1)).symm);clear H he;go_wp2_with fail;go_meet;exact⟨congrArg ai E2.O,rfl⟩
  case rest =>
  obtain⟨rfl,rfl⟩:=hcut;go_upto_if 62 with fail;go_cut [] (λwd=>ck wd g mb J1 p1 (M'+3)/\Fr (jK g mb) w wd);case first =>
   clear L Ti;cases b2;rotate_left
   ·have hd:=H.O;rw[eq_comm,decide_eq_true_iff]at hd;obtain⟨he,h3⟩:=hd;have hp:=C.O he h3;rw[h3]at k0;clear H;have HP:=au hp;clear hp h3 C;have st:∃k:Nat,(J V 0)=J V k/\k<=3/\ck wc g mb J1 p1 (M'+k)/\aK wc r6 45 (jQ x sl)/\Fr (jK g mb) w wc:=⟨0,rfl,z,l.O,t.O,y.O⟩;have TO:=au st;clear st l t y;go_wp2_with fail;go_loopw [65] (λv wr=>∃k:Nat,v=J V k/\k<=3/\ck wr g mb J1 p1 (M'+k)/\aK wr r6 45 (jQ x sl)/\Fr (jK g mb) w wr) (λv _=>3-(intOf v).toNat);case atStart=>exact TO.O
    case round =>
     clear TO k0 Y D E F;obtain⟨k,rfl,hk,o,A,f⟩:=hrel;by_cases Tq:k<3
     ·have Y:=A.cell 2;simp at Y;have mc:=o.Aa;obtain⟨w5,Tm,hA5,f5⟩:=(o.dW (G:=cr) ((cS.refl cr wr).drew) id id).src z (x.jo,(k:Int)) (ir ⟨by show(-1000000000000:Int)<=x.jo;have:=HP.O;omega,by show x.jo<=1000000000000;have:=HP.O;omega⟩ ⟨by show(-1000000000000:Int)<=k;omega,by show(k:Int)<=1000000000000;omega⟩) (J ar (if k=0 then x.s0 else if k=1 then x.s1 else x.s2));have Tm:(eF 82 (.map (Z mb)) (cg #[J V x.jo,J V k]) (J ar (if k=0 then x.s0 else if k=1 then x.s1 else x.s2))).run af wr.drew=.ok () w5:=Tm;have Tz:Fr (jK g mb) wr w5:=((Fr.refl (jK g mb) wr).drew).trans f5;obtain⟨TA,Q,TC⟩:=bU hA5 (A.dW Tz.u TH.O) (f.trans Tz);clear o A f hA5 f5 Tz;have i0:=λW=>M5 x.s0 x.s1 x.s2 W;have i1:=λW=>M4 x.s0 x.s1 x.s2 W;have i2:=λW=>M3 x.s0 x.s1 x.s2 W;rcases(z:k=0\/k=1\/k=2) with rfl|rfl|rfl
      all_goals
       simp at Tm;go_upto_region 13 with fail;go_region;go_wp2_with fail;go_roundw;case rel=>first|exact⟨1,rfl,z,TA.O,Q.O,TC.O⟩|exact⟨2,rfl,z,TA.O,Q.O,TC.O⟩|exact⟨3,rfl,z,TA.O,Q.O,TC.O⟩
       case measure=>simp[intOf]
     ·have TD:k=3:=z;subst TD;obtain⟨l,y⟩:=bu o f;clear o A f;go_wp2_with fail;go_meet;exact⟨l.O,y.O⟩
   ·clear C H;go_wp2_with fail;go_meet;exact⟨l.O.mono z,y.O⟩
  case rest =>
   obtain⟨o,f⟩:=hcut;clear l y k0 Y D E F t;obtain⟨l,y⟩:=bu o f;clear o f;go_wp2_with fail;go_loopw [79] (λv wr=>∃k:Nat,v=J V k/\k<=6/\ck wr g mb J1 (ez R p1 k) (M'+3)/\Fr (jK g mb) w wr) (λv _=>6-(intOf v).toNat);case atStart=>exact⟨0,rfl,z,l.O.congr (λ_ _=>rfl) (λs hs=>by unfold ez;rw[if_neg (λq=>by have:=q.1;omega)]),y.O⟩
   case round =>
    clear l y;obtain⟨k,rfl,hk,o,f⟩:=hrel;by_cases Tq:k<6
    ·have TW:((k:Int)<6):=z;have hR:=Ti.O _ f;have hL:=AZ hR (k:Int) (Ig z z);obtain⟨c1,c2⟩:=o.cell Tq;obtain⟨la,lb,th,Tn⟩:=tv R k;rw[Tn]at hL;obtain⟨ln,TP⟩:=dH (zk R k);obtain⟨c0,t0⟩:=dH (ud R k);obtain⟨gn,TE⟩:=dH (R.eG k);rw[<-TP,<-TE]at hL;generalize (ud R k).1=TR at hL;generalize (ud R k).2=TS at hL;obtain⟨HC,HL,l,y⟩:=cA TE hL o f;clear hL TE TP Tn o f hR t0;go_upto_region 19 with(go_at_call 15;refine HL.O.mono ?_;rintro e w5 ⟨rfl,b5⟩;have Q:=au b5;clear b5)
     have bb:aC wr ((w5.alloc (.cells #[J V TR,J V TS] 68)).alloc (.cells #[J V la,J V lb,J V ln] 69)):=(Q.O.alloc Q.O.size _).alloc (by have:=Q.O.size;simp;omega) _;refine aW (λTT=>ck TT g mb J1 (ez R p1 k) (M'+3)/\Fr (jK g mb) w TT) ⟨l.O.below bb,y.O.trans (.bn bb)⟩ ?_;clear l y Q HL bb c1 c2;rintro TT ⟨o,f⟩;obtain⟨c1,c2⟩:=o.cell Tq;obtain⟨l,y⟩:=bu o f;clear o f;cases gn
     ·clear c1 c2;go_wp2_with fail;go_roundw;case rel=>exact⟨k+1,by go_num,z,l.O.congr (λ_ _=>rfl) (λs _=>oC R p1 k HC.O.symm s),y.O⟩
      case measure=>simp[intOf];omega
     ·have HZ:=au (l.O.put Tq (-1));go_wp2_with fail;go_roundw;case rel=>exact⟨k+1,by go_num,z,HZ.O.1.congr (λ_ _=>rfl) (λs _=>pE R p1 k HC.O.symm s),y.O.trans HZ.O.2⟩
      case measure=>simp[intOf];omega
    ·have TD:k=6:=z;subst TD;obtain⟨l,y⟩:=bu o f;clear o f;go_wp2_with fail;refine bodyPost_end (results_none results17 _ _ _) rfl ?_;refine⟨rfl,?_,?_⟩
     ·exact L.O _ _ l.O (λ_ _=>rfl)
     ·exact y.O
namespace M
def rR{s:Int}(h:fY s=true):0<=s/\s<6:=by simpa[fY]using h
def tg{s:Int}(h:mB s=true):0<=s/\s<3:=by simpa[mB]using h
def xJ(R:Room)(x:Act)(h:(R.act x).2.1=0)(h4:4<=x.nv)(h7:x.nv<=7):0<=x.sub/\x.sub<6:=by
 refine rR ?_;unfold Room.act at h;rcases(z:x.nv=4\/x.nv=5\/x.nv=6\/x.nv=7) with e|e|e|e<;>simp[e]at h
 ·unfold Room.iJ at h;cases q:fY x.sub
  ·rw[q]at h;split at h<;>simp at h
  ·rfl
 ·unfold Room.dN at h;cases q:fY x.sub
  ·rw[q]at h;simp only[rN,Bool.true_or,if_true]at h;repeat' split at h
   all_goals simp at h
  ·rfl
 ·unfold Room.iy at h;cases q:fY x.sub
  ·rw[q]at h;split at h<;>simp at h
  ·rfl
 ·unfold Room.jE at h;cases q:fY x.sub
  ·rw[q]at h;split at h<;>simp at h
  ·rfl
def xK(R:Room)(x:Act)(h:(R.act x).2.1=0)(h3:x.nv=3):0<=x.jo/\x.jo<3:=by
 refine tg ?_;unfold Room.act at h;simp[h3]at h;unfold Room.gg at h;cases q:mB x.jo
 ·rw[q]at h;split at h<;>simp at h
 ·rfl
end M
def zF{l:List M.Act}(h:qV l=false):l.length<=120/\∀x∈l,x.b.length<=400:=by
 unfold qV at h;rw[Bool.or_eq_false_iff,decide_eq_false_iff_not,oA]at h;refine⟨z,λx a=>?_⟩;have:=h.2 x a;simp at this;exact this
def qL{w:aw}{g:Nat}{t:TypeId}{cs:Array Value}(h:aK w g t cs):w.rangeAt g 0 cs.toList:=λj v a=>by rw[cO];exact(h.cell j).trans (by simpa using a)
def IM(w:aw):Prop:=∀W,aC w W->aF af 8 #[] W λe W'=>e=av (ai true)/\aC W W'
namespace M
def Bc(R:Room)(o:bN):Bool:=match R.az o with | none=>false | some s=>(iK R.dA.eA R.dA.ek s.dJ (R.wanted o) R.cJ).2
def EV(R:Room)(o:bN):Request:=⟨o,R.cJ,tU ((R.aQ o).getD 0)⟩
def asked(l:List bN)(R:Room):Room:={ R with az:=λo=>if o∈l then(R.az o).map λs=>{ s with dJ:=(iK R.dA.eA R.dA.ek s.dJ (R.wanted o) R.cJ).1 } else R.az o,cj:=R.cj++(l.filter (Bc R)).map (EV R) }
def Hh(l:List bN)(R:Room)(o:bN):(asked l R).wanted o=R.wanted o:=by
 unfold Room.wanted;congr 1;unfold asked;simp only;by_cases h:o∈l
 ·rw[if_pos h];cases R.az o<;>rfl
 ·rw[if_neg h]
def GM(l:List bN)(R:Room)(o:bN)(h:o∉l):(asked l R).fg o=asked (l++[o]) R:=by
 have j:(asked l R).az o=R.az o:=by unfold asked;simp only;rw[if_neg h]
 unfold Room.fg;rw[j,Hh];cases f:R.az o with
 |none =>
  have k:Bc R o=false:=by unfold Bc;rw[f]
  unfold asked;simp only[ju,List.filter_cons,k,List.filter_nil,List.append_nil,cB,if_false];congr 1;funext t;by_cases ht:t∈l
  ·simp[ht]
  ·by_cases b:t=o
   ·subst b;simp[ht,f]
   ·simp[ht,b]
 |some s =>
  have a:Bc R o=(iK R.dA.eA R.dA.ek s.dJ (R.wanted o) R.cJ).2:=by unfold Bc;rw[f]
  simp only;have g:∀(v:eu),v={ s with dJ:=(iK R.dA.eA R.dA.ek s.dJ (R.wanted o) R.cJ).1 }->(set (asked l R).az o (Z v))=(asked (l++[o]) R).az:=λv m=>by
   funext t;unfold asked set;simp only;by_cases b:t=o
   ·subst b;simp[h,f,m]
   ·by_cases ht:t∈l<;>simp[ht,b]
  have c:(asked l R).dA=R.dA:=rfl;have d:(asked l R).cJ=R.cJ:=rfl;have e:(asked l R).aQ=R.aQ:=rfl;rw[c,d,e,g _ rfl];cases i:(iK R.dA.eA R.dA.ek s.dJ (R.wanted o) R.cJ).2
  ·rw[i]at a;simp only[cB,if_false];show({ asked l R with az:=(asked (l++[o]) R).az }:Room)=asked (l++[o]) R;unfold asked;simp[ju,a]
  ·rw[i]at a;simp only[if_true];show({ asked l R with az:=(asked (l++[o]) R).az,cj:=(asked l R).cj++[EV R o] }:Room)=asked (l++[o]) R;unfold asked;simp[ju,a]
def C9:∀(m l:List bN) (R:Room),(l++m).Nodup->m.foldl Room.fg (asked l R)=asked (l++m) R
 |[],l,R,_=>dt
 |o::m,l,R,h=>by
  have h1:o∉l:=λq=>by
   have:=(List.nodup_append.1 h).2.2 o q o dt;exact this rfl
  rw[List.foldl_cons,GM l R o h1,C9 m (l++[o]) R (by simpa using h)];simp
def NR(R:Room):asked [] R=R:=by unfold asked;simp
def SJ(R:Room)(h:R.cN=false):R.tick.1=asked eX { R with cJ:=R.cJ+1 }:=by
 unfold Room.tick;rw[if_neg (by rw[h];simp)];have:=C9 eX [] { R with cJ:=R.cJ+1 } aR;rw[NR]at this;exact this
def AK.foldl{α:Type}(f:Room->α->Room)(b:∀r a,AK r (f r a)):∀(l:List α) (r:Room),AK r (l.foldl f r)
 |[],r=>AK.refl r
 |a::l,r=>(b r a).trans (AK.foldl f b l (f r a))
def AK.fO(r:Room){o:bN}{s s':eu}(h:r.az o=Z s)(e:s'.dJ=s.dJ):AK r { r with az:=set r.az o (Z s') }:=
 ⟨rfl,rfl,rfl,λt=>by
  show(set r.az o (Z s') t).map eu.dJ=_
  unfold set;split
  ·rename_i q;subst q;rw[h];simp[e]
  ·rfl⟩
def AK.bR(r:Room)(s:Int)(id:Nat)(f:Int):AK r (r.bR s id f):=by
 unfold Room.bR;split
 ·exact⟨rfl,rfl,rfl,λ_=>rfl⟩
 ·exact AK.refl r
def AK.fG(r:Room)(o:bN)(f:eu->eu)(a:∀s,(f s).dJ=s.dJ):AK r (r.fG o f):=by
 unfold Room.fG;split
 ·rename_i s e;exact AK.fO r e (a s)
 ·exact AK.refl r
def AK.ask(r:Room)(x:Int):AK r (r.ask x):=by
 unfold Room.ask;refine AK.foldl _ (λr s=>?_) _ r;split
 ·split
  ·exact AK.fG _ _ _ (λ_=>rfl)
  ·exact AK.refl _
 ·exact AK.refl _
def AK.fE(r:Room)(id:Nat)(l:List Int)(e:Int):AK r (M.fE r id l e):=by
 unfold M.fE;split
 ·exact AK.foldl _ (λr s=>AK.bR r s id 3) _ _
 ·split
  ·exact AK.foldl _ (λr s=>AK.bR r s id 2) _ _
  ·split
   ·exact AK.foldl _ (λr s=>AK.bR r s id 6) _ _
   ·exact AK.refl _
def AK.ka(r:Room)(o:bN)(s:eu)(p:cR)(n:Int)(b:mf)(l:List Int)(e:r.az o=Z s):AK r (M.ka r o s p n b l):=⟨rfl,rfl,rfl,(AK.fO r e (s':={ s with bQ:=b,any:=true,dv:=if !s.any||decide (s.dv<n) then n else s.dv,jc:=s.jc && !lx p.cF }) rfl).dJ⟩
def AK.buf(r:Room){o:bN}{s:eu}(h:r.az o=Z s)(b:mf):AK r { r with az:=set r.az o (Z { s with bQ:=b }) }:=AK.fO r h rfl
def AK.je(r:Room)(o:bN)(p:cR):AK r (r.je o p):=by
 rw[mS];split
 ·exact AK.refl r
 ·rename_i s e;refine AK.trans (AK.ka r o s p (if s.any then jL s.dv p.dQ else nE p.dQ) (s.bQ.push r.dA.eJ (if s.any then jL s.dv p.dQ else nE p.dQ) r.cJ r.aO.length).1 (r.ik o.1) e) ?_;exact AK.fE _ _ _ _
def AK.read(r:Room):AK r r.read:=by
 unfold Room.read;split
 ·exact AK.refl r
 ·rename_i b q e;have k:AK r { r with dm:=q }:=⟨rfl,rfl,rfl,λ_=>rfl⟩;have a:∀f,AK r (Room.count { r with dm:=q } f):=λf=>⟨rfl,rfl,rfl,λ_=>rfl⟩;simp only;split
  ·split
   ·exact a _
   ·exact(a _).trans (AK.foldl _ AK.ask _ _)
  ·split
   ·exact a _
   ·split
    ·exact a _
    ·exact k.trans (AK.je _ _ _)
def AK.pick(r:Room)(w:eK)(a:Bool):AK r (r.pick w a).1:=by
 have fo:∀(s:Int) (v:Option dP),AK r { r with aD:=set r.aD s v }:=λs v=>⟨rfl,rfl,rfl,λ_=>rfl⟩;unfold Room.pick;split
 ·exact AK.refl r
 ·simp only;split
  ·rw[rf];have k:AK r (jd r w):=by
    unfold jd;split
    ·exact⟨rfl,rfl,rfl,λ_=>rfl⟩
    ·split
     ·refine AK.foldl _ (λr o=>?_) _ _;unfold Room.cP;split
      ·exact AK.refl r
      ·rename_i s e;exact(AK.buf r e _).trans (AK.foldl _ (λr id=>AK.foldl _ (λr s=>AK.bR r s id 8) _ r) _ _)
     ·split
      ·exact AK.refl r
      ·split
       ·exact(fo _ _).trans (AK.foldl _ (λr id=>AK.bR r w.2 id 8) _ _)
       ·split
        ·exact(fo _ _).trans (AK.foldl _ (λr id=>AK.bR r w.2 id 8) _ _)
        ·exact(fo _ _).trans (AK.foldl _ (λr id=>AK.bR r w.2 id 8) _ _)
   refine k.trans ?_;unfold back;split
   ·exact⟨rfl,rfl,rfl,λ_=>rfl⟩
   ·exact AK.refl _
  ·split
   ·exact AK.read r
   ·split
    ·unfold Room.order;cases e:r.ready with
     |none=>exact AK.refl r
     |some o =>
      cases b:r.az o with
      |none=>simp only[b];exact AK.refl r
      |some s =>
       simp only[b];cases hh:s.bQ.bD with
       |nil=>exact AK.refl r
       |cons h t =>
        refine(AK.buf r b s.bQ.least).trans (AK.foldl _ (λr s=>?_) _ _);unfold Room.iW;split
        ·split
         ·exact AK.refl r
         ·simp only;have l1:∀v,AK r { r with aD:=set r.aD s v }:=λv=>⟨rfl,rfl,rfl,λ_=>rfl⟩;split
          ·exact(l1 _).trans (AK.bR _ _ _ _)
          ·exact l1 _
        ·exact AK.refl r
    ·split
     ·unfold Room.gq;split
      ·exact AK.refl r
      ·simp only;split
       ·exact(fo _ _).trans (AK.bR _ _ _ _)
       ·exact fo _ _
     ·split
      ·unfold Room.fD;split
       ·exact AK.refl r
       ·simp only;split
        ·exact(fo _ _).trans (AK.bR _ _ _ _)
        ·exact fo _ _
      ·rw[kh];split
       ·exact AK.refl r
       ·have c:∀l' id f,AK r (kg r w.2 l' id f):=λl' id f=>by
         unfold kg;split
         ·exact(fo _ _).trans (AK.bR _ _ _ _)
         ·exact fo _ _
        rename_i l el;refine(c (l.write r.dA.aT a).1 (l.write r.dA.aT a).2.1 (l.write r.dA.aT a).2.2).trans ?_;unfold nA;split
        ·exact⟨rfl,rfl,rfl,λ_=>rfl⟩
        ·exact AK.refl _
structure tb(R:Room)(fH:bN->Option Int)(run:bN->Int):Prop where
 at_:∀o,fH o=match R.az o with | none=>I | some s=>if s.dJ.any then Z s.dJ.fH else I
 le:∀o s,R.az o=Z s->s.dJ.any=true->s.dJ.fH<=R.cJ
 run:∀o,0<=run o/\(0<run o->∃s,R.az o=Z s/\s.dJ.any=true/\run o<=R.cJ-s.dJ.fH)
def tb.tc{R R':Room}{fH:bN->Option Int}{run:bN->Int}(h:tb R fH run)(k:AK R R'):tb R' fH run:=by
 have key:∀o s,R'.az o=Z s->∃s0,R.az o=Z s0/\s0.dJ=s.dJ:=λo s a=>by
  have:=k.dJ o;rw[a]at this;cases h0:R.az o with
  |none=>rw[h0]at this;cases this
  |some s0=>rw[h0]at this;simp at this;exact⟨s0,rfl,this.symm⟩
 have c:∀o,R'.az o=I->R.az o=I:=λo a=>by
  have:=k.dJ o;rw[a]at this;cases h0:R.az o with
  |none=>rfl
  |some s0=>rw[h0]at this;cases this
 refine⟨λo=>?_,λo s a e=>?_,λo=>⟨(h.run o).1,λq=>?_⟩⟩
 ·rw[h.at_ o];cases a:R'.az o with
  |none=>rw[c o a]
  |some s=>obtain⟨s0,d,b⟩:=key o s a;rw[d];simp only[b]
 ·obtain⟨s0,d,b⟩:=key o s a;rw[k.cJ,<-b];exact h.le o s0 d (by rw[b];exact e)
 ·obtain⟨s0,d,b,f⟩:=(h.run o).2 q;have:=k.dJ o;rw[d]at this;cases a:R'.az o with
  |none=>rw[a]at this;cases this
  |some s=>rw[a]at this;simp at this;exact⟨s,rfl,by rw[this];exact b,by rw[k.cJ,this];exact f⟩
def Hk(ek:Int):∀(k:Nat) (g:Int),1<=g->g<=En ek k g
 |0,g,_=>Int.le_refl _
 |k+1,g,h=>by
  unfold En;split
  ·exact Int.le_refl _
  ·have:=Hk ek k (g*2) z;omega
def Kq(eA ek gB:Int)(h1:1<=eA)(h2:eA<=ek):eA<=QT eA ek gB/\QT eA ek gB<=ek:=by
 have:=Hk ek (gB-1).toNat eA h1;unfold QT;omega
def E0(eA ek:Int)(s:Ask)(wanted:Bool)(now:Int)(h1:1<=eA)(h2:eA<=ek) :
  ((iK eA ek s wanted now).2=true->(iK eA ek s wanted now).1.any=true/\(iK eA ek s wanted now).1.fH=now/\(s.any=true->eA<=now-s.fH)) /\
  ((iK eA ek s wanted now).2=false->(iK eA ek s wanted now).1.any=s.any/\(iK eA ek s wanted now).1.fH=s.fH/\(wanted=true->s.any=true/\now-s.fH<ek)):=by
 have key:∀gB:Int,eA<=QT eA ek gB/\QT eA ek gB<=ek:=λgB=>Kq eA ek gB h1 h2;unfold iK;generalize (if(!wanted || !s.wanted)=true then(0:Int) else s.gB)=gB;have a:=key gB;simp only;cases wanted
 ·simp
 ·cases b:s.any
  ·simp
  ·by_cases q:now-s.fH<QT eA ek gB
   ·simp[q];omega
   ·simp[q];omega
end M
namespace M
def tb.gg{R:Room}{fH:bN->Option Int}{run:bN->Int}(h:tb R fH run)(hw:Wf R)(p a b c:Int):tb (R.gg p a b c).1 fH run:=by
 unfold Room.gg;split
 ·exact h
 split
 ·exact h
 split
 ·exact h
 split
 ·exact h
 rename_i r;split
 ·exact h
 have j:∀k,R.az (p,k)=I:=λk=>by
  cases e:R.az (p,k) with
  |none=>rfl
  |some s =>
   have:=hw.Qi (p,k) (by rw[e];rfl);exact absurd this (by simpa using r)
 obtain⟨S,m⟩:=dH (set (set (set R.az (p,0) (Z eu.new)) (p,1) (Z .new)) (p,2) (Z .new));have f:∀o,S o=R.az o\/R.az o=I/\S o=Z .new:=λo=>by
  rw[m];unfold set;split
  ·rename_i e;subst e;exact .inr ⟨j 2,rfl⟩
  split
  ·rename_i e;subst e;exact .inr ⟨j 1,rfl⟩
  split
  ·rename_i e;subst e;exact .inr ⟨j 0,rfl⟩
  ·exact .inl rfl
 show tb { R with cW:=_,aQ:=_,az:=set (set (set R.az (p,0) (Z eu.new)) (p,1) (Z .new)) (p,2) (Z .new) } fH run;rw[<-m];refine⟨λo=>?_,λo s d n=>?_,λo=>⟨(h.run o).1,λq=>?_⟩⟩
 ·show fH o=match S o with | none=>I | some s=>if s.dJ.any then Z s.dJ.fH else I
  rcases f o with e | ⟨i,g⟩
  ·rw[e];exact h.at_ o
  ·have:=h.at_ o;rw[i]at this;rw[this,g];rfl
 ·have d:S o=Z s:=d;rcases f o with e | ⟨i,g⟩
  ·exact h.le o s (by rw[<-e];exact d) n
  ·rw[g]at d;simp only[bf]at d;subst d;exact absurd n (by simp[eu.new])
 ·obtain⟨s,l,i,g⟩:=(h.run o).2 q;rcases f o with e | ⟨t,u⟩
  ·exact⟨s,by show S o=Z s;rw[e];exact l,i,g⟩
  ·rw[t]at l;cases l
def Ln{o:bN}(h:(0<=o.1/\o.1<3)/\0<=o.2/\o.2<3):o∈eX:=by
 obtain⟨a,b⟩:=o;obtain⟨⟨a1,a2⟩,b1,b2⟩:=h;simp only at a1 a2 b1 b2;have c:a=0\/a=1\/a=2:=z;have d:b=0\/b=1\/b=2:=z;rcases c with rfl|rfl|rfl<;>rcases d with rfl|rfl|rfl<;>simp[eX]
def ag(R:Room)(o:bN):Bool:=Bc { R with cJ:=R.cJ+1 } o
def tb.tick{R:Room}{fH:bN->Option Int}{run:bN->Int}(h:tb R fH run)(hw:Wf R)(y:R.cN=false)(h1:1<=R.dA.eA)(h2:R.dA.eA<=R.dA.ek)
  (r:bN->Bool) (t:∀o,r o=true->R.wanted o=true/\(R.az o).isSome=true) :
  (∀o a,ag R o=true->fH o=Z a->R.dA.eA<=R.cJ+1-a)/\(∀o,r o=true->ag R o=false->run o+1<R.dA.ek) /\
  R.tick.1.cJ=R.cJ+1/\R.tick.1.cj=R.cj++(eX.filter (ag R)).map (EV { R with cJ:=R.cJ+1 }) /\
  tb R.tick.1 (λo=>if ag R o=true then Z (R.cJ+1) else fH o) (λo=>if(r o && !ag R o)=true then run o+1 else 0):=by
 have x:=SJ R y;have c:∀o s,R.az o=Z s->ag R o=(iK R.dA.eA R.dA.ek s.dJ (R.wanted o) (R.cJ+1)).2:=λo s b=>by
  unfold ag Bc;simp only[b];rfl
 have j:∀o,R.az o=I->ag R o=false:=λo b=>by
  unfold ag Bc;simp only[b]
 have u:∀o s,R.az o=Z s->o∈eX:=λo s b=>Ln (hw.Pf o (by rw[b];rfl));have k:∀o,R.tick.1.az o=(R.az o).map λs=>{ s with dJ:=(iK R.dA.eA R.dA.ek s.dJ (R.wanted o) (R.cJ+1)).1 }:=λo=>by
  rw[x];show(if o∈eX then(R.az o).map (λs=>{ s with dJ:=(iK R.dA.eA R.dA.ek s.dJ (R.wanted o) (R.cJ+1)).1 }) else R.az o)=_;cases b:R.az o with
  |none=>split<;>rfl
  |some s=>rw[if_pos (u o s b)]
 have l:R.tick.1.cJ=R.cJ+1:=by rw[x];rfl
 have facts:=λo (s:eu)=>E0 R.dA.eA R.dA.ek s.dJ (R.wanted o) (R.cJ+1) h1 h2;refine⟨λo a g A=>?_,λo m g=>?_,l,by rw[x];rfl,⟨λo=>?_,λo s b m=>?_,λo=>⟨?_,λq=>?_⟩⟩⟩
 ·cases b:R.az o with
  |none=>rw[j o b]at g;cases g
  |some s =>
   rw[c o s b]at g;have f:=((facts o s).1 g).2.2;have at_:=h.at_ o;rw[b,A]at at_;simp only at at_;cases hy:s.dJ.any with
   |false=>rw[hy]at at_;simp at at_
   |true =>
    rw[hy]at at_;simp only[if_true,bf]at at_;rw[at_];exact f hy
 ·obtain⟨n,i⟩:=t o m;obtain⟨s,b⟩:=dw.1 i;rw[c o s b]at g;obtain⟨_,_,f⟩:=(facts o s).2 g;obtain⟨w,B⟩:=f n;have hle:=h.le o s b w;obtain⟨C,r1⟩:=h.run o;by_cases q:0<run o
  ·obtain⟨s',v,D,E⟩:=r1 q;rw[b]at v;cases v;omega
  ·omega
 ·rw[k o];cases b:R.az o with
  |none =>
   have:=h.at_ o;rw[b]at this;rw[j o b];simpa using this
  |some s =>
   have at_:=h.at_ o;rw[b]at at_;simp only[ya];cases g:ag R o with
   |true =>
    have d:=g;rw[c o s b]at d;obtain⟨f1,f2,_⟩:=(facts o s).1 d;rw[f1,f2];simp
   |false =>
    have d:=g;rw[c o s b]at d;obtain⟨f1,f2,_⟩:=(facts o s).2 d;rw[f1,f2];simpa using at_
 ·rw[k o]at b;cases p:R.az o with
  |none=>rw[p]at b;cases b
  |some s0 =>
   rw[p]at b;simp only[ya,bf]at b;subst b;rw[l];simp only at m ⊢;cases g:(iK R.dA.eA R.dA.ek s0.dJ (R.wanted o) (R.cJ+1)).2 with
   |true =>
    obtain⟨f1,f2,_⟩:=(facts o s0).1 g;rw[f2];omega
   |false =>
    obtain⟨f1,f2,_⟩:=(facts o s0).2 g;rw[f1]at m;have:=h.le o s0 p m;rw[f2];omega
 ·have:=(h.run o).1;show 0<=(if(r o && !ag R o)=true then run o+1 else 0);split<;>omega
 ·have q:0<(if(r o && !ag R o)=true then run o+1 else 0):=q;split at q
  ·rename_i e;simp only[cM,Bool.not_eq_true']at e;obtain⟨m,g⟩:=e;obtain⟨n,i⟩:=t o m;obtain⟨s,b⟩:=dw.1 i;have d:=g;rw[c o s b]at d;obtain⟨f1,f2,f⟩:=(facts o s).2 d;obtain⟨w,B⟩:=f n;refine⟨_,by rw[k o,b];rfl,by show(iK R.dA.eA R.dA.ek s.dJ (R.wanted o) (R.cJ+1)).1.any=true;rw[f1];exact w,?_⟩;show(if(r o && !ag R o)=true then run o+1 else 0)<=R.tick.1.cJ-(iK R.dA.eA R.dA.ek s.dJ (R.wanted o) (R.cJ+1)).1.fH;rw[l,f2,m,g];simp only[rN,Bool.and_self,if_true];have hle:=h.le o s b w;obtain⟨C,r1⟩:=h.run o;by_cases q:0<run o
   ·obtain⟨s',v,D,E⟩:=r1 q;rw[b]at v;cases v;omega
   ·omega
  ·omega
def AH(R:Room)(o:bN)(s:Int):Bool:=match R.of s,R.aD s with | some p,some l=>l.pending&&decide ((p,l.fh)=o) | _,_=>false
def EZ{R:Room}{G:Int->ij}{n:Nat}(hi:Inv R G n)(hw:Wf R)(o:bN)(g:0<=o.2/\o.2<3)(s:Int)(i:s∈gF)(h:AH R o s=true):R.wanted o=true/\(R.az o).isSome=true:=by
 unfold AH at h;cases a:R.of s with
 |none=>rw[a]at h;cases h
 |some p =>
  cases d:R.aD s with
  |none=>rw[a,d]at h;cases h
  |some l =>
   rw[a,d]at h;simp only[cM,decide_eq_true_eq]at h;obtain⟨hp,rfl⟩:=h;unfold Room.of at a;cases hy:R.bh s with
   |none=>rw[hy]at a;cases a
   |some y =>
    rw[hy]at a;simp only at a;split at a
    ·rename_i b;simp only[bf]at a;subst a;obtain⟨_,l',c,e,f⟩:=hi.jo s y hy b;rw[d]at c;cases c;refine⟨?_,hw.sub s y hy b _ g.1 g.2⟩;unfold Room.wanted;simp only[AN,tw];refine .inr ⟨s,?_,?_⟩
     ·unfold Room.ik;rw[eL];refine⟨i,?_⟩;rw[hy];simp[b]
     ·rw[d];simp[e,f,hp]
    ·cases a
def tb.act{R:Room}{fH:bN->Option Int}{run:bN->Int}(h:tb R fH run)(hw:Wf R)(x:Act)(h2:x.nv≠2\/R.cN=true):(R.act x).1.cj=R.cj/\tb (R.act x).1 fH run:=by
 have c:AK R (R.act x).1->(R.act x).1.cj=R.cj/\tb (R.act x).1 fH run:=λk=>⟨k.Se,h.tc k⟩;by_cases h3:x.nv=3
 ·have e:R.act x=((R.gg x.jo x.s0 x.s1 x.s2).1,(R.gg x.jo x.s0 x.s1 x.s2).2,false):=by simp[Room.act,h3]
  rw[e];refine⟨?_,h.gg hw _ _ _ _⟩;show(R.gg x.jo x.s0 x.s1 x.s2).1.cj=R.cj;unfold Room.gg;repeat' split
  all_goals rfl
 refine c ?_;have fo:∀(r:Room) (s:Int) (v:Option dP),AK r { r with aD:=set r.aD s v }:=λr s v=>⟨rfl,rfl,rfl,λ_=>rfl⟩;have lw:∀(r:Room) (s l:Int),AK r (r.fj s l).1:=λr s l=>by
  unfold Room.fj;split
  ·exact fo _ _ _
  ·exact AK.refl r
 unfold Room.act;by_cases h0:x.nv=0
 ·rw[if_pos h0];show AK R (R.fT x.b).1;unfold Room.fT;split
  ·exact AK.refl R
  ·exact⟨rfl,rfl,rfl,λ_=>rfl⟩
 rw[if_neg h0];by_cases h1:x.nv=1
 ·rw[if_pos h1];exact AK.pick R x.w x.fq
 rw[if_neg h1];by_cases a:x.nv=2
 ·rw[if_pos a];have d:=h2.resolve_left (λq=>q a);show AK R R.tick.1;unfold Room.tick;rw[if_pos d];exact AK.refl R
 rw[if_neg a,if_neg h3];by_cases h4:x.nv=4
 ·rw[if_pos h4];show AK R (R.iJ x.sub x.own x.dQ x.aU).1;unfold Room.iJ;repeat' split
  all_goals exact⟨rfl,rfl,rfl,λ_=>rfl⟩
 rw[if_neg h4];by_cases h5:x.nv=5
 ·rw[if_pos h5];show AK R (R.dN x.sub x.jo x.aY).1;unfold Room.dN;split
  ·exact AK.refl R
  split
  ·exact AK.refl R
  split
  ·exact AK.refl R
  split
  ·exact AK.refl R
  split
  ·exact AK.refl R
  split
  ·exact AK.refl R
  split
  ·exact AK.refl R
  ·rename_i y _ _ _;exact AK.trans (b:={ R with bh:=set R.bh x.sub (Z ⟨y.own,true,x.jo⟩) }) ⟨rfl,rfl,rfl,λ_=>rfl⟩ (lw _ _ _)
 rw[if_neg h5];by_cases h6:x.nv=6
 ·rw[if_pos h6];show AK R (R.iy x.sub x.aY).1;unfold Room.iy;split
  ·exact AK.refl R
  split
  ·exact AK.refl R
  split
  ·exact AK.refl R
  ·exact lw _ _ _
 rw[if_neg h6];by_cases h7:x.nv=7
 ·rw[if_pos h7];show AK R (R.jE x.sub).1;unfold Room.jE;repeat' split
  all_goals exact⟨rfl,rfl,rfl,λ_=>rfl⟩
 rw[if_neg h7];by_cases h8:x.nv=8
 ·rw[if_pos h8];show AK R R.fU.1;unfold Room.fU;split
  ·exact AK.refl R
  ·exact⟨rfl,rfl,rfl,λ_=>rfl⟩
 rw[if_neg h8];exact AK.refl R
def tb.start(c:Ou):tb (.new c) (λ_=>I) (λ_=>0):=⟨λo=>rfl,λo s h=>(by cases h),λo=>⟨Int.le_refl _,λq=>z⟩⟩
end M
namespace M
def ud(R:Room)(s:Int):Int×Int:=match R.aD s with | some l=>(l.dx,l.fh) | none=>(0,0)
def M9{R:Room}{G:Int->ij}{n:Nat}{jo:Int->Int}(h:II R jo)(hi:Inv R G n)(hw:Wf R)(o:bN)(s:Int) :
  AH R o s=(decide (0<=jo s)&&(decide ((ud R s).1≠(ud R s).2)&&decide ((jo s,(ud R s).2)=o))):=by
 have hp:=h s;unfold AH ud;cases e:R.of s with
 |none =>
  rw[e]at hp;simp at hp;rw[hp];simp
 |some p =>
  rw[e]at hp;simp at hp;rw[hp];unfold Room.of at e;cases hy:R.bh s with
  |none=>rw[hy]at e;cases e
  |some y =>
   rw[hy]at e;simp only at e;split at e
   ·rename_i a;simp only[bf]at e;subst e;obtain⟨_,l,b,_,_⟩:=hi.jo s y hy a;have c:=hw.Pf _ (hw.sub s y hy a 0 z z);rw[b];simp only;rw[decide_eq_true (show 0<=y.jo from c.1.1)];simp[dP.pending];by_cases q:l.dx=l.fh<;>simp[q]
   ·cases e
end M
namespace M
def T3(R:Room):Prop:=∀s l,R.aD s=Z l->0<=l.fh/\l.fh<3
def Tr(R R':Room):Prop:=T3 R->T3 R'
def Tr.refl(R:Room):Tr R R:=id
def Tr.trans{a b c:Room}(h:Tr a b)(k:Tr b c):Tr a c:=λq=>k (h q)
def Tr.same{R R':Room}(e:R'.aD=R.aD):Tr R R':=λq s l a=>q s l (by rw[<-e];exact a)
def Tr.foldl{α:Type}(f:Room->α->Room)(b:∀r a,Tr r (f r a)):∀(l:List α) (r:Room),Tr r (l.foldl f r)
 |[],r=>Tr.refl r
 |a::l,r=>(b r a).trans (Tr.foldl f b l (f r a))
def Tr.fo{r r':Room}{s:Int}{l l':dP}(e:r.aD s=Z l)(ht:l'.fh=l.fh)(a:r'.aD=set r.aD s (Z l')):Tr r r':=λq t m hm=>by
 rw[a]at hm;unfold set at hm;split at hm
 ·simp only[bf]at hm;subst hm;rw[ht];exact q s l e
 ·exact q t m hm
def Tr.bR(r:Room)(s:Int)(id:Nat)(f:Int):Tr r (r.bR s id f):=Tr.same (nW r s id f).1
def Tr.fG(r:Room)(o:bN)(f:eu->eu):Tr r (r.fG o f):=by
 unfold Room.fG;split<;>exact Tr.same rfl
def Tr.fE(r:Room)(id:Nat)(l:List Int)(e:Int):Tr r (M.fE r id l e):=by
 unfold M.fE;split
 ·exact Tr.foldl _ (λr s=>Tr.bR r s id 3) _ _
 ·split
  ·exact Tr.foldl _ (λr s=>Tr.bR r s id 2) _ _
  ·split
   ·exact Tr.foldl _ (λr s=>Tr.bR r s id 6) _ _
   ·exact Tr.refl _
def Tr.je(r:Room)(o:bN)(p:cR):Tr r (r.je o p):=by
 rw[mS];split
 ·exact Tr.refl r
 ·rename_i s e;refine Tr.trans (b:=M.ka r o s p (if s.any then jL s.dv p.dQ else nE p.dQ) (s.bQ.push r.dA.eJ (if s.any then jL s.dv p.dQ else nE p.dQ) r.cJ r.aO.length).1 (r.ik o.1)) (Tr.same rfl) ?_;exact Tr.fE _ _ _ _
def Tr.read(r:Room):Tr r r.read:=by
 unfold Room.read;split
 ·exact Tr.refl r
 ·rename_i b q e;simp only;split
  ·split
   ·exact Tr.same rfl
   ·refine Tr.trans (b:=Room.count { r with dm:=q } _) (Tr.same rfl) (Tr.foldl _ (λr x=>?_) _ _);unfold Room.ask;refine Tr.foldl _ (λr s=>?_) _ r;split
    ·split
     ·exact Tr.fG _ _ _
     ·exact Tr.refl _
    ·exact Tr.refl _
  ·split
   ·exact Tr.same rfl
   ·split
    ·exact Tr.same rfl
    ·exact Tr.trans (b:={ r with dm:=q }) (Tr.same rfl) (Tr.je _ _ _)
def Cm(l:dP):l.gJ.1.fh=l.fh:=by
 unfold dP.gJ;split<;>rfl
def BM(l:dP)(n:Nat):(l.eO n).1.fh=l.fh:=by
 unfold dP.eO;split<;>rfl
def D8(l:dP)(n:Nat)(x:Item):(l.put n x).1.fh=l.fh:=by
 unfold dP.put;split<;>rfl
def CU(l:dP)(m:Int)(a:Bool):(l.write m a).1.fh=l.fh:=by
 unfold dP.write;split
 ·rfl
 ·cases a<;>(simp only;repeat' split)<;>first|rfl|simp_all
def Tr.pick(r:Room)(w:eK)(a:Bool):Tr r (r.pick w a).1:=by
 unfold Room.pick;split
 ·exact Tr.refl r
 ·simp only;split
  ·rw[rf];have k:Tr r (jd r w):=by
    unfold jd;split
    ·exact Tr.same rfl
    ·split
     ·refine Tr.foldl _ (λr o=>?_) _ _;unfold Room.cP;split
      ·exact Tr.refl r
      ·rename_i s e;exact Tr.trans (b:={ r with az:=set r.az o (Z { s with bQ:=mf.iu s.bQ.bD.length s.bQ }) }) (Tr.same rfl) (Tr.foldl _ (λr id=>Tr.foldl _ (λr s=>Tr.bR r s id 8) _ r) _ _)
     ·split
      ·exact Tr.refl r
      ·rename_i l e;split
       ·exact(Tr.fo (l':={ l with cK:=[] }) e rfl rfl).trans (Tr.foldl _ (λr id=>Tr.bR r w.2 id 8) _ _)
       ·split
        ·exact(Tr.fo (l':={ l with bF:=[] }) e rfl rfl).trans (Tr.foldl _ (λr id=>Tr.bR r w.2 id 8) _ _)
        ·exact(Tr.fo (l':={ l with ready:=[] }) e rfl rfl).trans (Tr.foldl _ (λr id=>Tr.bR r w.2 id 8) _ _)
   refine k.trans ?_;unfold back;split
   ·exact Tr.same rfl
   ·exact Tr.refl _
  ·split
   ·exact Tr.read r
   ·split
    ·unfold Room.order;cases e:r.ready with
     |none=>exact Tr.refl r
     |some o =>
      cases c:r.az o with
      |none=>simp only[c];exact Tr.refl r
      |some s =>
       simp only[c];cases hh:s.bQ.bD with
       |nil=>exact Tr.refl r
       |cons h t =>
        refine Tr.trans (b:={ r with az:=set r.az o (Z { s with bQ:=s.bQ.least }) }) (Tr.same rfl) (Tr.foldl _ (λr s=>?_) _ _);unfold Room.iW;split
        ·split
         ·exact Tr.refl r
         ·rename_i l el;simp only;split
          ·exact(Tr.fo el (D8 _ _ _) rfl).trans (Tr.bR _ _ _ _)
          ·exact Tr.fo el (D8 _ _ _) rfl
        ·exact Tr.refl r
    ·split
     ·unfold Room.gq;split
      ·exact Tr.refl r
      ·rename_i l el;simp only;split
       ·exact(Tr.fo el (Cm _) rfl).trans (Tr.bR _ _ _ _)
       ·exact Tr.fo el (Cm _) rfl
     ·split
      ·unfold Room.fD;split
       ·exact Tr.refl r
       ·rename_i l el;simp only;split
        ·exact(Tr.fo el (BM _ _) rfl).trans (Tr.bR _ _ _ _)
        ·exact Tr.fo el (BM _ _) rfl
      ·rw[kh];split
       ·exact Tr.refl r
       ·rename_i l el;have d:Tr r (kg r w.2 (l.write r.dA.aT a).1 (l.write r.dA.aT a).2.1 (l.write r.dA.aT a).2.2):=by
         unfold kg;split
         ·exact(Tr.fo el (CU _ _ _) rfl).trans (Tr.bR _ _ _ _)
         ·exact Tr.fo el (CU _ _ _) rfl
        refine d.trans ?_;unfold nA;split
        ·exact Tr.same rfl
        ·exact Tr.refl _
def Tr.fj(r:Room)(s l:Int):Tr r (r.fj s l).1:=by
 unfold Room.fj;split
 ·rename_i m e;intro q t n a;have a:set r.aD s (Z (m.iy l).1) t=Z n:=a;unfold set at a;split at a
  ·simp only[bf]at a;subst a;unfold dP.iy;split
   ·exact q s m e
   ·rename_i h1;split
    ·exact q s m e
    ·have:there l=true:=by simpa using h1
     simpa[there]using this
  ·exact q t n a
 ·exact Tr.refl r
def Tr.act(r:Room)(x:Act):Tr r (r.act x).1:=by
 unfold Room.act;split
 ·unfold Room.fT;split<;>exact Tr.same rfl
 split
 ·exact Tr.pick r x.w x.fq
 split
 ·show Tr r r.tick.1;unfold Room.tick;split
  ·exact Tr.refl r
  ·refine Tr.trans (b:={ r with cJ:=r.cJ+1 }) (Tr.same rfl) (Tr.foldl _ (λr o=>?_) _ _);unfold Room.fg;split
   ·exact Tr.refl r
   ·simp only;split<;>exact Tr.same rfl
 split
 ·show Tr r (r.gg x.jo x.s0 x.s1 x.s2).1;unfold Room.gg;repeat' split
  all_goals exact Tr.same rfl
 split
 ·show Tr r (r.iJ x.sub x.own x.dQ x.aU).1;unfold Room.iJ;split
  ·exact Tr.refl r
  split
  ·exact Tr.refl r
  split
  ·exact Tr.refl r
  ·intro q t n a;have a:set r.aD x.sub (Z (.new x.own x.dQ x.aU)) t=Z n:=a;unfold set at a;split at a
   ·simp only[bf]at a;subst a;simp[dP.new]
   ·exact q t n a
 split
 ·show Tr r (r.dN x.sub x.jo x.aY).1;unfold Room.dN;repeat' split
  all_goals first|exact Tr.refl r|(refine Tr.trans ?_ (Tr.fj _ _ _);exact Tr.same rfl)
 split
 ·show Tr r (r.iy x.sub x.aY).1;unfold Room.iy;repeat' split
  all_goals first|exact Tr.refl r|exact Tr.fj _ _ _
 split
 ·show Tr r (r.jE x.sub).1;unfold Room.jE;split
  ·exact Tr.refl r
  split
  ·exact Tr.refl r
  split
  ·exact Tr.refl r
  ·intro q t n a;have a:set r.aD x.sub I t=Z n:=a;unfold set at a;split at a
   ·cases a
   ·exact q t n a
 split
 ·unfold Room.fU;split<;>exact Tr.same rfl
 ·exact Tr.refl r
def T3.start(c:Ou):T3 (.new c):=λs l h=>by cases h
end M
namespace M
def SO(o:bN):Prop:=(0<=o.1/\o.1<3)/\0<=o.2/\o.2<3
def DB(R:Room):List bN:=eX.filter (ag R)
def Kr(R:Room):(DB R).Nodup:=List.Pairwise.filter _ aR
def Cj{R:Room}(hw:Wf R)(o:bN):o∈DB R↔ag R o=true:=by
 unfold DB;rw[eL];refine⟨λq=>q.2,λq=>⟨?_,q⟩⟩;cases a:R.az o with
 |none =>
  have e:ag R o=false:=by unfold ag Bc;simp only[a]
  rw[e]at q;cases q
 |some s=>exact Ln (hw.Pf o (by rw[a];rfl))
def SM{R:Room}(hw:Wf R){o:bN}(h:o∈DB R):SO o:=by
 cases a:R.az o with
 |none =>
  have q:=(Cj hw o).1 h;have e:ag R o=false:=by unfold ag Bc;simp only[a]
  rw[e]at q;cases q
 |some s=>exact hw.Pf o (by rw[a];rfl)
def Hu(R:Room):(DB R).length<=9:=List.length_filter_le _ _
def C7{l:List bN}(a:l.Nodup){i:Nat}(h:i<l.length):l[i]∉l.take i:=λk=>by
 obtain⟨j,b,e⟩:=ed k;rw[List.getElem_take]at e;have c:j<i:=by simp at b;omega
 have:=(List.getElem_inj a).1 e;omega
def AI{l:List bN}{i:Nat}(h:i<l.length)(o:bN):o∈l.take (i+1)↔(o=l[i]\/o∈l.take i):=by
 rw[dK h,bt];simp only[List.mem_singleton];exact or_comm
def SX(o:bN):Int:=3*o.1+o.2
def Bm(run run':bN->Int)(n:Nat)(o:bN):Int:=if SX o<(n:Int) then run' o else run o
def Kk(run run':bN->Int)(o:bN)(h:SO o):Bm run run' 0 o=run o:=by
 unfold Bm SX;rw[if_neg (by obtain⟨⟨a,_⟩,b,_⟩:=h;omega)]
def MP(run run':bN->Int)(o:bN)(h:SO o):Bm run run' 9 o=run' o:=by
 unfold Bm SX;rw[if_pos (by obtain⟨⟨a,c⟩,b,d⟩:=h;omega)]
def PN(run run':bN->Int)(p k:Nat):Bm run run' (3*p+k) ((p:Int),(k:Int))=run ((p:Int),(k:Int)):=by
 unfold Bm SX;rw[if_neg (by simp only;omega)]
def MC(run run':bN->Int)(p k:Nat)(g:k<3)(o:bN)(h:SO o):Bm run run' (3*p+(k+1)) o=if o=((p:Int),(k:Int)) then run' o else Bm run run' (3*p+k) o:=by
 unfold Bm SX;obtain⟨⟨a,c⟩,b,d⟩:=h;by_cases e:o=((p:Int),(k:Int))
 ·rw[if_pos e];subst e;rw[if_pos (by simp only;omega)]
 ·rw[if_neg e];have ne:¬3*o.1+o.2=((3*p+k:Nat):Int):=λq=>e (Prod.ext (by show o.1=(p:Int);omega) (by show o.2=(k:Int);omega));by_cases f:3*o.1+o.2<((3*p+k:Nat):Int)
  ·rw[if_pos f,if_pos z]
  ·rw[if_neg f,if_neg z]
def EU(R:Room)(o:bN):Bool:=gF.any λs=>AH R o s
def ET{R:Room}{G:Int->ij}{n:Nat}(hi:Inv R G n)(hw:Wf R)(ht:T3 R)(o:bN)(h:EU R o=true):R.wanted o=true/\(R.az o).isSome=true:=by
 unfold EU at h;rw[tw]at h;obtain⟨s,d,q⟩:=h;refine EZ hi hw o ?_ s d q;have a:=q;unfold AH at a;cases b:R.of s with
 |none=>rw[b]at a;cases a
 |some p =>
  cases c:R.aD s with
  |none=>rw[b,c]at a;cases a
  |some l =>
   rw[b,c]at a;simp only[cM,decide_eq_true_eq]at a;obtain⟨_,rfl⟩:=a;exact ht s l c
def M7{R:Room}{G:Int->ij}{n:Nat}(hi:Inv R G n)(hw:Wf R)(ht:T3 R)(o:bN)(s:Int)(a:s∈gF)(h:AH R o s=true):SO o:=by
 have h2:EU R o=true:=by
  unfold EU;rw[tw];exact⟨s,a,h⟩
 obtain⟨_,h3⟩:=ET hi hw ht o h2;exact hw.Pf o h3
def DC(R:Room)(x:Act):(R.act x).1.dA=R.dA:=by
 by_cases h:x.nv=8
 ·have e:R.act x=(R.fU.1,R.fU.2,false):=by simp[Room.act,h]
  rw[e];unfold Room.fU;split<;>rfl
 ·exact(Op.act R x h).dA
def Ia(R:Room)(x:Act):(x.nv=2/\(R.act x).2.1=0)↔(x.nv=2/\R.cN=false):=by
 constructor
 ·rintro⟨h,e⟩;refine⟨h,?_⟩;have a:R.act x=(R.tick.1,R.tick.2,false):=by simp[Room.act,h]
  rw[a]at e;unfold Room.tick at e;cases b:R.cN with
  |false=>rfl
  |true=>rw[b]at e;simp at e
 ·rintro⟨h,b⟩;refine⟨h,?_⟩;have a:R.act x=(R.tick.1,R.tick.2,false):=by simp[Room.act,h]
  rw[a];unfold Room.tick;rw[b];rfl
structure Dv(cf:Ou)(R:Room)(G:Int->ij)(jo:Int->Int)(fH:bN->Option Int)(run:bN->Int)(m:Nat):Prop where
 tc:lG R G m
 xX:II R jo
 ask:tb R fH run
 SY:T3 R
 low:∀o a,fH o=Z a->0<=a
 hi:∀o,run o<R.dA.ek
 dA:R.dA=cf
 rq:R.cj.length<=9*m
def Dv.start(cf:Ou)(b:1<=cf.aG)(hr:1<=cf.ek)(G:Int->ij):Dv cf (.new cf) G (λ_=>-1) (λ_=>I) (λ_=>0) 0:=
 ⟨.start cf b G,LC cf,.start cf,.start cf,λo a h=>(by cases h),λo=>by show(0:Int)<cf.ek;omega,rfl,aj _⟩
def OF{cf:Ou}{R:Room}{G:Int->ij}{jo:Int->Int}{fH:bN->Option Int}{run:bN->Int}{m:Nat}(h:Dv cf R G jo fH run m)(x:Act)(b:x.Ok)(c:(0<=x.s0/\x.s0<=4294967295)/\(0<=x.s1/\x.s1<=4294967295)/\0<=x.s2/\x.s2<=4294967295)(h2:¬(x.nv=2/\(R.act x).2.1=0)) :
  (R.act x).1.cj=R.cj/\Dv cf (R.act x).1 (Ag R G x) (vy (R.act x).1 x (R.act x).2.1 jo) fH run (m+1):=by
 have d:x.nv≠2\/R.cN=true:=by
  by_cases q:x.nv=2
  ·right;cases a:R.cN with
   |true=>rfl
   |false=>exact absurd ((Ia R x).2 ⟨q,a⟩) h2
  ·exact .inl q
 obtain⟨e,k⟩:=h.ask.act h.tc.wf x d;exact⟨e,h.tc.act x b c,Ld h.xX h.tc.inv x b,k,Tr.act R x h.SY,h.low,λo=>by rw[DC];exact h.hi o,(DC R x).trans h.dA,by rw[e];have:=h.rq;omega⟩
def Gj(R:Room)(fH:bN->Option Int)(o:bN):Option Int:=if ag R o=true then Z (R.cJ+1) else fH o
def runN(R:Room)(run:bN->Int)(o:bN):Int:=if(EU R o && !ag R o)=true then run o+1 else 0
def Oj{cf:Ou}{R:Room}{G:Int->ij}{jo:Int->Int}{fH:bN->Option Int}{run:bN->Int}{m:Nat}(h:Dv cf R G jo fH run m)(x:Act)(g:x.Ok)(i:(0<=x.s0/\x.s0<=4294967295)/\(0<=x.s1/\x.s1<=4294967295)/\0<=x.s2/\x.s2<=4294967295)(h2:x.nv=2/\(R.act x).2.1=0)(h1:1<=cf.eA)(h3:cf.eA<=cf.ek)(j:0<=R.cJ) :
  (R.act x).1.cj=R.cj++(DB R).map (EV { R with cJ:=R.cJ+1 })/\(R.act x).1.cJ=R.cJ+1 /\
  (∀o a,o∈DB R->fH o=Z a->0<=a/\a<=R.cJ/\cf.eA<=R.cJ+1-a)/\(∀o,0<=runN R run o/\runN R run o<cf.ek) /\
  Dv cf (R.act x).1 (Ag R G x) (vy (R.act x).1 x (R.act x).2.1 jo) (Gj R fH) (runN R run) (m+1):=by
 have k:=((Ia R x).1 h2).2;have l:R.act x=(R.tick.1,R.tick.2,false):=by simp[Room.act,h2.1]
 obtain⟨t1,t2,t3,t4,t5⟩:=h.ask.tick h.tc.wf k (by rw[h.dA];exact h1) (by rw[h.dA];exact h3) (EU R) (λo q=>ET h.tc.inv h.tc.wf h.SY o q);have c:∀o,0<=runN R run o/\runN R run o<cf.ek:=λo=>by
  unfold runN;have r:=(h.ask.run o).1;cases d:EU R o with
  |false=>simp;omega
  |true =>
   cases n:ag R o with
   |true=>simp;omega
   |false =>
    have:=t2 o d n;rw[h.dA]at this;simp;omega
 have b:(R.act x).1=R.tick.1:=by rw[l]
 refine⟨by rw[b,t4];rfl,by rw[b,t3],λo a p e=>⟨h.low o a e,?_,?_⟩,c,h.tc.act x g i,Ld h.xX h.tc.inv x g,by rw[b];exact t5,Tr.act R x h.SY,λo a q=>?_,λo=>by rw[DC,h.dA];exact(c o).2,(DC R x).trans h.dA,?_⟩
 ·have:=h.ask.at_ o;rw[e]at this;cases f:R.az o with
  |none=>rw[f]at this;cases this
  |some s =>
   rw[f]at this;simp only at this;cases d:s.dJ.any with
   |false=>rw[d]at this;simp at this
   |true =>
    rw[d]at this;simp only[if_true,bf]at this;rw[this];exact h.ask.le o s f d
 ·have:=t1 o a ((Cj h.tc.wf o).1 p) e;rw[h.dA]at this;exact this
 ·unfold Gj at q;split at q
  ·simp only[bf]at q;omega
  ·exact h.low o a q
 ·rw[b,t4,cG,List.length_map];have:=Hu R;have:=h.rq;unfold DB at *;omega
end M
section
open Go.ChangeMaps (setBlock)
def SA:Go.WideMaps.KeyLaw af 91:=deep_law_laid laid (m:=2) z (of_decide_eq_true cC) cC cC
def gA.heap{w w':aw}{b N:Nat}{F:Int×Int->Option Value}(h:gA KO w b F N)(e:w'.heap[b]? = w.heap[b]?):gA KO w' b F N:=by
 obtain⟨ds,f,⟨D,⟨es,a,c,r⟩,C⟩,r2⟩:=h;exact⟨ds,f,⟨D,⟨es,a,e.trans c,r⟩,C⟩,r2⟩
def C2(w:aw)(b:Nat)(o:Obj):cS (One b) w (setBlock w b o):=
 ⟨rfl,rfl,rfl,by simp[setBlock],λi hi k=>by
  show(w.heap.setIfInBounds b o)[i]? = _
  rw[gi (λe=>k e.symm)]⟩
def gA.LP{w:aw}{b N:Nat}{F:Int×Int->Option Value}{t e:TypeId}(ht:af.underlying t=Z (.map 91 e)){o:Value}(p:∀u:aw,(ja e).run af u=.ok o u)(h:gA KO w b F N)(q:N<1000000)(y:Int×Int)(m:Gi y)(c:Value) :
  ∃(v0:Value) (st:Nat) (w1:aw),(nB t (.map (Z b)) (pv y)).run af w=.ok (aB #[v0,J V st]) w1/\cS (One b) w w1 /\
   ∀w2:aw,w2.heap[b]? = w1.heap[b]? -> ∃w3,(Bt t (.map (Z b)) (J V st) c).run af w2=.ok () w3/\gA KO w3 b (M.set F y (Z c)) (N+1)/\cS (One b) w2 w3:=by
 obtain⟨w',hr,r,u⟩:=gA.nX xM ht h q y c m;obtain⟨ds,f,⟨D,⟨es,cJ,n,s,E,G⟩,hC⟩,hF,H⟩:=h;obtain⟨v0,st,j,a,v,K,x⟩:=Go.WideElems.entry_then_store SA ht p n s (KO.key y m);have g:b<w.heap.size:=(jm.1 n).1;refine⟨v0,st,_,v,C2 _ _ _,λw2 k=>?_⟩;have h2:w2.heap[b]? = Z (.map j a):=k.trans (by show(w.heap.setIfInBounds b _)[b]? = _;rw[fV g]);have l:b<w2.heap.size:=(jm.1 h2).1;obtain⟨A,i,B,C⟩:=x w2 c h2;refine⟨_,B,?_,C2 _ _ _⟩;have d:=C.symm.trans hr;injection d with _ d
 subst d;refine r.heap ?_;show(w2.heap.setIfInBounds b _)[b]? = (w.heap.setIfInBounds b _)[b]?;rw[fV g,fV l]
end
section
open Go.ChangeMaps (setBlock modify_eq_set)
open Go.WideMaps Go.WideElems
def GS{α:Type}{a b:α}{w w':aw}(h:Result.ok a w=Result.ok b w'):a=b/\w=w':=by injection h with h1 h2;exact⟨h1,h2⟩
def E8{α:Type}:∀(l:List α) (j:Nat) (a:α),l[j]? = Z a->l.set j a=l
 |[],_,_,h=>by simp at h
 |b::r,0,a,h=>by simp at h;subst h;rfl
 |b::r,j+1,a,h=>by simp at h;simp[E8 r j a h]
def Hl{H:Type}{P:jB}{w:aw}{t k e:TypeId}{R:Value->Option (DataW H×List tE)}{b:Nat}{es:Array MapEntry}{cJ:Nat}(K:KeyLaw P k)(ht:P.underlying t=Z (.map k e)){f:Value}(h:∀u:aw,(ja e).run P u=.ok f u)(c:w.heap[b]? = Z (.map es cJ))(F:Go.WideElems.Fit P k R es cJ)
  {key:Value} {kl:Lit} (a:keyOf P k key=Z kl) :
  (∃(v0:Value) (st:Nat),(nB t (.map (Z b)) key).run P w=.ok (aB #[v0,goInt st]) (setBlock w b (.map es cJ))) \/
  (∃(st:Nat) (w1:aw),(nB t (.map (Z b)) key).run P w=.ok (aB #[f,goInt st]) w1/\(eF t (.map (Z b)) key f).run P w=.ok () w1/\(cD t (.map (Z b)) key true).run P w=.ok (aB #[f,ai false]) w):=by
 rcases K.find w a es.toList F.keys with⟨h1,h2⟩ | ⟨j,g,h1,h2,h3⟩
 ·refine .inr ⟨cJ,setBlock w b (.map (es.push ⟨key,f,cJ⟩) (cJ+1)),?_,?_,?_⟩
  ·simp[nB,oE ht,qs c,K.check w false a,h1,h,Ao _ c,jH,setBlock]
  ·simp[eF,oE ht,qs c,K.check w false a,h1,Ao _ c,jH,setBlock]
  ·simp[cD,oE ht,qs c,K.check w es.isEmpty a,h1,h,jH]
 ·have i:es[j]? = Z g:=by simpa using h2
  have d:es.modify j (λe=>{ e with key:=key })=es:=by
   apply Array.ext';rw[Array.toList_modify,modify_eq_set _ _ _ _ h2];have:({ g with key:=key }:MapEntry)=g:=by rw[<-h3]
   rw[this];exact E8 _ _ _ h2
  refine .inl ⟨g.val,g.born,?_⟩;simp[nB,oE ht,qs c,K.check w false a,h1,i,h3,K.stays w a,d,Ao _ c,jH,setBlock]
def gA.I9{w:aw}{b N:Nat}{F:Int×Int->Option Value}{t e:TypeId}(ht:af.underlying t=Z (.map KO.k e)){a:Value}(l:∀u:aw,(ja e).run af u=.ok a u)(h:gA KO w b F N)(o:N<1000000)(y:Int×Int)(d:Gi y)(c:Value) :
  ∃(v0:Value) (st:Nat) (w1 w3:aw),(nB t (.map (Z b)) (pv y)).run af w=.ok (aB #[v0,J V st]) w1/\cS (One b) w w1 /\
   (cD t (.map (Z b)) (pv y) false).run af w1=.ok ((F y).getD a) w1 /\
   (Bt t (.map (Z b)) (J V st) c).run af w1=.ok () w3/\gA KO w3 b (M.set F y (Z c)) (N+1)/\cS (One b) w w3:=by
 obtain⟨v0,st,w1,h1,u1,h2⟩:=h.LP ht l o y d c;obtain⟨w3,h3,r,u3⟩:=h2 w1 rfl;refine⟨v0,st,w1,w3,h1,u1,?_,h3,r,u1.trans u3⟩;have s:=h.my xM ht y d (l w);have g:=λ(W:aw) (F':Int×Int->Option Value) (N':Nat) (q:gA KO W b F' N')=>q.sW xM ht y d (l W);have i:=h.nX xM ht o y a d;have hh:=h;obtain⟨ds,f,⟨D,⟨es,cJ,m,v,K,L⟩,hC⟩,hF,hlen⟩:=h;rcases Hl SA ht l m v (KO.key y d) with⟨x,FH,n⟩ | ⟨FH,j,n,A,B⟩
 ·have e:w1=setBlock w b (.map es cJ):=(GS (h1.symm.trans n)).2;have C:w1.heap[b]? = w.heap[b]?:=by
   rw[e,m];show(w.heap.setIfInBounds b _)[b]? = _;exact fV (jm.1 m).1
  exact g _ F N (hh.heap C)
 ·have E:w1=j:=(GS (h1.symm.trans n)).2;obtain⟨w',p1,p2,_⟩:=i;have G:j=w':=(GS (A.symm.trans p1)).2;have q:=g _ _ _ p2;rw[show M.set F y (Z a) y=Z a from if_pos rfl,<-G,<-E]at q;have p:=(GS (s.symm.trans B)).1;have H:(F y).getD a=a:=by
   simp only[Value.tuple.injEq,Array.mk.injEq,List.cons.injEq]at p;exact p.1
  rw[H];exact q
end
def SU:(af.info? 35).map (·.size)=Z 6:=cC
def Qs(f:Int->Int):Array Value:=#[J V (f 0),J V (f 1),J V (f 2),J V (f 3),J V (f 4),J V (f 5)]
def Te(a b c d e g:Int)(w:aw):(ec 35 (cg #[J V a,J V b,J V c,J V d,J V e,J V g]) (J V 0)).run af w=.ok (J V a) w:=cC
def Td(a b c d e g:Int)(w:aw):(ec 35 (cg #[J V a,J V b,J V c,J V d,J V e,J V g]) (J V 1)).run af w=.ok (J V b) w:=cC
def Tc(a b c d e g:Int)(w:aw):(ec 35 (cg #[J V a,J V b,J V c,J V d,J V e,J V g]) (J V 2)).run af w=.ok (J V c) w:=cC
def Tb(a b c d e g:Int)(w:aw):(ec 35 (cg #[J V a,J V b,J V c,J V d,J V e,J V g]) (J V 3)).run af w=.ok (J V d) w:=cC
def Ta(a b c d e g:Int)(w:aw):(ec 35 (cg #[J V a,J V b,J V c,J V d,J V e,J V g]) (J V 4)).run af w=.ok (J V e) w:=cC
def SZ(a b c d e g:Int)(w:aw):(ec 35 (cg #[J V a,J V b,J V c,J V d,J V e,J V g]) (J V 5)).run af w=.ok (J V g) w:=cC
def SN(f:Int->Int){s:Nat}(h:s<6)(w:aw):(ec 35 (cg (Qs f)) (J V s)).run af w=.ok (J V (f s)) w:=by
 rcases(z:s=0\/s=1\/s=2\/s=3\/s=4\/s=5) with rfl|rfl|rfl|rfl|rfl|rfl
 ·exact Te _ _ _ _ _ _ _
 ·exact Td _ _ _ _ _ _ _
 ·exact Tc _ _ _ _ _ _ _
 ·exact Tb _ _ _ _ _ _ _
 ·exact Ta _ _ _ _ _ _ _
 ·exact SZ _ _ _ _ _ _ _
def ck.range{w:aw}{g mb:Nat}{b:Int->M.Jn}{jo:Int->Int}{N:Nat}(h:ck w g mb b jo N):w.rangeAt g 84 (Qs jo).toList:=λj v a=>by
 have c:j<6:=by have:=(aS.1 a).1;simpa[Qs]using this
 rw[(h.cell c).1];rw[<-a];rcases(z:j=0\/j=1\/j=2\/j=3\/j=4\/j=5) with rfl|rfl|rfl|rfl|rfl|rfl<;>rfl
def Kw(w:aw):(ja 2).run af w=.ok (J V 0) w:=cC
def PC(w:aw):(ja 3).run af w=.ok (J V 0) w:=cC
def Lz(R:M.Room)(k:Nat)(o:M.bN):Bool:=(kq k).any λs=>M.AH R o (s:Int)
def Hs(R:M.Room)(k:Nat)(o:M.bN):Lz R (k+1) o=(Lz R k o||M.AH R o k):=by
 unfold Lz;rw[List.range_succ,List.any_append];simp
def aa(f:M.bN->Bool)(o:M.bN):Option Value:=if f o=true then Z (J V 1) else I
def Ff{f g:M.bN->Bool}{o:M.bN}(h:∀t,g t=(f t||decide (o=t)))(t:M.bN):M.set (aa f) o (Z (J V 1)) t=aa g t:=by
 unfold M.set aa;rw[h t];by_cases e:t=o
 ·subst e;simp
 ·rw[if_neg e,decide_eq_false (λq=>e q.symm),Bool.or_false]
def Fw(f:M.bN->Bool)(o:M.bN):(aa f o).getD (J V 0)=J V (if f o=true then 1 else 0):=by
 unfold aa;split<;>rfl
def PO(w:aw):∀(x:M.Request) c,tm w x c->∀u∈c,u.oneCell'=true:=by
 rintro x c ⟨b,xs,rfl,_⟩ u hu;simp at hu;rcases hu with rfl|rfl|rfl|rfl<;>rfl
def Hg(v:Value)(n:Nat)(l:List (M.Request))(q:List (List Value))(w:aw)(own:w.ownsRow 0 94 4 v n q.flatten)(fit:Fit (tm w) l q)(F:n<=1000000) :
  aF af 56 #[v] w λe w'=>∃s,e=av s/\w'.ownsRow w.heap.size 94 4 s n q.flatten/\aC w w':=by
 obtain⟨i0,hi,f,h,i⟩:=info_parts Mv;obtain⟨A,k,m,o⟩:=cA hi f h i;clear hi f h i;have a:=fit.one (PO w);have hlen:=own.1;rcases own.2 with⟨rfl,rfl⟩ | ⟨g,cap,dx,rfl,_⟩
 ·have he:∀W:aw,(binOp .eql 57 (ae I 0 0) (ae I 0 0)).run af W=.ok (ai true) W:=λ_=>rfl;have ky:w.ownsRow w.heap.size 94 4 (ae I 0 0) 0 q.flatten:=⟨hlen,.inl ⟨rfl,rfl⟩⟩;have p:=au ky;clear own ky a hlen fit;go_enter func56,ntmps56;go_wp2_with fail;go_ret;exact⟨_,rfl,p.O,ao _ _⟩
 ·have he:∀W:aw,(binOp .eql 57 (ae (Z ⟨g,0,I⟩) n cap) (ae I 0 0)).run af W=.ok (ai false) W:=λ_=>rfl;have b:=sZ (aK.new w 94 #[]) (base:=w.heap.size) (e:=94) (size:=4) (aj _);have t:=((ao w.heap.size w).alloc (aj _) (.cells #[] 94));have x:∀j u,q.flatten[j]? = Z u->(w.alloc (.cells #[] 94)).cell? ((⟨g,0,I⟩:Addr).add j)=Z u:=λj u hu=>by
   have r:j<n*4:=by rw[<-hlen];exact(aS.1 hu).1
   have e:=own.cellAt j r;rw[hu]at e;rw[add_lit,cO];exact ea e
  obtain⟨B,C,D,H1⟩:=cA x hlen t a;clear x hlen t own a fit;go_enter func56,ntmps56;go_wp2_with (at_builtin;go_loud (refine wpList_append_own _ rfl _ _ 57 rfl w.heap.size 94 i0 _ 4 48 underlying57 A.O k.O m.O o.O rfl aR _ _ _ rfl b ⟨g,0,I⟩ n cap q.flatten rfl C.O B.O H1.O ?c3 ?c4 ?c5 ?_));case c3=>unfold maxLen;omega
  case c4=>omega
  case c5=>simp
  intro v5 w5 c g5 _;have d:w5.ownsRow w.heap.size 94 4 v5 n q.flatten:=by simpa using c
  have y:aC w w5:=D.O.grown g5 dt (λj r=>by have:=(b.lt j r).1;omega);obtain⟨p,E⟩:=bu d y;clear b c d g5 y;go_wp2_with fail;go_ret;exact⟨_,rfl,p.O,E.O⟩
def C8(w:aw):∀(x:M.Request) c,tm w x c->c.length=4:=by
 rintro x c ⟨b,xs,rfl,_⟩;rfl
def EW(B:RB)(R:M.Room)(N:Nat)(w:aw)(h:aL w B R N)(hN:N<=1000000) :
  aF af 19 #[aq (Z ⟨B.g,0,I⟩)] w λe w'=>∃(v:Value) (q:List (List Value)),e=av v/\w'.ownsRow w.heap.size 94 4 v R.cj.length q.flatten/\Fit (tm w') R.cj q/\aC w w':=by
 obtain⟨q0,u,f⟩:=(h.part .cj:∃q,w.ownsRow 0 94 4 B.rv R.cj.length q.flatten/\Fit (tm w) R.cj q);have E:=h.cw.cell 15;simp at E;have Tl:=h.et.cj;obtain⟨F,G⟩:=bu (Hg B.rv R.cj.length R.cj q0 w u f z) f;clear h u f;go_enter func19,ntmps19;go_wp2_with (go_at_call 56;refine F.O.mono ?_;rintro e w1 ⟨v,rfl,own,b1⟩;obtain⟨A,c,rfl⟩:=bA own;have HW:=au own;have D:=au b1;clear own b1);go_loopw [4,12] (λ_ i wr=>∃(k:Nat) (q:List (List Value)),i=J V k/\k<=R.cj.length/\wr.ownsRow w.heap.size 94 4 (ae A R.cj.length c) R.cj.length q.flatten/\Fit (tm wr) R.cj q/\aC w wr) (λ_ i _=>R.cj.length-(intOf i).toNat);case atStart=>exact⟨0,q0,rfl,z,HW.O,G.O.mono (λx c k=>k.rows (.bn D.O)),D.O⟩
 case round =>
  clear HW D G F E;obtain⟨k,q,rfl,hk,own,fit,H⟩:=hrel;by_cases U:k<R.cj.length
  ·obtain⟨x,d,hx,W,b,xs,rfl,X,Y⟩:=fit.MD U;obtain⟨r,cap,e1,Tm,l⟩:=jZ own (fit.len (C8 wr)) z;injection e1 with e1 e2 e3
   subst e1 e3;have k1:=l k _ W 3 z;simp at k1;have fz:=λj=>own.frozenAt j;have Tn:=H.size;obtain⟨K,HX,Tf,m,o,t,To⟩:=lV (mC b.a b.n b.c xs wr X.tl z X.zero) hx W own fit H fz;clear hx W own fit H l fz X;go_wp2_with fail;refine K.O.mono ?_;rintro e w4 ⟨⟨S,T,rfl,hT,hle,Tg,hz⟩,b4⟩;have s:=qI m.O b4;have Tp:=s.frozenAt (k*4+3);have d1:=aM b4 k1;obtain⟨L,P,Ti⟩:=bU s b4 (⟨hT,hle,Tg,hz⟩:Sl.B w4 ⟨S,b.n,T⟩ xs);clear s b4 hT;go_wp2_with fail;go_roundw;case rel =>
    have C:Fit (tm w4) R.cj q:=o.O.mono λy d Tj=>Tj.rows (.bn P.O);obtain⟨dx,hB,Tk⟩:=Iu L.O;have Q:Rows w4 (w4.setCell ⟨r,k*4+3,I⟩ (ae S b.n T)):=(Rows.refl w4).setCell hB aR aR _ _;have st:=(L.O.stored (k*4+3) (ae S b.n T)).1;rw[zP (C.len (C8 w4)) k 3 _ _ z Tf.O]at st;refine⟨k+1,_,by go_num,z,st,?_,((t.O.trans (P.O.mono t.O.size)).setCell (p:=⟨r,k*4+3,I⟩) Tk _)⟩;exact(C.mono λy d Tj=>Tj.rows Q).set HX.O ⟨⟨S,b.n,T⟩,xs,rfl,Ti.O.rows (.inl rfl) Q,Y⟩
   case measure=>simp[intOf];omega
  ·obtain⟨m,o,t⟩:=bU own fit H;clear own fit H;go_wp2_with fail;go_ret;exact⟨_,q,rfl,m.O,o.O,t.O⟩
def BF:af.underlying 87=Z (.map KO.k 2):=underlying87
def C6:af.underlying 88=Z (.map KO.k 3):=underlying88
def SQ:(af.info? 94).map (·.size)=Z 4:=cC
structure SP(fH:M.bN->Option Int)(run:M.bN->Int)(Fl Fn:M.bN->Option Value):Prop where
 lm:∀o,Fl o=(fH o).map (J V)
 rm:∀o,M.SO o->(Fn o).getD (J V 0)=J V (run o)
def okO{o:M.bN}(h:M.SO o):Gi o:=by
 obtain⟨⟨a,b⟩,c,d⟩:=h;exact ir ⟨by show(-1000000000000:Int)<=o.1;omega,by show o.1<=1000000000000;omega⟩ ⟨by show(-1000000000000:Int)<=o.2;omega,by show o.2<=1000000000000;omega⟩
def SG(R:M.Room):(λ_=>I)=aa (Lz R 0):=funext λo=>by unfold aa Lz;simp
def SH{R:M.Room}{k:Nat}(h:∀o,M.AH R o (k:Int)=false):Lz R (k+1)=Lz R k:=funext λo=>by rw[Hs,h o,Bool.or_false]
def SL(R:M.Room):Lz R 6=M.EU R:=funext λo=>by
 unfold Lz M.EU;simp only[kq,List.range.loop,List.any_cons,List.any_nil,M.gF];rfl
def pe(L:List M.bN)(i:Nat)(o:M.bN):Bool:=decide (o∈L.take i)
def Hj(L:List M.bN):(λ_=>I)=aa (pe L 0):=funext λo=>by unfold aa pe;simp
def Kn{L:List M.bN}{i:Nat}(h:i<L.length)(t:M.bN):pe L (i+1) t=(pe L i t||decide (L[i]=t)):=by
 unfold pe;rw[Bool.eq_iff_iff];simp only[decide_eq_true_eq,AN];rw[M.AI h];constructor
 ·rintro(q|q)
  ·exact .inr q.symm
  ·exact .inl q
 ·rintro(q|q)
  ·exact .inr q
  ·exact .inl q.symm
def MV{L:List M.bN}(a:L.Nodup){i:Nat}(h:i<L.length):pe L i L[i]=false:=decide_eq_false (M.C7 a h)
def Ko(L:List M.bN)(o:M.bN):pe L L.length o=decide (o∈L):=by unfold pe;rw[cT]
def rY(L:List M.bN)(t:Int)(F:M.bN->Option Value)(i:Nat)(o:M.bN):Option Value:=if o∈L.take i then Z (J V t) else F o
def Hi(L:List M.bN)(t:Int)(F:M.bN->Option Value)(o:M.bN):rY L t F 0 o=F o:=by unfold rY;simp
def Kl{L:List M.bN}{t:Int}{F:M.bN->Option Value}{i:Nat}(h:i<L.length)(o:M.bN):M.set (rY L t F i) L[i] (Z (J V t)) o=rY L t F (i+1) o:=by
 unfold M.set rY;by_cases e:o=L[i]
 ·rw[if_pos e,if_pos ((M.AI h o).2 (.inl e))]
 ·rw[if_neg e];by_cases q:o∈L.take i
  ·rw[if_pos q,if_pos ((M.AI h o).2 (.inr q))]
  ·rw[if_neg q,if_neg (λa=>((M.AI h o).1 a).elim e q)]
def MU{L:List M.bN}(t:Int)(F:M.bN->Option Value)(a:L.Nodup){i:Nat}(h:i<L.length):rY L t F i L[i]=F L[i]:=if_neg (M.C7 a h)
def Km{R:M.Room}(hw:M.Wf R){fH:M.bN->Option Int}{F:M.bN->Option Value}(hF:∀o,F o=(fH o).map (J V))(o:M.bN):rY (M.DB R) (R.cJ+1) F (M.DB R).length o=(M.Gj R fH o).map (J V):=by
 unfold rY M.Gj;rw[cT];by_cases q:M.ag R o=true
 ·rw[if_pos q,if_pos ((M.Cj hw o).2 q)];rfl
 ·rw[if_neg q,if_neg (λa=>q ((M.Cj hw o).1 a))];exact hF o
def I8(run:M.bN->Int)(Fn:M.bN->Option Value):Prop:=∀o,M.SO o->(Fn o).getD (J V 0)=J V (run o)
def I8.put{run run':M.bN->Int}{Fn:M.bN->Option Value}{p k:Nat}(h:I8 (M.Bm run run' (3*p+k)) Fn)(b:k<3):I8 (M.Bm run run' (3*p+(k+1))) (M.set Fn ((p:Int),(k:Int)) (Z (J V (run' ((p:Int),(k:Int)))))):=λo a=>by
 rw[M.MC run run' p k b o a];unfold M.set;by_cases e:o=((p:Int),(k:Int))
 ·rw[if_pos e,if_pos e];subst e;rfl
 ·rw[if_neg e,if_neg e];exact h o a
def RU{p k:Nat}(hp:p<3)(a:k<3):M.SO ((p:Int),(k:Int)):=⟨⟨by show(0:Int)<=p;omega,by show(p:Int)<3;omega⟩,by show(0:Int)<=k;omega,by show(k:Int)<3;omega⟩
structure Ck(w:aw)(A:Option Addr)(l:List M.Request):Prop where
 ex:l=[]\/∃r off cs,A=Z ⟨r,off,I⟩/\aK w r 94 cs/\∀i x,l[i]? = Z x->∃b:Sl,∀(j:Nat) v,(Rl x b)[j]? = Z v->cs[off+i*4+j]? = Z v
def Ck.dW{w w':aw}{G:Nat->Prop}{A:Option Addr}{l:List M.Request}(h:Ck w A l)(u:cS G w w')(k:∀i,(l≠[]/\∃o,A=Z ⟨i,o,I⟩)->¬G i):Ck w' A l:=⟨by
 rcases h.ex with e | ⟨r,off,cs,e,a,b⟩
 ·exact .inl e
 ·by_cases q:l=[]
  ·exact .inl q
  ·exact .inr ⟨r,off,cs,e,a.dW u (k r ⟨q,off,e⟩),b⟩⟩
def Th.rq(A:Option Addr)(l:List M.Request):Th:=⟨λi=>l≠[]/\∃o,A=Z ⟨i,o,I⟩,λw=>Ck w A l,λh u k=>h.dW u k,λh i hi=>by
 obtain⟨q,o,e⟩:=hi
 rcases h.ex with a | ⟨r,off,cs,a,b,_⟩
 ·exact absurd a q
 ·rw[a]at e
  simp only[bf,Addr.mk.injEq]at e
  obtain⟨rfl,_⟩:=e
  exact .cw b aR aR⟩
def Ck.nil(w:aw)(A:Option Addr):Ck w A []:=⟨.inl rfl⟩
def SW{w:aw}{base n:Nat}{v:Value}{l m:List M.Request}{q:List (List Value)}(own:w.ownsRow base 94 4 v n q.flatten)(fit:Fit (tm w) (l++m) q)(h:n=(l++m).length)(h0:m≠[]) :
  ∃r cap,v=ae (Z ⟨r,0,I⟩) n cap/\n<=cap/\base<=r/\Ck w (Z ⟨r,l.length*4,I⟩) m:=by
 have hm:0<m.length:=List.length_pos_iff.2 h0;obtain⟨g,cap,dx,e,k,a,_,o,_,p⟩:=Cz own (fit.len (C8 w)) (by rw[h,cG];omega);refine⟨g,cap,e,a,k,⟨.inr ⟨g,l.length*4,dx,rfl,o,λi x s=>?_⟩⟩⟩;have d:(l++m)[l.length+i]? = Z x:=by rw[List.getElem?_append_right z];simpa using s
 obtain⟨c,h1,b,xs,rfl,_⟩:=fit.get d;refine⟨b,λj v f=>?_⟩;have t:j<4:=(aS.1 f).1;have:=p (l.length+i) _ h1 j t;rw[jG]at this;rw[this];exact f
def SV{w:aw}{base n:Nat}{v:Value}{q:List (List Value)}(own:w.ownsRow base 94 4 v n q.flatten):∃A c,v=ae A n c/\n<=c:=by
 rcases own.2 with⟨rfl,e⟩ | ⟨g,cap,dx,e,_,_,a,_⟩
 ·exact⟨I,0,by subst e;rfl,z⟩
 ·exact⟨_,cap,e,a⟩
def Ck.get{w:aw}{A:Option Addr}{l:List M.Request}(h:Ck w A l){i:Nat}(hi:i<l.length):∃r off,A=Z ⟨r,off,I⟩/\∃b:Sl,w.rangeAt r (off+i*4) (Rl l[i] b):=by
 rcases h.ex with e | ⟨r,off,cs,e,a,c⟩
 ·subst e;simp at hi
 ·obtain⟨b,d⟩:=c i l[i] (ay hi);exact⟨r,off,e,b,λj v f=>(a.cell _).trans (d j v f)⟩
def mD.put{w wr:aw}{B:RB}{R:M.Room}{N:Nat}{l1 l2:List Th}{b K:Nat}{F:M.bN->Option Value}{t e:TypeId}(ht:af.underlying t=Z (.map KO.k e))(h:mD w wr B R N (l1++.map b F K::l2))(a:K<1000000)(o:M.bN)(d:Gi o)(c:Value) :
  ∃w',(eF t (.map (Z b)) (pv o) c).run af wr=.ok () w'/\mD w w' B R N (l1++.map b (M.set F o (Z c)) (K+1)::l2)/\cS (One b) wr w':=by
 have k:gA KO wr b F K:=h.get (x:=.map b F K) dt;obtain⟨w',hr,f,u⟩:=k.nX xM ht a o c d;exact⟨w',hr,h.IW (.jT u (λi hi=>by cases hi;exact gA.mut (F:=F) k)) f (λi hi=>.inl hi),u⟩
def mD.Dm{w wr:aw}{B:RB}{R:M.Room}{N:Nat}{l1 l2:List Th}{b K K':Nat}{F F':M.bN->Option Value}(h:mD w wr B R N (l1++.map b F K::l2))(e:∀o,F o=F' o)(a:K<=K'):mD w wr B R N (l1++.map b F' K'::l2):=by
 have k:gA KO wr b F K:=h.get (x:=.map b F K) dt;exact h.IW (Fr.refl _ _) (gA.congr (gA.mono k a) e) (λi hi=>.inl hi)
def Gu{w wr:aw}{B:RB}{R:M.Room}{m a b f i e r2 g mb:Nat}{c d:Array Value}{Fn Fl:M.bN->Option Value}{j:Int->M.Jn}{jo:Int->Int}(h:mD w wr B R (20*m+20) [.cw e 45 c,.map f Fn a,.map i Fl b,.xX g mb j jo (3*m+3),.cw r2 25 d])(k:a<=9*m+9)(l:b<=9*m+9) :
  mD w wr B R (20*(m+1)) [.cw e 45 c,.map f Fn (9*(m+1)),.map i Fl (9*(m+1)),.xX g mb j jo (3*(m+1)),.cw r2 25 d]:=by
 have h1:=mD.Dm (l1:=[.cw e 45 c]) (F':=Fn) (K':=9*(m+1)) h (λ_=>rfl) z;have h2:=mD.Dm (l1:=[.cw e 45 c,.map f Fn (9*(m+1))]) (F':=Fl) (K':=9*(m+1)) h1 (λ_=>rfl) z;exact h2
def mD.entry{w wr:aw}{B:RB}{R:M.Room}{N:Nat}{l1 l2:List Th}{b K:Nat}{F:M.bN->Option Value}(h:mD w wr B R N (l1++.map b F K::l2))(a:K<1000000)(o:M.bN)(d:Gi o)(c:Value) :
  ∃(v0:Value) (st:Nat) (w1 w3:aw),(nB 87 (.map (Z b)) (pv o)).run af wr=.ok (aB #[v0,J V st]) w1 /\
   (cD 87 (.map (Z b)) (pv o) false).run af w1=.ok ((F o).getD (J V 0)) w1 /\
   (Bt 87 (.map (Z b)) (J V st) c).run af w1=.ok () w3/\mD w w3 B R N (l1++.map b (M.set F o (Z c)) (K+1)::l2):=by
 have k:gA KO wr b F K:=h.get (x:=.map b F K) dt;obtain⟨v0,st,w1,w3,h1,_,h2,h3,e,u⟩:=gA.I9 (F:=F) BF Kw k a o d c;exact⟨v0,st,w1,w3,h1,h2,h3,h.IW (.jT u (λi hi=>by cases hi;exact gA.mut (F:=F) k)) e (λi hi=>.inl hi)⟩
def Ho{x y:Th}(l:List Th):l.Sublist (x::y::l):=(oq _ _).trans (oq _ _)
end Go.Proofs.YtkfblammcilfhaaGreatDoor
