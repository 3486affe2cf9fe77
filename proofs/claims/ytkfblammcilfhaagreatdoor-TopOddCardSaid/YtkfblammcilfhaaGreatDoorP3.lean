import Derived.Deep.DeepCutAuto
import Derived.Deep.LoopGhost
import Derived.Deep.RegionLaw
import Derived.Deep.Cut
import Derived.Laws.AppendOwn
import Derived.Lib.Overlaps
import Derived.Lib.AppendZerosOnto
import Derived.Lib.SlKeysI
import Derived.Test.YtkfblammcilfhaaGreatDoorP1
import Derived.Test.YtkfblammcilfhaaGreatDoorP2
set_option linter.all false
set_option maxRecDepth 100000
set_option maxHeartbeats 100000000
open Go.ChangeShapes Go.WideShapes Go.ChangeAt Go.RowKit Go.Proofs.Tryz
open Go renaming World->aw,Program->jB,Oper->mJ,Operand->oN,TypeInfo->pO,yielded->sC,IntKind->jC,wraps_u8->tz,Calls->aF,bodyPost_ret->ax,results->aV,info_parts->cY,zeroValue->ja,run_storeCells_at->oF,run_underlying->oE,setRow_heap->kQ,growslice_fits->rG
open Nat renaming le_trans->aP,le_refl->aj,sub_self->qB,le_of_eq->lO,mod_eq_of_lt->fZ,add_zero->iw,lt_or_ge->iL,mod_eq_sub_mod->rD,mul_le_mul_right->kN,add_mul->jG,zero_add->cO,zero_le->gG
open Go.Region renaming wanted->ig
open Go.Value renaming ownBlock->eR,int->J,cells->gW,slice->ae,bool->ai,pointer->aq,tuple->aB,agg->cg
open Go.RowKit.Below renaming refl->ao
open Go.Lit renaming int->dU,wf->pD
open Go.IntKind renaming min->jI,max->jJ,signed->fR,bits->gM,i64->V,u32->ar,u16->aN,u8->bI
open List renaming getD_eq_getElem?_getD->bE,getElem?_take_of_lt->dp,mem_append->bt,append_nil->kE,map_cons->eV,map_nil->jk,getElem?_eq_some_iff->aS,getElem?_append_left->dk,getElem?_append_right->dG,getElem?_eq_none->fx,length_eq_zero_iff->cU,ext_getElem?->sB,toList_toArray->qk,length_drop->lz,getElem?_drop->kt,mem_of_mem_drop->ga,length_take->ix,append_assoc->dL,size_toArray->sv,mem_singleton->kr
open Go.Proofs.Tryz renaming prog->af
open Go.Builtin renaming clear_->lD,zeroCells->fM,append_->qe,copy_->mj
open Array renaming size_setIfInBounds->dh,getElem?_toList->gj,getElem?_append_left->mN
open Go.Act renaming eval->tG,put->aA
open Go.IntWalk renaming i64_in->cz
open Go.Instr renaming lookup->cD,mapUpdate->eF
open Go.Ending renaming returned->av
open Or renaming inl->aJ,inr->aZ
open Option renaming none->I,some->Z
namespace Go.Proofs.YtkfblammcilfhaaGreatDoor
section
def iG.bC{w:aw}{g gp:Nat}{t:TypeId}{cs:Array Value}{r:M.Rd}(h:iG w g r)(hp:aK w gp t cs)(h1:t≠231)(h2:t≠5)(i:Nat)(u:Value):iG (w.setCell ⟨gp,i,I⟩ u) g r:=by
 obtain⟨A,n,c,a,b,d,e,f⟩:=h;exact⟨A,n,c,a.dS (p:=⟨gp,i,I⟩) (aK.jf a hp (Ne.symm h1)) u,b.bC hp (Ne.symm h2) i u,d,e,f⟩
def iG.cw{w:aw}{g:Nat}{r:M.Rd}(h:iG w g r):∃cs,aK w g 231 cs:=by
 obtain⟨A,n,c,a,_⟩:=h;exact⟨_,a⟩
abbrev sH:Array Value:=#[ai false,J bI 0,J aN 0,J ar 0,J ar 0,ae I 0 0,ai false,J aN 0,ae I 0 0,ae I 0 0]
structure HS(w0:aw)(gr gp g:Nat)(wr:aw)(cs:Array Value)(rd:M.Rd):Prop where
 r:aK wr gr 76 sH
 p:aK wr gp 76 cs
 rd:iG wr g rd
 d:aC w0 wr
 ne:gr≠gp
 hr:w0.heap.size<=gr
 hp:w0.heap.size<=gp
 hg:w0.heap.size<=g
section
variable {w0 wr w':aw} {gr gp g:Nat} {cs:Array Value} {rd OE:M.Rd}
def HS.SC(h:HS w0 gr gp g wr cs rd):gp≠g:=by obtain⟨c,a⟩:=h.rd.cw;exact aK.jf h.p a aR
def HS.Sz(h:HS w0 gr gp g wr cs rd):gr≠g:=by obtain⟨c,a⟩:=h.rd.cw;exact aK.jf h.r a aR
def HS.call(h:HS w0 gr gp g wr cs rd)(R:iG w' g OE)(u:cS (One g) wr w'):HS w0 gr gp g w' cs OE:=
 ⟨h.r.dW u h.Sz,h.p.dW u h.SC,R,h.d.trans (u.below (aP (aj _) h.d.size) λi q=>by cases q;exact h.hg),h.ne,h.hr,h.hp,h.hg⟩
def HS.store(h:HS w0 gr gp g wr cs rd)(i:Nat)(v:Value):HS w0 gr gp g (wr.setCell ⟨gp,i,I⟩ v) (cs.setIfInBounds i v) rd:=
 ⟨h.r.dS (p:=⟨gp,i,I⟩) h.ne v,h.p.bC i v,h.rd.bC h.p aR aR i v,h.d.setCell h.hp v,h.ne,h.hr,h.hp,h.hg⟩
def HS.drew(h:HS w0 gr gp g wr cs rd):HS w0 gr gp g wr.drew cs rd:=⟨h.r,h.p,h.rd,wQ h.d,h.ne,h.hr,h.hp,h.hg⟩
def HS.cell(h:HS w0 gr gp g wr cs rd)(i:Nat):wr.cell? ⟨gp,i,I⟩=cs[i]?:=h.p.cell i
def HS.frozen(h:HS w0 gr gp g wr cs rd)(i:Nat):wr.frozen? ⟨gp,i,I⟩=false:=h.p.frozen i
end
def Is(w:aw):iT w .zero .nil .nil .nil:=⟨Sl.vG,Sl.vG,Sl.vG,aR,aR,aR,aR,aR,aR⟩
def pU{P:jB}{ops:Array mJ}{o:mJ}{a:Act}{w:aw}{K:Act->aw->Prop}{Q:Exit->Act->aw->Prop}{E:Prop}
  (hg:o.guard=I) (s x:oN) (t:TypeId) (C:o.op=.call { callee:=.builtin .append,args:=#[s,x],argTypes:=#[t,t] })
  (base:Nat) (e:TypeId) (i:pO) (l:Value) (size bytes:Nat) (ht:P.underlying t=Z (.slice e)) (D:P.info? e=Z i) (F:i.zero=Z l)
  (d:i.size=size) (p:i.bytes=bytes) (q:l.cells.size=size) (r:0<size)
  (v:Value) (n:Nat) (xs:List Value) (G:a.eval s=v) (k:w.ownsRow base e size v n xs)
  (y:Addr) (m c:Nat) (iX:List Value) (H:a.eval x=ae (Z y) m c) (L:iX.length=m*size) (f:∀j u,iX[j]? = Z u->w.cell? (y.add j)=Z u) (h1:∀u∈iX,u.oneCell'=true)
  (A:n+m<=maxLen) (b:(n+m)*bytes<=140737488355328) (g:base<=w.heap.size)
  (h:∀B w',w'.ownsRow base e size B (n+m) (xs++iX)->w.grownBy w' v.ownBlock->(B=ae I 0 0↔v=ae I 0 0/\m=0)->K (a.put o.dst B) w') :
  if ig o (sC ops a.tmps)=true then Oper.wp P o a w K Q else E:=by
 have hw:ig o (sC ops a.tmps)=true:=by simp[ig,hg]
 rw[if_pos hw];exact wp_append_own w s x t C base e i l size bytes ht D F d p q r v n xs G k y m c iX H L f h1 A b g h
def Cy{F:Nat->Prop}{ts:List TypeId}{w w':aw}{base:Nat}{e:TypeId}{size n:Nat}{v:Value}{xs:List Value}(h:w.ownsRow base e size v n xs)(u:cS F w w')(T:Typed w F ts)(ht:e∉ts):w'.ownsRow base e size v n xs:=by
 obtain⟨h1,h2⟩:=h;refine⟨h1,h2.imp id ?_⟩;rintro⟨g,cap,dx,a,b,c,d⟩;have f:aK w g e dx:=c;exact⟨g,cap,dx,a,b,f.typed u T ht,d⟩
def iG.tc{w w':aw}{g:Nat}{r:M.Rd}{F:Nat->Prop}{ts:List TypeId}(h:iG w g r)(u:cS F w w')(T:Typed w F ts)(h1:231∉ts)(h2:5∉ts):iG w' g r:=by
 obtain⟨A,n,c,a,b,d,e,f⟩:=h;exact⟨A,n,c,a.typed u T h1,b.typed u T h2,d,e,f⟩
def ib{w:aw}{base:Nat}{e:TypeId}{size n:Nat}{v:Value}{xs:List Value}(h:w.ownsRow base e size v n xs):Typed w (λi=>v.ownBlock=Z i) [e]:=by
 intro i a;rcases h.2 with⟨rfl,_⟩ | ⟨g,cap,dx,rfl,_,hh,_⟩
 ·cases a
 ·simp[eR]at a;subst a;exact⟨e,dx,dt,hh⟩
def cS.wx{w w':aw}{row:Option Nat}(g:w.grownBy w' row):cS (λi=>row=Z i) w w':=
 ⟨g.os,g.tape,g.output,g.size,λi a h=>g.block i a (λe=>h e.symm)⟩
def HS.tc{w0 wr w':aw}{gr gp g:Nat}{cs:Array Value}{rd:M.Rd}{F:Nat->Prop}{ts:List TypeId}(h:HS w0 gr gp g wr cs rd)(u:cS F wr w')(T:Typed wr F ts)(h1:231∉ts)(h2:5∉ts)(h3:76∉ts)(hF:∀i,F i->w0.heap.size<=i):HS w0 gr gp g w' cs rd:=
 ⟨h.r.typed u T h3,h.p.typed u T h3,h.rd.tc u T h1 h2,h.d.trans (u.below h.d.size hF),h.ne,h.hr,h.hp,h.hg⟩
def HS.alloc{w0 wr:aw}{gr gp g:Nat}{cs:Array Value}{rd:M.Rd}(h:HS w0 gr gp g wr cs rd)(o:Obj):HS w0 gr gp g (wr.alloc o) cs rd:=
 ⟨h.r.alloc o,h.p.alloc o,h.rd.below ((ao _ _).alloc (aj _) o),h.d.alloc h.d.size o,h.ne,h.hr,h.hp,h.hg⟩
def HS.M6{w0 a b:aw}{gr gp g:Nat}{cs:Array Value}{rd:M.Rd}{o:Obj}{n:Nat}{v:Value}{xs:List Value}(h:HS w0 gr gp g a cs rd)(own:a.ownsRow w0.heap.size 41 1 v n xs)(g8:(a.alloc o).grownBy b v.ownBlock):HS w0 gr gp g b cs rd:=
 (h.alloc o).tc (cS.wx g8) (ib (own.alloc o)) aR aR aR (λi c=>((own.alloc o).lt i c).1)
def LL(w:aw)(t:TypeId)(x:Value):∀j u,[x][j]? = Z u->(w.alloc (.cells #[x] t)).cell? ((⟨w.heap.size,0,I⟩:Addr).add j)=Z u:=by
 intro j u hu;rcases j with _|j
 ·simp at hu;subst hu;rw[add_lit];exact(aK.new w t #[x]).cell 0
 ·simp at hu
def Ca{x:Int}(h:0<=x/\x<=256 ^ 4-1):(dU ar x).wf=true:=by
 have h2:x<=4294967295:=h.2;simp[pD,jI,jJ,fR,gM];omega
def Ft{xs k:List Int}(h:M.sS xs=Z k):k=xs.take k.length/\k.length<=xs.length:=by
 unfold M.sS at h;split at h
 ·cases h
 ·split at h
  ·cases h
  ·simp only[Option.some.injEq]at h;subst h;simp
def TL.pre{t:TypeId}{k:jC}{w:aw}{A:Option Addr}{n:Nat}{xs:List Int}(h:TL t k w A n xs)(j:Nat)(g:j<=n):TL t k w A j (xs.take j):=by
 obtain⟨h1,h2,h3⟩:=h;refine⟨dZ,λx a=>h2 x (List.mem_of_mem_take a),λh0=>?_⟩;obtain⟨b,off,cs,e,c,d⟩:=h3 z;refine⟨b,off,cs,e,c,λi f=>?_⟩;rw[d i z,bE,bE,dp f]
def xc(r:M.Rd)(x:Int):(r.take x).1.length<=r.left.length:=by
 unfold M.Rd.take;split
 ·simp
 ·split
  ·simp
  ·simp;omega
def Tryz.zf:(af.info? 76).map (·.size)=Z 10:=cC
def Lv(p:M.cR)(s e y:Sl):∀v∈(uA p s e y).toList,v.oneCell'=true:=by
 intro v a;simp at a;rcases a with rfl|rfl|rfl|rfl|rfl|rfl|rfl|rfl|rfl|rfl<;>rfl
def Bf(p:M.cR)(s e y:Sl):de sH 0 (uA p s e y).toList=uA p s e y:=rfl
def xD(r:M.Rd)(x:Int):(r.fail x).left.length<=r.left.length:=by
 unfold M.Rd.fail;split<;>simp
def take_left(r:M.Rd)(x:Int):(r.take x).2.left.length<=r.left.length:=by
 unfold M.Rd.take;split
 ·simp
 ·split
  ·unfold M.Rd.fail;split<;>simp
  ·simp
def nC{r r':M.Rd}{s:Nat}{x:Int}{N:Nat}(h:M.Rd.num r s=(x,r'))(a:r.left.length<=N):r'.left.length<=N:=by
 have e:r'=(r.take s).2:=by rw[<-show(M.Rd.num r s).2=r' from by rw[h]];rfl
 rw[e];exact aP (take_left r s) a
def CE:∀(k:Nat) (r:M.Rd),(M.jD k r).2.left.length<=r.left.length
 |0,r=>aj _
 |k+1,r=>by rw[M.jD];exact aP (CE k _) (take_left r _)
def HS.tl{t:TypeId}{k:jC}{w0 wr w':aw}{gr gp g:Nat}{cs:Array Value}{rd:M.Rd}{A:Option Addr}{n:Nat}{xs:List Int}(h:HS w0 gr gp g wr cs rd)(T:TL t k wr A n xs)(u:cS (One g) wr w')(ht:t≠231):TL t k w' A n xs:=by
 obtain⟨c,a⟩:=h.rd.cw;exact T.one u a ht
def HS.KD{t:TypeId}{k:jC}{w0 wr:aw}{gr gp g:Nat}{cs:Array Value}{rd:M.Rd}{A:Option Addr}{n:Nat}{xs:List Int}(h:HS w0 gr gp g wr cs rd)(T:TL t k wr A n xs)(ht:t≠76)(i:Nat)(u:Value):TL t k (wr.setCell ⟨gp,i,I⟩ u) A n xs:=T.bC h.p ht i u
def Fv(x:Int)(h:0<=x/\x<=255):(bits .and bI x 16 !=0)=decide (x / 16 % 2=1)/\(bits .and bI x 32 !=0)=decide (x / 32 % 2=1):=by
 obtain⟨h0,h1⟩:=h;obtain⟨n,rfl⟩:=Int.eq_ofNat_of_zero_le h0;have a:n<256:=z;have key:∀m:Fin 256,((m.val &&& 16 !=0)=decide (m.val / 16 % 2=1))/\((m.val &&& 32 !=0)=decide (m.val / 32 % 2=1)):=by decide +kernel
 obtain⟨d,e⟩:=key ⟨n,a⟩;simp only at d e;have b:bits .and bI (n:Int) 16=((n &&& 16:Nat):Int):=(bits_nat bI 8 aR tz n 16 a aR).1;have c:bits .and bI (n:Int) 32=((n &&& 32:Nat):Int):=(bits_nat bI 8 aR tz n 32 a aR).1;rw[b,c];refine⟨?_,?_⟩
 ·rw[show(((n &&& 16:Nat):Int) !=0)=(n &&& 16 !=0) from by rw[Bool.eq_iff_iff];simp,d];rw[decide_eq_decide];omega
 ·rw[show(((n &&& 32:Nat):Int) !=0)=(n &&& 32 !=0) from by rw[Bool.eq_iff_iff];simp,e];rw[decide_eq_decide];omega
def one_one{k:jC}{x:Int}:∀u∈[J k x],u.oneCell'=true:=by intro u hu;simp at hu;subst hu;rfl
def iG.typed{w:aw}{g:Nat}{r:M.Rd}(h:iG w g r):Typed w (One g) [231]:=λi a=>by
 cases a;obtain⟨cs,b⟩:=h.cw;exact⟨231,cs,dt,b⟩
def OU(x:Int)(h:0<=x/\x<=255):bits .and bI x 127=x % 128:=bits_mask bI 8 aR tz 7 aR x h.1 z
def wF(A:Option Addr)(n c:Nat)(b:M.cQ)(w:aw)(h:TB w A n b)(hz:A=I->c=0)(hn:n<=100000) :
  aF af 16 #[ae A n c] w λe w'=>(∃s ex y:Sl,e=av (aB #[Pq (M.eP b).1 s ex y,J V (M.eP b).2])/\iT w' (M.eP b).1 s ex y)/\aC w w':=by
 have hl:=h.len;by_cases UW:200<n
 ·have D:M.eP b=(.zero,4):=by unfold M.eP;rw[if_pos z]
  have HB:=au D;clear D hl h hz;go_enter func16,ntmps16;go_wp2_with fail;refine ax (v:=aB #[Pq .zero .nil .nil .nil,J V 4]) (by simp[aV,results16,go_sem,M.cR.zero,Sl.nil]) rfl ?_;rw[HB.O];exact⟨⟨.nil,.nil,.nil,rfl,Is _⟩,(ao _ w).alloc (aj _) _⟩
 obtain⟨HT,HL⟩:=bu h hl;clear h hl;go_enter func16,ntmps16;go_wp2_with fail;have R1:=aK.new w 76 sH;have d1:=(ao w.heap.size w).alloc (aj _) (.cells sH 76);refine(wz A n c b _ (HT.O.below d1) hn hz).mono ?_;rintro e w1 ⟨⟨g,rfl,hg,G1⟩,b1⟩;have R2:=R1.kept b1;have d2:aC w w1:=wR (ao _ w) b1;have TF:=d2.size;have UX:=R2.lt;clear R1 d1;obtain⟨TG,TH⟩:=bu G1 R2;clear G1 R2;go_wp2_with fail;refine gu (λW=>HS w w.heap.size w1.heap.size g W sH ⟨b,0⟩) ⟨TH.O.alloc _,aK.new w1 76 sH,TG.O.below ((ao _ _).alloc (aj _) _),d2.alloc TF _,z,aj _,TF,by simp at hg;omega⟩ ?_;intro W S0;have H0:=au S0;clear S0 TG TH b1 d2;refine(lW g ⟨b,0⟩ W H0.O.rd).mono ?_;have q1:=ev H0.O.rd 1 z;generalize TI:M.Rd.num ⟨b,0⟩ 1=p1 at q1 ⊢;obtain⟨E,r1⟩:=p1;rintro e v1 ⟨rfl,R1,u1⟩;obtain⟨H1,SY⟩:=bu (H0.O.call R1 u1) TI;clear R1 u1 H0 TI;go_wp2_with fail;refine(lW g r1 v1 H1.O.rd).mono ?_;have q2:=ev H1.O.rd 1 z;generalize TJ:M.Rd.num r1 1=p2 at q2 ⊢;obtain⟨o,r2⟩:=p2;rintro e v2 ⟨rfl,R2,u2⟩;have S2:=H1.O.call R2 u2;have SZ:=au TJ;clear R2 u2 H1 TJ;have c0:=S2.cell 0;have c1:=S2.cell 1;have f0:=S2.frozen 0;have f1:=S2.frozen 1;simp at c0 c1;simp only at q1 q2;have hand:=OU o q2;have H2:=au ((S2.store 0 (ai (decide (128<=o)))).store 1 (J bI (o % 128)));clear S2;go_wp2_with fail;refine gu (λW=>HS w w.heap.size w1.heap.size g W #[ai (decide (128<=o)),J bI (o % 128),J aN 0,J ar 0,J ar 0,ae I 0 0,ai false,J aN 0,ae I 0 0,ae I 0 0] r2) (by simpa using H2.O) ?_;intro W3 S3;have G3:=au S3;clear S3 H2 c0 c1 f0 f1 hand;refine(qH g r2 W3 G3.O.rd).mono ?_;have q3:=ev G3.O.rd 2 z;generalize TM:M.Rd.num r2 2=p3 at q3 ⊢;obtain⟨P,r3⟩:=p3;simp only at q3;rintro e v3 ⟨rfl,R3,u3⟩;have S3:=G3.O.call R3 u3;have Ta:=au TM;clear R3 u3 G3 TM;have c2:=S3.cell 2;have f2:=S3.frozen 2;simp at c2;have H3:=au (S3.store 2 (J aN P));clear S3;go_wp2_with fail;clear c2 f2;refine gu (λW=>HS w w.heap.size w1.heap.size g W #[ai (decide (128<=o)),J bI (o % 128),J aN P,J ar 0,J ar 0,ae I 0 0,ai false,J aN 0,ae I 0 0,ae I 0 0] r3) (by simpa using H3.O) ?_;intro W4 S4;have G4:=au S4;clear S4 H3;refine(kK g r3 W4 G4.O.rd).mono ?_;have q4:=ev G4.O.rd 4 z;generalize TN:M.Rd.num r3 4=p4 at q4 ⊢;obtain⟨T,r4⟩:=p4;simp only at q4;rintro e v4 ⟨rfl,R4,u4⟩;have S4:=G4.O.call R4 u4;have Tb:=au TN;clear R4 u4 G4 TN;have c3:=S4.cell 3;have f3:=S4.frozen 3;simp at c3;have H4:=au (S4.store 3 (J ar T));clear S4;go_wp2_with fail;clear c3 f3;refine gu (λW=>HS w w.heap.size w1.heap.size g W #[ai (decide (128<=o)),J bI (o % 128),J aN P,J ar T,J ar 0,ae I 0 0,ai false,J aN 0,ae I 0 0,ae I 0 0] r4) (by simpa using H4.O) ?_;intro W5 S5;have G5:=au S5;clear S5 H4;refine(kK g r4 W5 G5.O.rd).mono ?_;have q5:=ev G5.O.rd 4 z;generalize TO:M.Rd.num r4 4=p5 at q5 ⊢;obtain⟨x5,r5⟩:=p5;simp only at q5;rintro e v5 ⟨rfl,R5,u5⟩;have S5:=G5.O.call R5 u5;have Tc:=au TO;clear R5 u5 G5 TO;have c4:=S5.cell 4;have f4:=S5.frozen 4;simp at c4;have H5:=au (S5.store 4 (J ar x5));clear S5;have TP:=au q1;go_upto_region 10 with fail;refine aW (λW=>HS w w.heap.size w1.heap.size g W #[ai (decide (128<=o)),J bI (o % 128),J aN P,J ar T,J ar x5,ae I 0 0,ai false,J aN 0,ae I 0 0,ae I 0 0] r5) (by simpa using H5.O) ?_;intro W5 S5;have G5:=au S5;clear S5 H5 c4 f4;go_cut [46] (λUA wc=>UA=ai (decide (E<128)||decide (191<E))/\wc=W5);case first =>
  by_cases h1:E<128
  ·go_wp2_with fail;go_meet;exact⟨by simp[h1],rfl⟩
  ·go_wp2_with fail;go_meet;exact⟨by rw[show decide (E<128)=false from by simpa using h1];first|rfl|simp,rfl⟩
 case rest =>
  obtain⟨rfl,rfl⟩:=hcut;go_upto_if 46 with fail;go_cut [] (λW=>HS w w.heap.size w1.heap.size g W #[ai (decide (128<=o)),J bI (o % 128),J aN P,J ar T,J ar x5,ae I 0 0,ai false,J aN 0,ae I 0 0,ae I 0 0] (if E<128\/191<E then r5.fail 2 else r5));case first =>
   by_cases hf:E<128\/191<E
   ·have D:(decide (E<128)||decide (191<E))=true:=by simpa using hf
    rw[D];have HF:=au hf;clear hf D;go_wp2_with fail;refine(mP g r5 2 _ G5.O.rd).mono ?_;rintro e v6 ⟨rfl,R6,u6⟩;have G6:=au (G5.O.call R6 u6);clear R6;go_wp2_with fail;go_meet;rw[if_pos HF.O];exact G6.O
   ·have D:(decide (E<128)||decide (191<E))=false:=by simpa using hf
    rw[D];have HF:=au hf;clear hf D;go_wp2_with fail;go_meet;rw[if_neg HF.O];exact G5.O
  case rest =>
   have H6:=au hcut;clear hcut G5;generalize TQ:(if E<128\/191<E then r5.fail 2 else r5)=r6 at H6;have Td:=au TQ;clear TQ;have q1:=TP.O;have TR:bits .and bI E 15=E % 16:=bits_mask bI 8 aR tz 4 aR E q1.1 z;have TS:(E % 16).toNat<=15:=z;have TT:E % 16=(((E % 16).toNat:Nat):Int):=z;rw[TT]at TR;generalize hm:(E % 16).toNat=m at TR TS;have HM:=au hm;clear hm TT q1;obtain⟨i0,hi,TV,TW,TX⟩:=cY Tryz.CN;obtain⟨HI,UB,Tx,UC⟩:=cA hi TV TW TX;clear hi TV TW TX;go_wp2_with fail;go_loopw [51] (λi wr=>∃(k:Nat) (L:List Int) (v:Value) (u:M.Rd),i=J bI k/\k<=m/\HS w w.heap.size w1.heap.size g wr #[ai (decide (128<=o)),J bI (o % 128),J aN P,J ar T,J ar x5,v,ai false,J aN 0,ae I 0 0,ae I 0 0] u/\wr.ownsRow w.heap.size 41 1 v k (L.map (J ar))/\(∀x∈L,(dU ar x).wf=true)/\M.jD m r6=(L++(M.jD (m-k) u).1,(M.jD (m-k) u).2)) (λi _=>m-(intOf i).toNat);case atStart=>exact⟨0,[],ae I 0 0,r6,rfl,z,H6.O,⟨rfl,aJ ⟨rfl,rfl⟩⟩,λx hx=>absurd hx dt,dt⟩
   case round =>
    clear H6;obtain⟨k,l,v,u,rfl,hk,S,own,TY,eI⟩:=hrel;obtain⟨A5,c5,rfl⟩:=bA own;obtain⟨G,HO,T8,Ty⟩:=cA S own TY eI;have e5:=S.cell 5;have f5:=S.frozen 5;simp at e5;clear S own TY eI;by_cases UY:k<m
    ·have UD:k+1<=maxLen:=ui;have UE:(k+1)*4<=140737488355328:=z;go_wp2_with fail;go_region_law (first|(rw[if_pos jP];go_simp;go_at_call 50;refine(kK g u _ (by first|exact G.O.rd|exact G.O.drew.rd)).mono ?_;rintro e v7 ⟨rfl,R7,u7⟩;have S7:=(by first|exact G.O.drew.call R7 u7|exact G.O.call R7 u7:HS w w.heap.size w1.heap.size g v7 _ _);have e7:=S7.cell 5;have f7:=S7.frozen 5;simp at e7;have l7:=S7.p.lt;have O7:=Cy (by first|exact HO.O|exact HO.O) u7 (by first|exact G.O.drew.rd.typed|exact G.O.rd.typed) aR;have q7:=ev G.O.rd 4 z;dsimp only)|(refine pU rfl (.tmp 54) (.tmp 57) 74 rfl w.heap.size 41 i0 (J ar 0) 1 4 underlying74 HI.O UB.O Tx.O UC.O rfl aR (ae A5 k c5) k (l.map (J ar)) rfl (O7.alloc _) ⟨v7.heap.size,0,I⟩ 1 1 [J ar (M.Rd.num u 4).1] rfl rfl (LL v7 41 _) one_one UD UE (S7.alloc _).d.size ?_;intro v8 w8 mK g8 _;have S8:=S7.M6 O7 g8;have e8:w8.cell? ⟨w1.heap.size,5,I⟩=Z (ae A5 k c5):=S8.cell 5;have f8:=S8.frozen 5;obtain⟨A8,c8,rfl⟩:=bA mK));all_goals
      have S9:=S8.store 5 (ae A8 (k+1) c8);have O9:=kJ mK (ej mK S8.p aR) 5 (ae A8 (k+1) c8);have Tk:∀y∈l++[(M.Rd.num u 4).1],(dU ar y).wf=true:=λy hy=>by
       rcases bt.1 hy with q|q
       ·exact T8.O y q
       ·simp at q;subst q;exact Ca q7
      have Tl:M.jD m r6=((l++[(M.Rd.num u 4).1])++(M.jD (m-(k+1)) (M.Rd.num u 4).2).1,(M.jD (m-(k+1)) (M.Rd.num u 4).2).2):=by
       rw[Ty.O,show m-k=(m-(k+1))+1 from z,M.jD];simp
      obtain⟨UF,UG,T9,Ua⟩:=cA S9 O9 Tk Tl;clear S9 O9 Tk Tl mK S8 S7 O7 e8 f8 e7 f7 g8 R7 u7;go_wp2_with fail;go_roundw;case rel=>exact⟨k+1,_,_,_,by go_num,z,by simpa using UF.O,by simpa using UG.O,T9.O,Ua.O⟩
      case measure=>simp[intOf];omega
    ·have UH:k=m:=z;subst UH;have eI:=Ty.O;rw[qB]at eI;simp only[M.jD,kE]at eI;have SG:=au eI;clear eI Ty;obtain⟨A7,c7,e7,n7,m7,T7⟩:=TL.own HO.O T8.O;simp only[Value.slice.injEq]at e7;obtain⟨rfl,_,rfl⟩:=e7;have UI:=au T7;clear T7;have q1:=TP.O;obtain⟨D,Tz⟩:=dH (decide (E / 16 % 2=1));obtain⟨pb,TA⟩:=dH (decide (E / 32 % 2=1));have Ub:=(Fv E q1).1;rw[<-Tz]at Ub;have SL:=(Fv E q1).2;rw[<-TA]at SL;obtain⟨Tm,Tn,Uc⟩:=bU Tz TA SL;clear Tz TA q1 SL;have e6:=G.O.cell 6;have f6:=G.O.frozen 6;simp at e6;obtain⟨G7,Ud⟩:=bu (G.O.store 6 (ai D)) (G.O.KD UI.O aR 6 (ai D));clear e5 f5;go_upto_if 66 with fail;refine aW (λW=>HS w w.heap.size w1.heap.size g W #[ai (decide (128<=o)),J bI (o % 128),J aN P,J ar T,J ar x5,ae A5 k c5,ai D,J aN 0,ae I 0 0,ae I 0 0] u/\TU W A5 k l) ⟨by simpa using G7.O,Ud.O⟩ ?_;rintro W7 ⟨S7,U7⟩;obtain⟨K7,KU⟩:=bu S7 U7;clear S7 U7 G7 Ud e6 f6 Ub;go_cut [] (λW=>∃(pr:Int) (ex:Sl),HS w w.heap.size w1.heap.size g W #[ai (decide (128<=o)),J bI (o % 128),J aN P,J ar T,J ar x5,ae A5 k c5,ai D,J aN pr,ae ex.a ex.n ex.c,ae I 0 0] (if D then(M.Rd.take (M.Rd.num (M.Rd.num u 2).2 2).2 (4*(M.Rd.num (M.Rd.num u 2).2 2).1)).2 else u)/\TU W A5 k l/\ex.B W (if D then(M.Rd.take (M.Rd.num (M.Rd.num u 2).2 2).2 (4*(M.Rd.num (M.Rd.num u 2).2 2).1)).1 else[])/\pr=(if D then(M.Rd.num u 2).1 else 0)/\(0<=pr/\pr<=65535)/\(if D then(M.Rd.take (M.Rd.num (M.Rd.num u 2).2 2).2 (4*(M.Rd.num (M.Rd.num u 2).2 2).1)).1 else[]).length<=200);case first =>
      cases D
      ·go_wp2_with fail;go_meet;exact⟨0,.nil,K7.O,KU.O,Sl.vG,rfl,z,dt⟩
      ·go_wp2_with fail;refine(qH g u _ K7.O.rd).mono ?_;rintro e v8 ⟨rfl,R8,u8⟩;have q8:=ev K7.O.rd 2 z;have S8:=K7.O.call R8 u8;have U8:=K7.O.tl KU.O u8 aR;have c7:=S8.cell 7;have f7:=S8.frozen 7;simp at c7;obtain⟨G8,Te⟩:=bu (S8.store 7 (J aN (M.Rd.num u 2).1)) (S8.KD U8 aR 7 (J aN (M.Rd.num u 2).1));clear S8 U8 R8 u8;generalize h8:M.Rd.num u 2=p8 at q8 G8 Te ⊢;obtain⟨x8,r8⟩:=p8;simp only at q8 G8 Te;have SM:=au h8;clear h8;go_wp2_with fail;refine gu (λW=>HS w w.heap.size w1.heap.size g W #[ai (decide (128<=o)),J bI (o % 128),J aN P,J ar T,J ar x5,ae A5 k c5,ai true,J aN x8,ae I 0 0,ae I 0 0] r8/\TU W A5 k l) ⟨by simpa using G8.O,Te.O⟩ ?_;rintro W8 ⟨S8,U8⟩;obtain⟨K8,UJ⟩:=bu S8 U8;clear S8 U8 G8 Te c7 f7;refine(qH g r8 _ K8.O.rd).mono ?_;rintro e v9 ⟨rfl,R9,u9⟩;have q9:=ev K8.O.rd 2 z;obtain⟨S9,U9⟩:=bu (K8.O.call R9 u9) (K8.O.tl UJ.O u9 aR);clear R9 u9;generalize h9:M.Rd.num r8 2=p9 at q9 S9 ⊢;obtain⟨x9,r9⟩:=p9;simp only at q9 S9;have Tf:=au h9;clear h9;have UZ:x9<=65535:=q9.2;have U0:0<=x9:=q9.1;have l9:r9.left.length<=200:=by
        refine nC Tf.O (nC SM.O ?_);have:=CE k r6;rw[SG.O]at this;refine aP this ?_;rw[<-Td.O];have l5:=nC Tc.O (nC Tb.O (nC Ta.O (nC SZ.O (nC SY.O (show b.length<=200 from by have:=HL.O;omega)))));split
        ·exact aP (xD _ _) l5
        ·exact l5
       go_wp2_with fail;refine(Cu g r9 (4*x9) _ S9.O.rd z z).mono ?_;rintro e v10 ⟨⟨Tg,Th,Ti,rfl,Ue,UK,UL,UM⟩,Uf,u10⟩;have SJ:=S9.O.call Uf u10;have Ug:=S9.O.tl U9.O u10 aR;have c8:=SJ.cell 8;have f8:=SJ.frozen 8;simp at c8;obtain⟨UN,Uh,Ui⟩:=bU (SJ.store 8 (ae Tg Th Ti)) (SJ.KD Ug aR 8 (ae Tg Th Ti)) (SJ.KD Ue aR 8 (ae Tg Th Ti));clear SJ Ug Uf u10 Ue S9 U9;go_wp2_with fail;go_meet;refine⟨x8,⟨Tg,Th,Ti⟩,?_,Uh.O,?_,?_,q8,?_⟩
       ·simp only[if_true,SM.O,Tf.O];simpa using UN.O
       ·simp only[if_true,SM.O,Tf.O];exact⟨Ui.O,UK,UL,UM⟩
       ·simp only[if_true,SM.O]
       ·simp only[if_true,SM.O,Tf.O];exact aP (xc _ _) l9
     case rest =>
      obtain⟨pr,ex,S,U,X,Uj,Uk,Ul⟩:=hcut;have Um:=au Uj;clear Uj;have l10:(if D then(M.Rd.take (M.Rd.num (M.Rd.num u 2).2 2).2 (4*(M.Rd.num (M.Rd.num u 2).2 2).1)).2 else u).left.length<=200:=by
       have lk:u.left.length<=200:=by
        have:=CE k r6;rw[SG.O]at this;refine aP this ?_;rw[<-Td.O];have l5:=nC Tc.O (nC Tb.O (nC Ta.O (nC SZ.O (nC SY.O (show b.length<=200 from by have:=HL.O;omega)))));split
        ·exact aP (xD _ _) l5
        ·exact l5
       split
       ·exact aP (take_left _ _) (aP (take_left _ _) (aP (take_left _ _) lk))
       ·exact lk
      generalize To:(if D then(M.Rd.take (M.Rd.num (M.Rd.num u 2).2 2).2 (4*(M.Rd.num (M.Rd.num u 2).2 2).1)).2 else u)=K at S l10;generalize hex:(if D then(M.Rd.take (M.Rd.num (M.Rd.num u 2).2 2).2 (4*(M.Rd.num (M.Rd.num u 2).2 2).1)).1 else[])=fp at X Ul;obtain⟨Tp,Un,Q,SN,KX⟩:=gY To hex S U X;clear To hex S U X K7 KU;go_wp2_with fail;refine(lr g K _ Q.O.rd).mono ?_;rintro e v11 ⟨rfl,Uo⟩;have TC:=Uo.symm;subst TC;go_wp2_with fail;refine(Cu g K K.left.length _ Q.O.rd z z).mono ?_;rintro e v12 ⟨⟨t,N,C,rfl,aI,a12,Up,z12⟩,Uq,u12⟩;have F:=Q.O.call Uq u12;have SO:=Q.O.tl SN.O u12 aR;have SP:=KX.O.map (λq=>Q.O.tl q u12 aR);clear Uq u12 Q SN KX;have df:=au (aI.len);generalize yk:M.Rd.take K K.left.length=UO at F aI df;obtain⟨rest,R⟩:=UO;simp only at F aI df;have U1:N<=200:=by
       have e1:rest=(M.Rd.take K K.left.length).1:=by rw[yk]
       have e2:=qP K K.left.length;rw[<-e1]at e2;have:=df.O;omega
      have Tq:=au yk;clear yk;have c9:=F.cell 9;have f9:=F.frozen 9;simp at c9;obtain⟨Ur,Tr,Ts,Tt⟩:=cA (F.store 9 (ae t N C)) (F.KD SO aR 9 (ae t N C)) (F.KD aI aR 9 (ae t N C)) (SP.map (λq=>F.KD q aR 9 (ae t N C)));clear F SO aI SP;have UP:=Uc.O;go_upto_if 84 with fail;refine aW (λW=>HS w w.heap.size w1.heap.size g W #[ai (decide (128<=o)),J bI (o % 128),J aN P,J ar T,J ar x5,ae A5 k c5,ai D,J aN pr,ae ex.a ex.n ex.c,ae t N C] R/\TU W A5 k l/\ex.B W fp/\TB W t N rest) ⟨by simpa using Ur.O,Tr.O,Tt.O,Ts.O⟩ ?_;rintro U2 ⟨F,SO,SP,aI⟩;obtain⟨Q,KU,KX,KT⟩:=cA F SO SP aI;clear F SO SP aI Ur Tr Tt Ts c9 f9 UP;go_cut [] (λW=>∃(y:Sl),HS w w.heap.size w1.heap.size g W #[ai (decide (128<=o)),J bI (o % 128),J aN P,J ar T,J ar x5,ae A5 k c5,ai D,J aN pr,ae ex.a ex.n ex.c,ae y.a y.n y.c] (if pb then(match M.sS rest with | some _=>R | none=>R.fail 2) else R)/\TU W A5 k l/\ex.B W fp/\y.B W (if pb then(match M.sS rest with | some gX=>gX | none=>[]) else rest)/\(if pb then(match M.sS rest with | some gX=>gX | none=>[]) else rest).length<=200);case first =>
       cases pb
       ·go_wp2_with fail;go_meet;exact⟨⟨t,N,C⟩,Q.O,KU.O,KX.O,⟨KT.O,a12,Up,z12⟩,by have:=df.O;simp;omega⟩
       ·have d9:=Q.O.cell 9;have g9:=Q.O.frozen 9;simp at d9;go_wp2_with fail;refine(IV t N C rest _ KT.O z a12).mono ?_;cases hu:M.sS rest with
        |none =>
         rw[show pT t C rest=aB #[ae I 0 0,ai false] from by unfold pT;rw[hu]];have HU:=au hu;clear hu;rintro e UQ ⟨rfl,hv⟩;have SQ:=hv.symm;subst SQ;go_wp2_with fail;refine(mP g R 2 _ Q.O.rd).mono ?_;rintro e U3 ⟨rfl,Us,u14⟩;have SK:=Q.O.call Us u14;have Ut:=Q.O.tl KU.O u14 aR;have Uu:=KX.O.map (λq=>Q.O.tl q u14 aR);have h9:=SK.cell 9;have k9:=SK.frozen 9;simp at h9;obtain⟨Tj,SH,SI⟩:=bU (SK.store 9 (ae I 0 0)) (SK.KD Ut aR 9 (ae I 0 0)) (Uu.map (λq=>SK.KD q aR 9 (ae I 0 0)));clear SK Ut Uu Us u14 d9 g9;go_wp2_with fail;go_meet;exact⟨.nil,by simpa[HU.O,Sl.nil]using Tj.O,SH.O,SI.O,by simpa[HU.O]using Sl.vG,by simp[HU.O]⟩
        |some gX =>
         obtain⟨z1,z2⟩:=Ft hu;rw[show pT t C rest=aB #[ae t gX.length C,ai true] from by unfold pT;rw[hu]];obtain⟨HU,Tx⟩:=bu hu z1;clear hu z1;rintro e UQ ⟨rfl,hv⟩;have SQ:=hv.symm;subst SQ;have zl:gX.length<=N:=by have:=df.O;omega
         have TZ:=KT.O.pre gX.length zl;rw[<-Tx.O]at TZ;obtain⟨Tj,SH,SI,Tu⟩:=cA (Q.O.store 9 (ae t gX.length C)) (Q.O.KD KU.O aR 9 (ae t gX.length C)) (KX.O.map (λq=>Q.O.KD q aR 9 (ae t gX.length C))) (Q.O.KD TZ aR 9 (ae t gX.length C));clear TZ;generalize Uv:gX.length=zn at zl Tj SH SI Tu ⊢;have UR:=au Uv;clear Uv;go_wp2_with fail;go_meet;exact⟨⟨t,zn,C⟩,by simpa[HU.O]using Tj.O,SH.O,SI.O,by simpa[HU.O]using(⟨Tu.O,aP zl a12,Up,z12⟩:Sl.B _ ⟨t,zn,C⟩ gX),by have:=UR.O;simp[HU.O];omega⟩
      case rest =>
       obtain⟨y,S,U,X,Y,US⟩:=hcut;generalize Tv:(if pb then(match M.sS rest with | some _=>R | none=>R.fail 2) else R)=SU at S;generalize Tw:(if pb then(match M.sS rest with | some gX=>gX | none=>[]) else rest)=cF at Y US;have E1:M.h1 b=(E,r1):=SY.O;have E2:M.h2 b=(o,r2):=by unfold M.h2;rw[E1];exact SZ.O
       have E3:M.h3 b=(P,r3):=by unfold M.h3;rw[E2];exact Ta.O
       have E4:M.h4 b=(T,r4):=by unfold M.h4;rw[E3];exact Tb.O
       have E5:M.h5 b=(x5,r5):=by unfold M.h5;rw[E4];exact Tc.O
       have E6:M.h6 b=r6:=by unfold M.h6;rw[E1,E5];exact Td.O
       have E7:M.h7 b=(l,u):=by unfold M.h7;rw[E1,E6];simp only;rw[HM.O];exact SG.O
       have EH:M.JX b=D:=by unfold M.JX;rw[E1];exact Tm.O.symm
       have ER:M.hR b=K:=by unfold M.hR M.xx M.h9 M.h8;rw[EH,E7];exact Tp.O
       have EX:M.GJ b=fp:=by unfold M.GJ M.xx M.h9 M.h8;rw[EH,E7];exact Un.O
       have EP:M.td b=pr:=by unfold M.td M.h8;rw[EH,E7];exact Um.O.symm
       have TD:M.yk b=(rest,R):=by unfold M.yk;rw[ER];exact Tq.O
       have SV:M.N9 b=pb:=by unfold M.N9;rw[E1];exact Tn.O.symm
       have Uw:M.KG b=SU:=by unfold M.KG;rw[SV,TD];exact Tv
       have EY:M.zN b=cF:=by unfold M.zN;rw[SV,TD];exact Tw
       have Ux:M.wH b=⟨decide (128<=o),o % 128,P,T,x5,l,D,pr,fp,cF⟩:=by unfold M.wH;rw[E2,E3,E4,E5,E7,EH,EP,EX,EY]
       have Uy:M.eP b=if SU.end_≠0 then(.zero,SU.end_) else(⟨decide (128<=o),o % 128,P,T,x5,l,D,pr,fp,cF⟩,0):=by unfold M.eP;rw[if_neg (lE HL.O),Uw,Ux]
       obtain⟨SW,j,SN,UT,UU⟩:=gY Uy S U X Y;clear E1 E2 E3 E4 E5 E6 E7 EH ER EX EP TD SV Uw EY Ux Uy Tv Tw S U X Y Q KU KX KT SG Td HM SY SZ Ta Tb Tc Tq Um Tp Un Tm Tn Uc;go_wp2_with fail;refine(qy g SU _ j.O.rd).mono ?_;rintro e Va ⟨rfl,hv⟩;have SQ:=hv.symm;subst SQ;generalize Uz:SU.end_=en at SW ⊢;by_cases h0:en=0
       ·subst h0;have H:=SW.O;rw[if_neg dt]at H;have HF:=au H;clear H SW Uz;have z0:=j.O.cell 0;have z1:=j.O.cell 1;have z2:=j.O.cell 2;have z3:=j.O.cell 3;have z4:=j.O.cell 4;have z5:=j.O.cell 5;have z6:=j.O.cell 6;have z7:=j.O.cell 7;have z8:=j.O.cell 8;have z9:=j.O.cell 9;simp at z0 z1 z2 z3 z4 z5 z6 z7 z8 z9;go_wp2_with (go_loud (refine jb _ rfl (.tmp 2) (.tmp 103) 76 rfl w.heap.size 0 76 sH rfl (uA ⟨decide (128<=o),o % 128,P,T,x5,l,D,pr,fp,cF⟩ ⟨A5,k,c5⟩ ex y) rfl Tryz.zf j.O.r (lO rfl) (Lv _ _ _ _) ?_;intro SX TE u16));have f:aK SX w.heap.size 76 (uA ⟨decide (128<=o),o % 128,P,T,x5,l,D,pr,fp,cF⟩ ⟨A5,k,c5⟩ ex y):=by
         have e:de sH 0 (uA ⟨decide (128<=o),o % 128,P,T,x5,l,D,pr,fp,cF⟩ ⟨A5,k,c5⟩ ex y).toList=uA ⟨decide (128<=o),o % 128,P,T,x5,l,D,pr,fp,cF⟩ ⟨A5,k,c5⟩ ex y:=Bf _ _ _ _;rw[<-e];exact TE
        have t0:=f.cell 0;have t1:=f.cell 1;have t2:=f.cell 2;have t3:=f.cell 3;have t4:=f.cell 4;have t5:=f.cell 5;have t6:=f.cell 6;have t7:=f.cell 7;have t8:=f.cell 8;have t9:=f.cell 9;simp at t0 t1 t2 t3 t4 t5 t6 t7 t8 t9;refine ax (v:=aB #[Pq ⟨decide (128<=o),o % 128,P,T,x5,l,D,pr,fp,cF⟩ ⟨A5,k,c5⟩ ex y,J V 0]) (by simp[aV,results16,go_sem,t0,t1,t2,t3,t4,t5,t6,t7,t8,t9]) rfl ?_;have d16:aC w SX:=j.O.d.trans (u16.below j.O.d.size (λi q=>by cases q;exact aj _));rw[HF.O];exact⟨⟨⟨A5,k,c5⟩,ex,y,rfl,⟨⟨SN.O.one u16 j.O.r aR,n7,m7,wo HO.O⟩,UT.O.map (λq=>q.one u16 j.O.r aR),UU.O.map (λq=>q.one u16 j.O.r aR),by simp only;omega,q3,q4,q5,Uk,⟨by have:=SN.O.len;simp only;omega,by simp only;omega,by simp only;omega⟩⟩⟩,d16⟩
       ·have Vb:(en==0)=false:=by simpa using h0
        have H:=SW.O;rw[if_pos h0]at H;have HF:=au H;clear H SW Uz;go_wp2_with (refine jb _ rfl (.tmp 2) (.tmp 101) 76 rfl w.heap.size 0 76 sH rfl (uA .zero .nil .nil .nil) rfl Tryz.zf j.O.r (lO rfl) (Lv _ _ _ _) ?_;intro SX TE u16);have f:aK SX w.heap.size 76 (uA .zero .nil .nil .nil):=by
         have e:de sH 0 (uA .zero .nil .nil .nil).toList=uA .zero .nil .nil .nil:=Bf _ _ _ _;rw[<-e];exact TE
        have t0:=f.cell 0;have t1:=f.cell 1;have t2:=f.cell 2;have t3:=f.cell 3;have t4:=f.cell 4;have t5:=f.cell 5;have t6:=f.cell 6;have t7:=f.cell 7;have t8:=f.cell 8;have t9:=f.cell 9;simp at t0 t1 t2 t3 t4 t5 t6 t7 t8 t9;refine ax (v:=aB #[Pq .zero .nil .nil .nil,J V en]) (by simp[aV,results16,go_sem,t0,t1,t2,t3,t4,t5,t6,t7,t8,t9]) rfl ?_;have d16:aC w SX:=j.O.d.trans (u16.below j.O.d.size (λi q=>by cases q;exact aj _));rw[HF.O];exact⟨⟨.nil,.nil,.nil,rfl,Is _⟩,d16⟩
end
section
open Go.Maps (Keyed)
abbrev pv(x:Int×Int):Value:=cg #[J V x.1,J V x.2]
def Gi(x:Int×Int):Prop:=(dU V x.1).wf=true/\(dU V x.2).wf=true
def Qy(x:Int×Int):Lit:=.string (keyBytes [.int .i64 x.1,.int .i64 x.2])
def laid:laidOutB af=true:=cC
def PK:af.cellsOf 3=1:=cC
def OX:∃m,af.types.size=m+1:=⟨af.types.size-1,by have:0<af.types.size:=of_decide_eq_true cC;omega⟩
def keyOf_pair{k:TypeId}{b:Array Field}(hu:af.underlying k=Z (.struct b))(a:b.toList.map (λf=>(f.type,f.offset))=[(3,0),(3,1)])(d:b.all (·.name != "_")=true)(e:af.keyType k=true)(c:af.cellsOf k=2)
  (x:Int×Int) (h:Gi x):keyOf af k (pv x)=Z (Qy x):=by
 obtain⟨m,hm⟩:=OX;obtain⟨h1,h2⟩:=h;unfold keyOf;simp only[hu];rw[if_pos (by simp[e,Value.formed,hu,c]),hm];unfold Program.keyLits;simp only[hu,gW];rw[if_pos ⟨by rw[c];rfl,d⟩];obtain⟨f0,f1,he⟩:∃f0 f1,b.toList=[f0,f1]:=by
  match g:b.toList,a with
  |[f0,f1],_=>exact⟨f0,f1,rfl⟩
  |[],a=>simp at a
  |[_],a=>simp at a
  |_::_::_::_,a=>simp at a
 rw[he]at a ⊢;simp only[eV,jk,List.cons.injEq,Prod.mk.injEq,and_true]at a;obtain⟨⟨a1,a2⟩,b1,b2⟩:=a;rw[List.mapM_cons,List.mapM_cons,List.mapM_nil,a1,a2,b1,b2];simp[PK,Program.keyLits,underlying3,h1,h2,Qy]
def FX(x y:Int×Int)(h:pv x=pv y):x=y:=by
 simp at h;exact Prod.ext h.1 h.2
def Qx:Keyed af 40:=Keyed.of_law (deep_law_laid laid (m:=2) z (of_decide_eq_true cC) cC cC)
def Qw:Keyed af 91:=Keyed.of_law (deep_law_laid laid (m:=2) z (of_decide_eq_true cC) cC cC)
def Pz:Keyed af 210:=Keyed.of_law (deep_law_laid laid (m:=2) z (of_decide_eq_true cC) cC cC)
def Pt:∃a,af.underlying 40=Z (.struct a)/\a.toList.map (λf=>(f.type,f.offset))=[(3,0),(3,1)]/\a.all (·.name != "_")=true:=⟨_,underlying40,cC,cC⟩
def Ps:∃a,af.underlying 91=Z (.struct a)/\a.toList.map (λf=>(f.type,f.offset))=[(3,0),(3,1)]/\a.all (·.name != "_")=true:=⟨_,underlying91,cC,cC⟩
def NJ:∃a,af.underlying 210=Z (.struct a)/\a.toList.map (λf=>(f.type,f.offset))=[(3,0),(3,1)]/\a.all (·.name != "_")=true:=⟨_,underlying210,cC,cC⟩
def KW:Keys (Int×Int):=⟨40,Qx,pv,Qy,Gi,by
 obtain⟨a,h1,h2,h3⟩:=Pt
 exact keyOf_pair h1 h2 h3 cC cC⟩
def KO:Keys (Int×Int):=⟨91,Qw,pv,Qy,Gi,by
 obtain⟨a,h1,h2,h3⟩:=Ps
 exact keyOf_pair h1 h2 h3 cC cC⟩
def KB:Keys (Int×Int):=⟨210,Pz,pv,Qy,Gi,by
 obtain⟨a,h1,h2,h3⟩:=NJ
 exact keyOf_pair h1 h2 h3 cC cC⟩
def KI:Keys Int:=⟨3,Go.Maps.int_keyed underlying3,J V,dU V,λx=>(dU V x).wf=true,λx h=>Go.Maps.keyOf_int_mk underlying3 h⟩
def KU:Keys Int:=⟨41,Go.Maps.int_keyed underlying41,J ar,dU ar,λx=>(dU ar x).wf=true,λx h=>Go.Maps.keyOf_int_mk underlying41 h⟩
def rB(x y:Int)(h:KI.enc x=KI.enc y):x=y:=by simpa[KI]using h
def Hz(x y:Int)(h:KU.enc x=KU.enc y):x=y:=by simpa[KU]using h
def Nc(x y:Int×Int)(h:KW.enc x=KW.enc y):x=y:=FX x y h
def xM(x y:Int×Int)(h:KO.enc x=KO.enc y):x=y:=FX x y h
def ue(x y:Int×Int)(h:KB.enc x=KB.enc y):x=y:=FX x y h
def Ig{n:Int}(h:-1000000000000<=n)(a:n<=1000000000000):(dU V n).wf=true:=by
 simp[pD,jI,jJ,fR,gM];omega
def ir{x:Int×Int}(h:-1000000000000<=x.1/\x.1<=1000000000000)(a:-1000000000000<=x.2/\x.2<=1000000000000):Gi x:=⟨Ig h.1 h.2,Ig a.1 a.2⟩
end
section
def nf{P:jB}(w:aw)(t e ty:TypeId)(a:Value)(ht:P.underlying t=Z (.slice e))(j:∀w,(ja e).run P w=.ok a w)(b off c:Nat)(te:TypeId)(dx:Array Value)(k:aK w b te dx)(l:off+a.cells.size<=dx.size)(h1:∀v∈a.cells.toList,v.oneCell'=true) :
  (lD #[t] ty #[ae (Z ⟨b,off,I⟩) 1 c]).run P w=.ok (aB #[]) (w.setRow b (de dx off a.cells.toList)):=by
 have g:(fM a.cells 1).toList=a.cells.toList:=by
  simp only[fM];apply List.ext_getElem
  ·simp
  ·intro i m h;simp only[Array.length_toList]at h;simp[fZ h,getElem!_pos a.cells i h]
 have d:=oF P b off te a.cells.toList 0 dx w k (by simpa using l) h1;rw[iw]at d;have f:(storeCells ⟨b,off,I⟩ a.cells.toList).run P w=.ok () (w.setRow b (de dx off a.cells.toList)):=d;simp[lD,oE ht,j,g,f]
def eB{w:aw}{g pl:Nat}{t te:TypeId}{cs dx S:Array Value}(h:aK w g t cs)(hp:aK w pl te dx)(a:g≠pl):aK (w.setRow pl S) g t cs:=h.dW (fW w pl S) a
def gm{w:aw}{pl:Nat}{te:TypeId}{dx S:Array Value}(hp:aK w pl te dx):aK (w.setRow pl S) pl te S:=kQ w pl dx S te (0,0) hp
def ph:Array Value->Nat->List Value->Array Value
 |dx,_,[]=>dx
 |dx,off,v::vs=>ph (dx.setIfInBounds off v) (off+1) vs
def AX:∀(vs:List Value) (dx:Array Value) (off:Nat),(ph dx off vs).size=dx.size
 |[],_,_=>rfl
 |v::vs,dx,off=>by rw[ph,AX vs,dh]
def uv:∀(vs:List Value) (dx:Array Value) (off j:Nat),off+vs.length<=dx.size->(ph dx off vs)[j]? = if off<=j/\j<off+vs.length then vs[j-off]? else dx[j]?
 |[],dx,off,j,_=>by rw[ph,if_neg dt]
 |v::vs,dx,off,j,h=>by
  rw[List.length_cons]at h;rw[ph,uv vs _ _ _ (by rw[dh];omega)];by_cases h1:j=off
  ·subst h1;rw[if_neg z,if_pos ⟨aj _,dt⟩,Array.getElem?_setIfInBounds_self_of_lt z,qB];rfl
  ·rw[Array.getElem?_setIfInBounds_ne z];by_cases h2:off+1<=j/\j<off+1+vs.length
   ·rw[if_pos h2,if_pos ⟨z,dZ⟩,show j-off=(j-(off+1))+1 from z,List.getElem?_cons_succ]
   ·rw[if_neg h2,if_neg dZ]
def mx{dx:Array Value}{off:Nat}{vs:List Value}(h:off+vs.length<=dx.size):ph dx off vs=de dx off vs:=by
 apply Array.ext_getElem?;intro j;rw[uv _ _ _ _ h];split
 ·rename_i q;have:=qG h (j:=j-off) z;rw[show off+(j-off)=j from by omega]at this;exact this.symm
 ·rename_i q;exact(kT h z).symm
def du{w w':aw}{base:Nat}{e:TypeId}{size n:Nat}{v:Value}{xs:List Value}{F:Nat->Prop}(h:w.ownsRow base e size v n xs)(u:cS F w w')(hF:∀i,v.ownBlock=Z i->¬F i):w'.ownsRow base e size v n xs:=by
 obtain⟨h1,h2⟩:=h;refine⟨h1,h2.imp id ?_⟩;rintro⟨g,cap,dx,a,b,c,d⟩;have f:aK w g e dx:=c;exact⟨g,cap,dx,a,b,f.dW u (hF g (by subst a;rfl)),d⟩
def fB(w:aw)(t:TypeId)(cs:Array Value):∀j u,cs.toList[j]? = Z u->(w.alloc (.cells cs t)).cell? ((⟨w.heap.size,0,I⟩:Addr).add j)=Z u:=by
 intro j u hu;have e:(⟨w.heap.size,0,I⟩:Addr).add j=⟨w.heap.size,j,I⟩:=by unfold Addr.add;split<;>simp_all
 rw[e,(aK.new w t cs).cell];simpa using hu
def RP(k cap first:Nat)(jt:Array Value)(q:List (List Value)):Prop:=∀i x,q[i]? = Z x->∀j,j<k->jt[((first+i) % cap)*k+j]? = x[j]?
def Lu{first cap i:Nat}(a:first<cap)(h0:0<i)(b:i<cap):(first+i) % cap≠first:=by
 rcases iL (first+i) cap with h|h
 ·rw[fZ h];omega
 ·rw[rD h,fZ z];omega
def Jo{first cap i j:Nat}(b:first<cap)(c:j<i)(d:i<cap):(first+j) % cap≠(first+i) % cap:=by
 rcases iL (first+i) cap with h|h
 ·rw[fZ h,fZ z];omega
 ·rw[rD h,fZ (z:first+i-cap<cap)];rcases iL (first+j) cap with a|a
  ·rw[fZ a];omega
  ·rw[rD a,fZ z];omega
def BP{p r k j:Nat}(h:p≠r)(a:j<k):p*k+j<r*k\/r*k+k<=p*k+j:=by
 rcases Nat.lt_or_gt_of_ne h with q|q
 ·left;have:(p+1)*k<=r*k:=kN k q;rw[jG]at this;omega
 ·right;have:(r+1)*k<=p*k:=kN k q;rw[jG]at this;omega
def ll{p cap k:Nat}(h:p<cap):p*k+k<=cap*k:=by
 have:(p+1)*k<=cap*k:=kN k h;rw[jG]at this;omega
def RP.take{k cap first:Nat}{jt:Array Value}{x:List Value}{q:List (List Value)}(h:RP k cap first jt (x::q))(a:first<cap)(d:q.length<cap)(f:jt.size=cap*k){zs:List Value}(c:zs.length=k) :
  RP k cap ((first+1) % cap) (de jt (first*k) zs) q:=by
 intro i y hy j b;have g:i<q.length:=(aS.1 hy).1;have e:((first+1) % cap+i) % cap=(first+(i+1)) % cap:=by rw[Nat.mod_add_mod];congr 1;omega
 have hr:=ll (k:=k) a;rw[e,kT z (by rw[c];exact BP (Lu a z z) b)];exact h (i+1) y (by simpa using hy) j b
def RP.push{k cap first:Nat}{jt:Array Value}{x:List Value}{q:List (List Value)}(h:RP k cap first jt q)(c:first<cap)(d:q.length<cap)(f:jt.size=cap*k)(e:x.length=k) :
  RP k cap first (de jt (((first+q.length) % cap)*k) x) (q++[x]):=by
 intro i y hy j b;have hr:=ll (k:=k) (Nat.mod_lt (first+q.length) (z:0<cap));rcases Nat.lt_trichotomy i q.length with a|a|a
 ·rw[kT z (by rw[e];exact BP (Jo c a d) b)];rw[dk a]at hy;exact h i y hy j b
 ·subst a;rw[dG (aj _),qB]at hy;simp at hy;subst hy;rw[qG z z]
 ·rw[fx dZ]at hy;cases hy
structure RingM(tr te:TypeId)(k:Nat)(w:aw)(g pl cap:Nat)(q:List (List Value)):Prop where
 ex:∃(first:Nat) (jt:Array Value) (n4 n5 n6 n7:Int),first<cap/\aK w g tr #[ae (Z ⟨pl,0,I⟩) cap cap,J V first,J V q.length,ai false,J V n4,J V n5,J V n6,J V n7]/\aK w pl te jt/\jt.size=cap*k/\RP k cap first jt q
 le:q.length<=cap
 one:1<=cap
 aT:cap<=8
 wf:∀x∈q,x.length=k/\∀u∈x,u.oneCell'=true
def jK(g pl:Nat):Nat->Prop:=λi=>i=g\/i=pl
section
variable {tr te:TypeId} {k:Nat} {w w':aw} {g pl cap:Nat} {q:List (List Value)}
def RingM.cw(h:RingM tr te k w g pl cap q):∃cs jt,aK w g tr cs/\aK w pl te jt:=by obtain⟨first,jt,n4,n5,n6,n7,_,h1,h2,_⟩:=h.ex;exact⟨_,_,h1,h2⟩
def RingM.lt(h:RingM tr te k w g pl cap q):g<w.heap.size/\pl<w.heap.size:=by obtain⟨_,_,h1,h2⟩:=h.cw;exact⟨h1.lt,h2.lt⟩
def RingM.typed(h:RingM tr te k w g pl cap q):Typed w (jK g pl) [tr,te]:=by
 obtain⟨cs,jt,h1,h2⟩:=h.cw;rintro i (rfl|rfl)
 ·exact⟨tr,cs,dt,h1⟩
 ·exact⟨te,jt,dt,h2⟩
def RingM.dW{F:Nat->Prop}(h:RingM tr te k w g pl cap q)(u:cS F w w')(hg:¬F g)(hp:¬F pl):RingM tr te k w' g pl cap q:=by
 obtain⟨first,jt,n4,n5,n6,n7,a,h1,h2,h3⟩:=h.ex;exact⟨⟨first,jt,n4,n5,n6,n7,a,h1.dW u hg,h2.dW u hp,h3⟩,h.le,h.one,h.aT,h.wf⟩
def RingM.tc{F:Nat->Prop}{ts:List TypeId}(h:RingM tr te k w g pl cap q)(u:cS F w w')(T:Typed w F ts)(h1:tr∉ts)(h2:te∉ts):RingM tr te k w' g pl cap q:=by
 obtain⟨first,jt,n4,n5,n6,n7,a,b1,b2,h3⟩:=h.ex;exact⟨⟨first,jt,n4,n5,n6,n7,a,b1.typed u T h1,b2.typed u T h2,h3⟩,h.le,h.one,h.aT,h.wf⟩
def RingM.dS(h:RingM tr te k w g pl cap q){p:Addr}(hg:p.block≠g)(hp:p.block≠pl)(u:Value):RingM tr te k (w.setCell p u) g pl cap q:=
 h.dW (F:=One p.block) (cS.setCell (F:=One p.block) (cS.refl _ w) (aJ rfl) u) (λe=>hg e.symm) (λe=>hp e.symm)
def RingM.drew(h:RingM tr te k w g pl cap q):RingM tr te k w.drew g pl cap q:=h.dW (F:=cr) (cS.refl _ w).drew id id
def RingM.drewN(h:RingM tr te k w g pl cap q)(n:Nat):RingM tr te k (w.drewN n) g pl cap q:=h.dW (F:=cr) ((cS.refl _ w).drewN n) id id
def RingM.alloc(h:RingM tr te k w g pl cap q)(o:Obj):RingM tr te k (w.alloc o) g pl cap q:=h.dW (F:=cr) ((cS.refl _ w).alloc o) id id
def RingM.below(h:RingM tr te k w g pl cap q)(u:aC w w'):RingM tr te k w' g pl cap q:=h.dW (F:=cr) (.bn u) id id
end
end
section
variable {P:jB} (w:aw)
def zh(base:Nat)(t ty e:TypeId)(i:pO)(p:Value)(size bytes:Nat)(ht:P.underlying t=Z (.slice e))(B:P.info? e=Z i)(E:i.zero=Z p)
  (k:i.size=size) (q:i.bytes=bytes) (F:p.cells.size=size) (G:0<size)
  (v:Value) (n:Nat) (xs:List Value) (h:w.ownsRow base e size v n xs)
  (a:Addr) (m c:Nat) (iX:List Value) (r:iX.length=m*size) (b:∀j u,iX[j]? = Z u->w.cell? (a.add j)=Z u) (h1:∀u∈iX,u.oneCell'=true)
  (s:n+m<=maxLen) (d:(n+m)*bytes<=140737488355328) (o:base<=w.heap.size) :
  ∃x w',(qe #[t,t] ty #[v,ae (Z a) m c]).run P w=.ok x w'/\w'.ownsRow base e size x (n+m) (xs++iX)/\w.grownBy w' v.ownBlock/\∀j,x.ownBlock=Z j->v.ownBlock=Z j\/w.heap.size<=j:=by
 obtain⟨x,w',hr,h2,h3,h4⟩:=run_append_own (P:=P) w base t ty e i p size bytes ht B E k q F G v n xs h a m c iX r b h1 s d o;refine⟨x,w',hr,h2,h3,?_⟩;subst k;subst q
 have C:n+m<=9223372036854775807:=by simp only[maxLen]at s;omega
 intro j D;rcases h.2 with⟨rfl,rfl⟩ | ⟨g,cap,dx,rfl,M,hg,N,Q,H,K⟩
 ·by_cases hm:m=0
  ·have:=(h4.2 ⟨rfl,hm⟩);subst this;cases D
  ·have f:=run_append_nil (P:=P) w t ty e i p ht B E a m c iX r b z z (by have R:=d;simp only[cO]at R;omega);rw[hr]at f;injection f with y L
   subst y;right;simp[eR]at D;omega
 ·by_cases l:n+m<=cap
  ·have A:n*i.size+iX.length<=dx.size:=by rw[r,H,<-jG];exact kN _ l
   have f:=run_append_room (P:=P) w t ty e i ht B g n cap dx hg a m c iX r b h1 l A;rw[hr]at f;injection f with y L
   subst y;left;exact D
  ·have bD:∀j u,xs[j]? = Z u->w.cell? ((⟨g,0,I⟩:Addr).add j)=Z u:=h.cells (g:=g) rfl;have f:=run_append_grow (P:=P) w t ty e i p ht B E ⟨g,0,I⟩ n cap xs h.1 bD a m c iX r b z z (rG z d);rw[hr]at f;injection f with y L
   subst y;right;simp[eR]at D;omega
def vj{o:mJ}{a:Act}{K:Act->aw->Prop}{Q:Exit->Act->aw->Prop}(s x:oN)(t:TypeId)
  (C:o.op=.call { callee:=.builtin .append,args:=#[s,x],argTypes:=#[t,t] })
  (base:Nat) (e:TypeId) (i:pO) (p:Value) (size bytes:Nat) (ht:P.underlying t=Z (.slice e)) (D:P.info? e=Z i) (E:i.zero=Z p)
  (d:i.size=size) (q:i.bytes=bytes) (r:p.cells.size=size) (y:0<size)
  (v:Value) (n:Nat) (xs:List Value) (F:a.eval s=v) (k:w.ownsRow base e size v n xs)
  (A:Addr) (m c:Nat) (iX:List Value) (G:a.eval x=ae (Z A) m c) (H:iX.length=m*size) (f:∀j u,iX[j]? = Z u->w.cell? (A.add j)=Z u) (h1:∀u∈iX,u.oneCell'=true)
  (B:n+m<=maxLen) (b:(n+m)*bytes<=140737488355328) (g:base<=w.heap.size)
  (h:∀l w',w'.ownsRow base e size l (n+m) (xs++iX)->w.grownBy w' v.ownBlock->(∀j,l.ownBlock=Z j->v.ownBlock=Z j\/w.heap.size<=j)->K (a.put o.dst l) w'):o.wp P a w K Q:=by
 obtain⟨l,w',hr,h2,h3,h4⟩:=zh (P:=P) w base t o.type e i p size bytes ht D E d q r y v n xs k A m c iX H f h1 B b g;unfold Oper.wp execOp;simp only[C,resolve,invoke,builtin,Sem.run_bind,Sem.run_pure,Result.andThen_ok,List.map_toArray,eV,jk,F,G,hr];exact h l w' h2 h3 h4
def dV{ops:Array mJ}{rest:List mJ}{o:mJ}{a:Act}{Q:Exit->Act->aw->Prop}(p:o.guard=I)(s x:oN)(t:TypeId)
  (D:o.op=.call { callee:=.builtin .append,args:=#[s,x],argTypes:=#[t,t] })
  (base:Nat) (e:TypeId) (i:pO) (q:Value) (size bytes:Nat) (ht:P.underlying t=Z (.slice e)) (E:P.info? e=Z i) (F:i.zero=Z q)
  (d:i.size=size) (r:i.bytes=bytes) (y:q.cells.size=size) (A:0<size)
  (v:Value) (n:Nat) (xs:List Value) (G:a.eval s=v) (k:w.ownsRow base e size v n xs)
  (B:Addr) (m c:Nat) (iX:List Value) (H:a.eval x=ae (Z B) m c) (K:iX.length=m*size) (f:∀j u,iX[j]? = Z u->w.cell? (B.add j)=Z u) (h1:∀u∈iX,u.oneCell'=true)
  (C:n+m<=maxLen) (b:(n+m)*bytes<=140737488355328) (g:base<=w.heap.size)
  (h:∀l w',w'.ownsRow base e size l (n+m) (xs++iX)->w.grownBy w' v.ownBlock->(∀j,l.ownBlock=Z j->v.ownBlock=Z j\/w.heap.size<=j)->wpList P ops Q rest (a.put o.dst l) w'):wpList P ops Q (o::rest) a w:=
 wpList_plain p λ_ L=>vj w s x t D base e i q size bytes ht E F d r y A v n xs G k B m c iX H K f h1 C b g λl w' h2 h3 h4=>L _ _ (h l w' h2 h3 h4)
def lT{ops:Array mJ}{o:mJ}{a:Act}{K:Act->aw->Prop}{Q:Exit->Act->aw->Prop}{E:Prop}
  (hg:o.guard=I) (s x:oN) (t:TypeId) (C:o.op=.call { callee:=.builtin .append,args:=#[s,x],argTypes:=#[t,t] })
  (base:Nat) (e:TypeId) (i:pO) (l:Value) (size bytes:Nat) (ht:P.underlying t=Z (.slice e)) (D:P.info? e=Z i) (F:i.zero=Z l)
  (d:i.size=size) (p:i.bytes=bytes) (q:l.cells.size=size) (r:0<size)
  (v:Value) (n:Nat) (xs:List Value) (G:a.eval s=v) (k:w.ownsRow base e size v n xs)
  (y:Addr) (m c:Nat) (iX:List Value) (H:a.eval x=ae (Z y) m c) (L:iX.length=m*size) (f:∀j u,iX[j]? = Z u->w.cell? (y.add j)=Z u) (h1:∀u∈iX,u.oneCell'=true)
  (A:n+m<=maxLen) (b:(n+m)*bytes<=140737488355328) (g:base<=w.heap.size)
  (h:∀B w',w'.ownsRow base e size B (n+m) (xs++iX)->w.grownBy w' v.ownBlock->(∀j,B.ownBlock=Z j->v.ownBlock=Z j\/w.heap.size<=j)->K (a.put o.dst B) w') :
  if ig o (sC ops a.tmps)=true then Oper.wp P o a w K Q else E:=by
 have hw:ig o (sC ops a.tmps)=true:=by simp[ig,hg]
 rw[if_pos hw];exact vj w s x t C base e i l size bytes ht D F d p q r v n xs G k y m c iX H L f h1 A b g h
end
abbrev qZ:Value:=cg #[J V 0,J V 0,J V 0]
def JV(w:aw):(ja 326).run af w=.ok qZ w:=cC
def xw:(af.info? 326).map (λi=>(i.zero,i.size,i.bytes))=Z (Z qZ,3,24):=cC
def MB:∀v∈qZ.cells.toList,v.oneCell'=true:=by intro u hu;simp[gW]at hu;subst hu;rfl
def wP{g:Nat}{t:TypeId}:∀(vs:List Value) (off:Nat) {w:aw} {cs:Array Value},aK w g t cs->aK (w.setCells g off vs) g t (ph cs off vs)
 |[],_,_,_,h=>h
 |v::vs,off,w,cs,h=>wP vs (off+1) (h.bC off v)
def vS{g:Nat}:∀(vs:List Value) (off:Nat) (w:aw),cS (One g) w (w.setCells g off vs)
 |[],_,w=>cS.refl _ w
 |v::vs,off,w=>((cS.refl (One g) w).setCell (p:=⟨g,off,I⟩) (aJ rfl) v).trans (vS vs (off+1) _)
def uo{P:jB}{ops:Array mJ}{o:mJ}{a:Act}{w:aw}{K:Act->aw->Prop}{Q:Exit->Act->aw->Prop}{E:Prop}
  (hg:o.guard=I) (d x:oN) (c e:TypeId) (b:o.op=Op.call { callee:=Callee.builtin Builtin.copy,args:=#[d,x],argTypes:=#[c,e] })
  (v u:Value) (g:a.eval d=v) (h:a.eval x=u) {f:Value} {w':aw} (hr:(mj #[c,e] o.type #[v,u]).run P w=.ok f w') (i:K (a.put o.dst f) w') :
  if ig o (sC ops a.tmps)=true then Oper.wp P o a w K Q else E:=by
 have hw:ig o (sC ops a.tmps)=true:=by simp[ig,hg]
 rw[if_pos hw];unfold Oper.wp;simp[execOp,b,resolve,invoke,builtin,g,h,hr,Result.andThen];exact i
def tK{P:jB}(w:aw)(q u ty elem:TypeId)(k g o b d:Nat)(a:Addr)(c e m:Nat)(dx:Array Value)(t:TypeId)(cs:List Value)
  (hu:P.underlying q=Z (.slice elem)) (r:(P.info? elem).map (·.size)=Z k) (hg:aK w g t dx) (hm:Nat.min c b=m) (x:cs.length=m*k)
  (f:∀j v,cs[j]? = Z v->w.cell? (a.add j)=Z v) (h:o+cs.length<=dx.size) (h1:∀v∈cs,v.oneCell'=true) :
  (mj #[q,u] ty #[ae (Z ⟨g,o,I⟩) b d,ae (Z a) c e]).run P w=.ok (goInt m) (w.setRow g (de dx o cs)):=by
 have s:=run_loadCells_list (P:=P) w a cs f;have l:=oF P g o t cs 0 dx w hg (by simpa using h) h1;rw[iw]at l;have n:(storeCells ⟨g,o,I⟩ cs).run P w=.ok () (w.setRow g (de dx o cs)):=l;rw[x]at s;cases p:P.info? elem with
 |none=>simp[p]at r
 |some i =>
  have y:i.size=k:=by simpa[p]using r
  simp[mj,oE hu,Builtin.lenOf,Builtin.firstCells,sizeOf,typeInfo,p,y,hm,s,n]
def uV:(af.info? 326).map (·.size)=Z 3:=cC
def EA(n:Nat)(v:Value)(a xs:List Value)(w:aw)(F:a.length=3)(h:w.ownsRow 0 326 3 v (n+1) (a++xs))(h1:∀u∈xs,u.oneCell'=true) :
  aF af 220 #[v,J V 0,J V 1] w λe w'=>∃C,e=av C/\w'.ownsRow 0 326 3 C n xs/\cS (λi=>v.ownBlock=Z i) w w'/\C.ownBlock=v.ownBlock:=by
 obtain⟨i0,D,R,E,S⟩:=cY xw;obtain⟨G,h2⟩:=h;rcases h2 with⟨_,h0⟩ | ⟨g,cap,dx,rfl,_,f,T,p,q,r⟩
 ·omega
 have f:aK w g 326 dx:=f;have k:xs.length=n*3:=by simp[F]at G;omega
 have s:∀j u,xs[j]? = Z u->dx[3+j]? = Z u:=λj u x=>by
  have U:=(aS.1 x).1;have e:(dx.toList.take ((n+1)*3))[3+j]? = Z u:=by rw[r,dG z,F,show 3+j-3=j from by omega];exact x
  rw[dp z]at e;simpa using e
 obtain⟨A,hA,y⟩:∃A:Addr,(if cap=1 then Z (⟨g,0,I⟩:Addr) else Z ⟨g,3,I⟩)=Z A/\Hd (∀t u,xs[t]? = Z u->w.drew.cell? (A.add t)=Z u):=by
  by_cases H:cap=1
  ·refine⟨⟨g,0,I⟩,by simp[H],λt u hu=>?_⟩;have h0:xs.length=0:=z;rw[cU.1 h0]at hu;simp at hu
  ·refine⟨⟨g,3,I⟩,by simp[H],λt u hu=>?_⟩;rw[Addr.add_lit];exact(f.drew.cell _).trans (s t u hu)
 have s3:Hd (∀t,t<xs.length->(w.drew.cell? ⟨g,0+0*3+t,I⟩).isSome=true/\w.drew.frozen? ⟨g,0+0*3+t,I⟩=false):=by
  intro t ht;rw[show 0+0*3+t=t from z,f.drew.cell,Array.getElem?_eq_getElem z];exact⟨rfl,f.drew.frozen _⟩
 have s1:Hd (xs.length=n*3):=k;have s2:Hd (∀u∈xs,u.oneCell'=true):=h1;have l:aK (w.drew.setCells g (0+0*3) xs) g 326 (ph dx 0 xs):=wP xs 0 f.drew;have b:(ph dx 0 xs).size=cap*3:=by rw[AX];exact q
 have m:∀ty c,(lD #[196] ty #[ae (Z ⟨g,n*3,I⟩) 1 c]).run af (w.drew.setCells g (0+0*3) xs)=.ok (aB #[]) ((w.drew.setCells g (0+0*3) xs).setRow g (de (ph dx 0 xs) (n*3) qZ.cells.toList)):=
  λty c=>nf _ 196 326 ty qZ underlying196 JV g (n*3) c 326 _ l (by rw[b];simp[gW];omega) MB
 have d:(de (ph dx 0 xs) (n*3) qZ.cells.toList).toList.take (n*3)=xs:=by
  apply sB;intro j;by_cases x:j<n*3
  ·rw[dp x,gj,kT (by simp[gW];omega) (aJ x),uv _ _ _ _ z,if_pos ⟨z,z⟩,Nat.sub_zero]
  ·rw[fx dZ,fx z]
 have B:(de (ph dx 0 xs) (n*3) qZ.cells.toList).size=cap*3:=by rw[gU (by rw[b];simp[gW];omega)];exact b
 have u1:=((cS.refl (One g) w).drew.trans (vS xs (0+0*3) w.drew)).trans (fW (w.drew.setCells g (0+0*3) xs) g (de (ph dx 0 xs) (n*3) qZ.cells.toList));have K:=kQ (w.drew.setCells g (0+0*3) xs) g (ph dx 0 xs) (de (ph dx 0 xs) (n*3) qZ.cells.toList) 326 (0,0) l;obtain⟨L,M⟩:=bu (show cS (λi=>(Value.slice (Z ⟨g,0,I⟩) (n+1) cap).ownBlock=Z i) w _ from u1.mono (λi _ D=>by rw[show i=g from D];rfl)) (show World.ownsRow _ 0 326 3 (ae (Z ⟨g,0,I⟩) n cap) n xs from⟨k,aZ ⟨g,cap,_,rfl,gG _,K,z,p,B,d⟩⟩);obtain⟨W1,o⟩:=dH (w.drew.setCells g (0+0*3) xs);rw[<-o]at m L M;have W:=au o;have X:1<=cap:=z;have N:cap<=9223372036854775807:=by unfold maxLen at p;omega
 have P:n+1-1=n:=z;have Y:=au m;have aI:¬(cap=n):=z;have df:(1:Int)<=(n:Int)+1:=z;have eI:(n:Int)<=(n:Int)+1:=z;clear o l b d B u1 K s f r G k q m;go_enter func220,ntmps220;go_wp2_with fail;go_region_law (refine step_append_room rfl (.tmp 22) (.tmp 25) 196 rfl 326 i0 3 underlying196 D E g 0 0 cap (by simp[tG,aA]) A n (cap-1) xs (by simp[tG,aA]) s1.out y.out s2.out z s3.out ?_;rw[<-W.O]);have Q:=Y.O 0 (cap-n);go_wp2_with fail;go_ret;exact⟨_,rfl,M.O,L.O,rfl⟩
def AW{w:aw}{g:Nat}{t:TypeId}{cs:Array Value}(h:aK w g t cs):w.shape? g=Z (t,cs.size):=by unfold aK at h;simp[World.shape?,h]
def zy{w:aw}{g:Nat}{t:TypeId}{cs:Array Value}(h:aK w g t cs):∀j u,cs.toList[j]? = Z u->w.cell? ((⟨g,0,I⟩:Addr).add j)=Z u:=by
 intro j u hu;have e:(⟨g,0,I⟩:Addr).add j=⟨g,j,I⟩:=by unfold Addr.add;split<;>simp_all
 rw[e,h.cell];simpa using hu
def GA(n:Nat)(v:Value)(xs x:List Value)(l:Nat)(w:aw)(L:x.length=3)(h:w.ownsRow 0 326 3 v n xs)(T:n<=1000)(M:aK w l 326 x.toArray)(h1:∀u∈x,u.oneCell'=true) :
  aF af 235 #[v,J V n,ae (Z ⟨l,0,I⟩) 1 1] w λe w'=>∃d,e=av d/\w'.ownsRow 0 326 3 d (n+1) (xs++x)/\cS (λi=>v.ownBlock=Z i) w w'/\∀i,d.ownBlock=Z i->v.ownBlock=Z i\/w.heap.size<=i:=by
 obtain⟨i0,N,m,p,r⟩:=cY xw;obtain⟨P,t,y,B⟩:=cA N m p r;clear N m p r;have key:∀A c,v=ae A n c->(A=I->c=0)->n<=c->c<=9223372036854775807->aF af 235 #[v,J V n,ae (Z ⟨l,0,I⟩) 1 1] w λe w'=>∃d,e=av d/\w'.ownsRow 0 326 3 d (n+1) (xs++x)/\w.grownBy w' v.ownBlock/\(∀j,d.ownBlock=Z j->v.ownBlock=Z j\/w.heap.size<=j):=by
  intro A c f a C D;subst f;have E:x.length=1*3:=L;have F:=zy M;rw[qk]at F;obtain⟨Q,R,H1,S⟩:=cA E F h1 h;clear L E F h1 M;cases A with
  |none =>
   obtain rfl:=a rfl;obtain rfl:n=0:=z;have c3:0+1<=maxLen:=ui;have c4:(0+1)*24<=140737488355328:=z;have c5:0<=w.heap.size:=gG _;obtain⟨G,H,K⟩:=bU c3 c4 c5;clear c3 c4 c5;go_enter func235,ntmps235;go_wp2_with (at_builtin;go_loud (refine dV _ rfl _ _ 196 rfl 0 326 i0 qZ 3 24 underlying196 P.O t.O y.O B.O rfl aR _ _ _ rfl S.O ⟨l,0,I⟩ 1 1 x rfl Q.O R.O H1.O G.O H.O K.O ?_));all_goals
    intro v5 w5 b g5 k;go_wp2_with fail;go_ret;exact⟨_,rfl,b,g5,k⟩
  |some A =>
   obtain⟨g,o,s⟩:=A;have c3:n+1<=maxLen:=ui;have c4:(n+1)*24<=140737488355328:=z;have c5:0<=w.heap.size:=gG _;obtain⟨G,H,K⟩:=bU c3 c4 c5;clear c3 c4 c5;go_enter func235,ntmps235;go_wp2_with (at_builtin;go_loud (refine dV _ rfl _ _ 196 rfl 0 326 i0 qZ 3 24 underlying196 P.O t.O y.O B.O rfl aR _ _ _ rfl S.O ⟨l,0,I⟩ 1 1 x rfl Q.O R.O H1.O G.O H.O K.O ?_));all_goals
    intro v5 w5 b g5 k;go_wp2_with fail;go_ret;exact⟨_,rfl,b,g5,k⟩
 obtain⟨A,c,f,a,C,D⟩:∃A c,v=ae A n c/\(A=I->c=0)/\n<=c/\c<=9223372036854775807:=by
  rcases h.2 with⟨rfl,rfl⟩ | ⟨g,cap,dx,rfl,_,_,a1,a2,_⟩
  ·exact⟨I,0,rfl,λ_=>rfl,aj _,z⟩
  ·exact⟨_,cap,rfl,λq=>(by cases q),a1,by unfold maxLen at a2;omega⟩
 refine(key A c f a C D).mono ?_;rintro e w' ⟨d,rfl,o,gr,fr⟩;exact⟨d,rfl,o,cS.wx gr,fr⟩
def Ei(n i:Nat)(g cap:Nat)(dx:Array Value)(xs x:List Value)(h:Nat)(w:aw)(W:x.length=3)(r:aK w g 326 dx)(b:dx.size=cap*3)(s:dx.toList.take (n*3)=xs)(t:xs.length=n*3)(hi:i<n)(l:n+1<=cap)(hn:n<=1000)(y:cap<=maxLen)
  (A:aK w h 326 x.toArray) (B:h≠g) (h1:∀u∈x,u.oneCell'=true) (h2:∀u∈xs,u.oneCell'=true) :
  aF af 235 #[ae (Z ⟨g,0,I⟩) n cap,J V i,ae (Z ⟨h,0,I⟩) 1 1] w λe w'=>e=av (ae (Z ⟨g,0,I⟩) (n+1) cap)/\w'.ownsRow 0 326 3 (ae (Z ⟨g,0,I⟩) (n+1) cap) (n+1) (xs.take (i*3)++x++xs.drop (i*3))/\cS (One g) w w':=by
 have m:∀j,j<n*3->dx[j]? = xs[j]?:=λj q=>by rw[<-s,dp q,gj]
 have a:(xs.drop (i*3)).length=(n-i)*3:=by rw[lz,t,<-Nat.sub_mul]
 have G:∀lb H,(callFunc 276 #[ae (Z ⟨h,0,I⟩) 1 1,ae (Z ⟨g,(i+1)*3,I⟩) lb H]).run af w=.ok (.value (ai false)) w:=λlb H=>by
  rw[run_callFunc_extern func276 cC cC cC (e:=Extern.SlicesOverlaps.overlaps #[196,196] #[4]) cC,
   Lib.run_overlaps_apart w 196 4 326 underlying196 3 (λw=>cC) ⟨h,0,I⟩ ⟨g,(i+1)*3,I⟩ 1 1 lb H B 326 326 3 (cap*3) (by rw[AW A];simp[W]) (by rw[AW r,b]) z (A.frozen 0) (A.frozen 3)]
  rfl
 have d:∀ty o K,(mj #[196,196] ty #[ae (Z ⟨g,(i+1)*3,I⟩) (n+1-(i+1)) o,ae (Z ⟨g,i*3,I⟩) (n+1-i) K]).run af w.drew=.ok (goInt ((n-i:Nat):Int)) (w.drew.setRow g (de dx ((i+1)*3) (xs.drop (i*3)))):=λty o K =>
  tK w.drew 196 196 ty 326 3 g ((i+1)*3) (n+1-(i+1)) o ⟨g,i*3,I⟩ (n+1-i) K (n-i) dx 326 (xs.drop (i*3)) underlying196 uV r.drew (by simp only[Nat.min_def];split<;>omega) a
   (λj v q=>by
     have X:=(aS.1 q).1
     rw[Addr.add_lit,r.drew.cell,m _ z]
     rwa [kt]at q) (by rw[a,b];omega) (λu hu=>h2 u (ga hu))
 have p:aK (w.drew.setRow g (de dx ((i+1)*3) (xs.drop (i*3)))) g 326 (de dx ((i+1)*3) (xs.drop (i*3))):=kQ w.drew g dx _ 326 (0,0) r.drew;have c:(de dx ((i+1)*3) (xs.drop (i*3))).size=cap*3:=by rw[gU (by rw[a,b];omega)];exact b
 have C:aK (w.drew.setRow g (de dx ((i+1)*3) (xs.drop (i*3)))) h 326 x.toArray:=A.drew.dW (fW _ _ _) B;have L:=zy C;rw[qk]at L;have f:∀ty o,(mj #[196,196] ty #[ae (Z ⟨g,i*3,I⟩) (n+1-i) o,ae (Z ⟨h,0,I⟩) 1 1]).run af (w.drew.setRow g (de dx ((i+1)*3) (xs.drop (i*3))))=.ok (goInt ((1:Nat):Int)) ((w.drew.setRow g (de dx ((i+1)*3) (xs.drop (i*3)))).setRow g (de (de dx ((i+1)*3) (xs.drop (i*3))) (i*3) x)):=λty o =>
  tK _ 196 196 ty 326 3 g (i*3) (n+1-i) o ⟨h,0,I⟩ 1 1 1 _ 326 x underlying196 uV p (by simp only[Nat.min_def];split<;>omega) z L (by rw[c];omega) h1
 have D:=kQ (w.drew.setRow g (de dx ((i+1)*3) (xs.drop (i*3)))) g _ (de (de dx ((i+1)*3) (xs.drop (i*3))) (i*3) x) 326 (0,0) p;have E:(de (de dx ((i+1)*3) (xs.drop (i*3))) (i*3) x).size=cap*3:=by rw[gU (by rw[c];omega)];exact c
 have k:(de (de dx ((i+1)*3) (xs.drop (i*3))) (i*3) x).toList.take ((n+1)*3)=xs.take (i*3)++x++xs.drop (i*3):=by
  apply sB;intro j;have ht:(xs.take (i*3)).length=i*3:=by rw[ix];omega
  by_cases q:j<(n+1)*3
  ·rw[dp q,gj,dL];by_cases j1:j<i*3
   ·rw[kT (by rw[c];omega) (aJ j1),kT (by rw[a,b];omega) (aJ z),m j z,dk z,dp j1]
   ·rw[dG z,ht];by_cases j2:j<i*3+3
    ·have:=qG (dx:=de dx ((i+1)*3) (xs.drop (i*3))) (off:=i*3) (vs:=x) (by rw[c];omega) (j:=j-i*3) z;rw[show i*3+(j-i*3)=j from by omega]at this;rw[this,dk z]
    ·rw[kT (by rw[c];omega) (aZ z),dG z];have:=qG (dx:=dx) (off:=(i+1)*3) (vs:=xs.drop (i*3)) (by rw[a,b];omega) (j:=j-(i+1)*3) (by rw[a];omega);rw[show(i+1)*3+(j-(i+1)*3)=j from by omega]at this;rw[this];congr 1;omega
  ·rw[fx dZ,fx (by simp[a];omega)]
 have hlen:(xs.take (i*3)++x++xs.drop (i*3)).length=(n+1)*3:=dZ;have P:=((cS.refl (One g) w).drew.trans (fW w.drew g (de dx ((i+1)*3) (xs.drop (i*3))))).trans (fW (w.drew.setRow g (de dx ((i+1)*3) (xs.drop (i*3)))) g (de (de dx ((i+1)*3) (xs.drop (i*3))) (i*3) x));obtain⟨Q,R⟩:=bu (show World.ownsRow _ 0 326 3 (ae (Z ⟨g,0,I⟩) (n+1) cap) (n+1) (xs.take (i*3)++x++xs.drop (i*3)) from⟨hlen,aZ ⟨g,cap,_,rfl,gG _,D,l,y,E,k⟩⟩) P;have Y:V.wrap ((i:Int)+1)=(i:Int)+1:=cz _ ⟨z,z⟩;have aI:V.wrap ((n:Int)+1)=(n:Int)+1:=cz _ ⟨z,z⟩;have df:(0:Int)<=(i:Int)+1:=z;have eI:((i:Int)+1).toNat=i+1:=z;have S:((n:Int)+1).toNat=n+1:=z;have gX:¬(cap=i+1):=z;have mK:(i:Int)<=(n:Int)+1:=z;have T:(i:Int)+1<=(n:Int)+1:=z;have SG:¬(cap=i):=z;have SH:¬((i:Int)=(n:Int)):=z;have SI:¬((cap:Int)<(n:Int)+1):=z;have SJ:(i:Int)<=(n:Int):=z;have U:cap<=9223372036854775807:=by unfold maxLen at y;omega
 obtain⟨W1,F⟩:=dH (w.drew.setRow g (de dx ((i+1)*3) (xs.drop (i*3))));rw[<-F]at d f Q R;obtain⟨M,N⟩:=bu d f;clear F hlen k E D d f L C c p a m b s t r A P;go_enter func235,ntmps235;go_wp2_with (simp only[G]);go_region_law (refine uo rfl (.tmp 73) (.tmp 76) 196 196 rfl _ _ (by simp[tG,aA]) (by simp[tG,aA]) (M.O _ (cap-(i+1)) (cap-i)) ?_);have SK:=N.O 3 (cap-i);go_wp2_with fail;go_ret;exact⟨rfl,Q.O,R.O⟩
def uj(k:Nat):(fM qZ.cells k).size=k*3:=by simp[fM,gW]
def Ek(n i:Nat)(g cap:Nat)(dx:Array Value)(xs x:List Value)(K:Nat)(w:aw)(hx:x.length=3)(Y:aK w g 326 dx)(aI:dx.size=cap*3)(L:dx.toList.take (n*3)=xs)(df:xs.length=n*3)(hi:i<n)(SQ:n<=cap)(eI:¬n+1<=cap)(hn:n<=1000)
  (hv:aK w K 326 x.toArray) (h1:∀u∈x,u.oneCell'=true) (h2:∀u∈xs,u.oneCell'=true) :
  aF af 235 #[ae (Z ⟨g,0,I⟩) n cap,J V i,ae (Z ⟨K,0,I⟩) 1 1] w λe w'=>∃G,e=av (ae (Z ⟨w.heap.size,0,I⟩) (n+1) G)/\w'.ownsRow 0 326 3 (ae (Z ⟨w.heap.size,0,I⟩) (n+1) G) (n+1) (xs.take (i*3)++x++xs.drop (i*3))/\cS cr w w':=by
 obtain rfl:cap=n:=z;obtain⟨i0,gX,mK,SG,M⟩:=cY xw;have B:∀j,j<cap*3->dx[j]? = xs[j]?:=λj m=>by rw[<-L,dp m,gj]
 have b:(xs.drop (i*3)).length=(cap-i)*3:=by rw[lz,df,<-Nat.sub_mul]
 have c:(xs.take (i*3)).length=i*3:=by rw[ix];omega
 have eJ:(Builtin.firstCells i0.size i (ae (Z ⟨g,0,I⟩) i cap)).run af w.drew=.ok (xs.take (i*3)).toArray w.drew:=by
  rw[SG];exact run_firstCells_some w.drew 3 i ⟨g,0,I⟩ i cap (xs.take (i*3)) c (λj v m=>by
   have SH:=(aS.1 m).1
   rw[Addr.add_lit,cO,Y.drew.cell,B _ z]
   rwa [dp z]at m)
 have C:i+(cap+1-i)=cap+1:=z;have N:(cap:Int)+1-(i:Int)=((cap+1-i:Nat):Int):=z;obtain⟨G,hG⟩:=dH (grownCap w (cap+1) cap 326);obtain⟨a,f⟩:=dH ((xs.take (i*3)).toArray++fM qZ.cells (cap+1-i)++fM qZ.cells (G-(cap+1)):Array Value);have D:∀ty,(qe #[196,3] ty #[ae (Z ⟨g,0,I⟩) i cap,J V ((cap:Int)+1-(i:Int))]).run af w =
   .ok (ae (Z ⟨w.heap.size,0,I⟩) (cap+1) G) (w.drew.alloc (.cells a 326)):=λty=>by
  have h:=Lib.run_append_grow_zeros w 196 3 ty 326 i0 qZ V V underlying196 underlying3 gX mK (Z ⟨g,0,I⟩) i cap (xs.take (i*3)) eJ (cap+1-i) z z z z (by rw[M];omega) (by rw[M,C];exact rG z z);rw[C]at h;rw[N,f,hG];exact h
 have SI:cap+1<=G:=by rw[hG];exact grownCap_ge w _ _ _
 have P:G<=maxLen:=by rw[hG];exact grownCap_le_maxLen w (cap+1) cap 326 ui
 have k:a.size=G*3:=by rw[f];simp only[Array.size_append,sv,uj,c];omega
 have Q:∀j,j<i*3->a[j]? = xs[j]?:=λj m=>by
  rw[f,mN (by simp only[Array.size_append,sv,uj,c];omega),mN (by simp only[sv,c];omega),List.getElem?_toArray,dp m]
 obtain⟨r,hr⟩:=dH w.heap.size;obtain⟨s,l⟩:=dH (w.drew.alloc (.cells a 326));have E:aK s r 326 a:=by rw[l];exact aK.newAt w.drew 326 a r (by rw[hr];rfl)
 have R:g≠r:=by have:=Y.lt;omega
 have SJ:K≠r:=by have:=hv.lt;omega
 have S:aK s g 326 dx:=by rw[l];exact Y.drew.alloc _
 have T:aK s K 326 x.toArray:=by rw[l];exact hv.drew.alloc _
 have u1:cS cr w s:=by rw[l];exact(cS.refl cr w).drew.alloc _
 have NW:=zy T;rw[qk]at NW;have o:∀ty F,(mj #[196,196] ty #[ae (Z ⟨r,i*3,I⟩) (cap+1-i) F,ae (Z ⟨K,0,I⟩) 1 1]).run af s=.ok (goInt ((1:Nat):Int)) (s.setRow r (de a (i*3) x)):=λty F =>
  tK s 196 196 ty 326 3 r (i*3) (cap+1-i) F ⟨K,0,I⟩ 1 1 1 a 326 x underlying196 uV E (by simp only[Nat.min_def];split<;>omega) z NW (by rw[k];omega) h1
 obtain⟨t,p⟩:=dH (s.setRow r (de a (i*3) x));have H:aK t r 326 (de a (i*3) x):=by rw[p];exact kQ s r a _ 326 (0,0) E
 have U:aK t g 326 dx:=by rw[p];exact S.dW (fW _ _ _) R
 have u2:cS cr w t:=by rw[p];exact u1.step (fW _ _ _) (λi q=>aZ (by rw[show i=r from q,hr];exact aj _))
 have d:(de a (i*3) x).size=G*3:=by rw[gU (by rw[k];omega)];exact k
 have y:∀ty F sc,(mj #[196,196] ty #[ae (Z ⟨r,(i+1)*3,I⟩) (cap+1-(i+1)) F,ae (Z ⟨g,i*3,I⟩) (cap-i) sc]).run af t.drew=.ok (goInt ((cap-i:Nat):Int)) (t.drew.setRow r (de (de a (i*3) x) ((i+1)*3) (xs.drop (i*3)))):=λty F sc =>
  tK t.drew 196 196 ty 326 3 r ((i+1)*3) (cap+1-(i+1)) F ⟨g,i*3,I⟩ (cap-i) sc (cap-i) _ 326 (xs.drop (i*3)) underlying196 uV H.drew (by simp only[Nat.min_def];split<;>omega) b
   (λj v m=>by
     have SH:=(aS.1 m).1
     rw[Addr.add_lit,U.drew.cell,B _ z]
     rwa [kt]at m) (by rw[b,d];omega) (λu hu=>h2 u (ga hu))
 have W:=kQ t.drew r (de a (i*3) x) (de (de a (i*3) x) ((i+1)*3) (xs.drop (i*3))) 326 (0,0) H.drew;have X:(de (de a (i*3) x) ((i+1)*3) (xs.drop (i*3))).size=G*3:=by rw[gU (by rw[b,d];omega)];exact d
 have u3:cS cr w (t.drew.setRow r (de (de a (i*3) x) ((i+1)*3) (xs.drop (i*3)))):=u2.drew.step (fW _ _ _) (λi q=>aZ (by rw[show i=r from q,hr];exact aj _));have A:(de (de a (i*3) x) ((i+1)*3) (xs.drop (i*3))).toList.take ((cap+1)*3)=xs.take (i*3)++x++xs.drop (i*3):=by
  apply sB;intro j;by_cases m:j<(cap+1)*3
  ·rw[dp m,gj,dL];by_cases j1:j<i*3
   ·rw[kT (by rw[b,d];omega) (aJ z),kT (by rw[k];omega) (aJ j1),Q j j1,dk z,dp j1]
   ·rw[dG z,c];by_cases j2:j<i*3+3
    ·rw[kT (by rw[b,d];omega) (aJ z)];have:=qG (dx:=a) (off:=i*3) (vs:=x) (by rw[k];omega) (j:=j-i*3) z;rw[show i*3+(j-i*3)=j from by omega]at this;rw[this,dk z]
    ·rw[dG z];have:=qG (dx:=de a (i*3) x) (off:=(i+1)*3) (vs:=xs.drop (i*3)) (by rw[b,d];omega) (j:=j-(i+1)*3) (by rw[b];omega);rw[show(i+1)*3+(j-(i+1)*3)=j from by omega]at this;rw[this];congr 1;omega
  ·rw[fx dZ,fx (by simp[b,c];omega)]
 have hlen:(xs.take (i*3)++x++xs.drop (i*3)).length=(cap+1)*3:=dZ;obtain⟨HO,HU⟩:=bu (show World.ownsRow _ 0 326 3 (ae (Z ⟨r,0,I⟩) (cap+1) G) (cap+1) (xs.take (i*3)++x++xs.drop (i*3)) from⟨hlen,aZ ⟨r,G,_,rfl,gG _,W,SI,P,X,A⟩⟩) u3;have SU:V.wrap ((i:Int)+1)=(i:Int)+1:=cz _ ⟨z,z⟩;have SV:V.wrap ((cap:Int)+1)=(cap:Int)+1:=cz _ ⟨z,z⟩;have SW:V.wrap ((cap:Int)+1-(i:Int))=(cap:Int)+1-(i:Int):=cz _ ⟨z,z⟩;have SX:(0:Int)<=(i:Int)+1:=z;have SY:((i:Int)+1).toNat=i+1:=z;have SZ:(i:Int)<=(cap:Int)+1:=z;have SO:(i:Int)+1<=(cap:Int)+1:=z;have Ta:¬(cap=i):=z;have Tb:¬((i:Int)=(cap:Int)):=z;have Tc:(i:Int)<=(cap:Int):=z;have Td:¬(G=i):=z;have Te:¬(G=i+1):=z;have SP:G<=9223372036854775807:=by unfold maxLen at P;omega
 rw[<-hr,<-l]at D;rw[<-p]at o;rw[<-hr];obtain⟨SK,SL,SM⟩:=bU D o y;clear D o y hlen A X W d H U S T E l p hr Q k f hG eJ B b c L aI Y hv u1 u2 u3 NW N C R SJ;have SN:=SL.O 3 (G-i);go_enter func235,ntmps235;go_wp2_with (at_builtin;refine Lib.wpList_append_run _ rfl _ _ _ _ rfl _ _ rfl rfl _ _ (SK.O _) ?_);clear SN;go_region_law (refine uo rfl (.tmp 50) (.tmp 53) 196 196 rfl _ _ (by simp[tG,aA]) (by simp[tG,aA]) (SM.O _ (G-(i+1)) (cap-i)) ?_);go_wp2_with fail;go_ret;exact⟨G,rfl,HO.O,HU.O⟩
def Ej(n i:Nat)(v:Value)(xs x:List Value)(b:Nat)(w:aw)(j:x.length=3)(h:w.ownsRow 0 326 3 v n xs)(A:i<=n)(k:n<=1000)(l:aK w b 326 x.toArray)(m:v.ownBlock≠Z b)(h1:∀u∈x,u.oneCell'=true)(h2:∀u∈xs,u.oneCell'=true) :
  aF af 235 #[v,J V i,ae (Z ⟨b,0,I⟩) 1 1] w λe w'=>∃c,e=av c/\w'.ownsRow 0 326 3 c (n+1) (xs.take (i*3)++x++xs.drop (i*3))/\cS (λi=>v.ownBlock=Z i) w w'/\∀i,c.ownBlock=Z i->v.ownBlock=Z i\/w.heap.size<=i:=by
 have t:=h.1;by_cases p:i=n
 ·subst p;refine(GA i v xs x b w j h k l h1).mono ?_;rintro e w' ⟨c,rfl,o,q⟩;refine⟨c,rfl,?_,q⟩;rw[List.take_of_length_le z,List.drop_of_length_le z,kE];exact o
 ·rcases h.2 with⟨_,rfl⟩ | ⟨g,cap,dx,rfl,_,y,r,s,d,f⟩
  ·omega
  ·by_cases a:n+1<=cap
   ·refine(Ei n i g cap dx xs x b w j y d f t z a k s l (λe=>m (by rw[e];rfl)) h1 h2).mono ?_;rintro e w' ⟨rfl,o,u⟩;exact⟨_,rfl,o,u.mono λi _ q=>by rw[show i=g from q];rfl,λi q=>aJ q⟩
   ·refine(Ek n i g cap dx xs x b w j y d f t z r a k l h1 h2).mono ?_;rintro e w' ⟨G,rfl,o,u⟩;exact⟨_,rfl,o,u.mono λi _ q=>q.elim,λi q=>aZ (by simp[eR]at q;omega)⟩
section
open Go.Maps (Keyed)
section
variable {κ:Type} [DecidableEq κ] {S:Keys κ} {f:κ->Value}
variable (w:aw) {ops:Array mJ} {rest:List mJ} {o:mJ} {a:Act} {K:Act->aw->Prop} {Q:Exit->Act->aw->Prop} {E:Prop}
variable (he:∀x y,S.enc x=S.enc y->x=y) {t e:TypeId} (ht:af.underlying t=Z (.map S.k e))
include he ht
omit K Q E in
theorem gE.my(b:Nat)(ds:List κ)(f:κ->Value)(d:gE S w b ds f)(y:κ)(h:S.ok y){g:Value}(i:(ja e).run af w=.ok g w) :
  (cD t (.map (Z b)) (S.enc y) true).run af w=.ok (aB #[if y∈ds then f y else g,ai (decide (y∈ds))]) w:=by
 obtain⟨D,h1,h2⟩:=d;obtain⟨v,ps,c,a⟩:=h1.look_ok S.K ht i (zd:=.held g) (zp:=[]) (R:=RV) rfl (S.key y h);have hh:=h2.has y h;have j:v=if y∈ds then f y else g:=by
  simp only[RV,Option.some.injEq,Prod.mk.injEq]at a;by_cases hy:y∈ds
  ·rw[h2.at_ y hy]at a;simp at a;rw[if_pos hy];exact a.1
  ·have k:Maps.has D (S.kl y)=false:=by rw[hh];simp[hy]
   rw[Maps.atKey_of_not_has k]at a;simp at a;rw[if_neg hy];exact a.1
 rw[hh,j]at c;exact c
omit K Q E in
theorem gE.Iq(b:Nat)(ds:List κ)(f:κ->Value)(a:gE S w b ds f)(y:κ)(c:S.ok y)(hy:y∈ds){d:Value}(g:(ja e).run af w=.ok d w) :
  (cD t (.map (Z b)) (S.enc y) true).run af w=.ok (aB #[f y,ai true]) w:=by
 rw[gE.my w he ht b ds f a y c g,if_pos hy];simp[hy]
omit K Q E in
theorem gE.Ip(b:Nat)(ds:List κ)(f:κ->Value)(a:gE S w b ds f)(y:κ)(d:S.ok y)(hy:y∉ds){c:Value}(g:(ja e).run af w=.ok c w) :
  (cD t (.map (Z b)) (S.enc y) true).run af w=.ok (aB #[c,ai false]) w:=by
 rw[gE.my w he ht b ds f a y d g,if_neg hy];simp[hy]
omit K Q E in
theorem gE.nX(b:Nat)(ds:List κ)(f:κ->Value)(a:gE S w b ds f)(h:ds.length<maxLen)(y:κ)(c:Value)(hy:y∈ds) :
  ∃w',(eF t (.map (Z b)) (S.enc y) c).run af w=.ok () w'/\gE S w' b ds (λe=>if e=y then c else f e)/\cS (One b) w w':=by
 obtain⟨D,h1,h2⟩:=a;obtain⟨w',d,i,g⟩:=World.ownsMap.update h1 S.K ht h (S.key y (h2.ok y hy)) (show RV c=Z (.held c,[]) from rfl);have C:=h2.put he (h1.tidy S.K) hy c;exact⟨w',d,⟨_,by rw[<-C.size];exact CB i,C⟩,tH g⟩
omit K Q E in
theorem gE.Ci(b:Nat)(ds:List κ)(f:κ->Value)(a:gE S w b ds f)(i:ds.length<maxLen)(y:κ)(c:Value)(hy:y∉ds)(e:S.ok y) :
  ∃w',(eF t (.map (Z b)) (S.enc y) c).run af w=.ok () w'/\gE S w' b (ds++[y]) (λh=>if h=y then c else f h)/\cS (One b) w w':=by
 obtain⟨D,h1,h2⟩:=a;obtain⟨w',d,j,g⟩:=World.ownsMap.update h1 S.K ht i (S.key y e) (show RV c=Z (.held c,[]) from rfl);have C:=h2.new he (h1.tidy S.K) hy e c;exact⟨w',d,⟨_,by rw[<-C.size];exact CB j,C⟩,tH g⟩
end
end
section
abbrev Bk:=Int->Nat->Option Int
structure PZ(ds:List (Int×Int))(v:Int×Int->Int)(bk:Bk)(N:Nat):Prop where
 at_:∀s (id:Nat),bk s id=if((s,(id:Int)):Int×Int)∈ds then Z (v (s,(id:Int))) else I
 wb:∀x∈ds,(0<=x.1/\x.1<6)/\0<=x.2/\x.2<=1000000
 sJ:∀x∈ds,0<=v x/\v x<=8
 small:ds.length<=N
def eD(w:aw)(g m:Nat)(bk:Bk)(N:Nat):Prop:=∃ds v,aK w g 204 #[.map (Z m)]/\gE KB w m ds (λx=>J V (v x))/\PZ ds v bk N
def nV:af.underlying 202=Z (.map KB.k 62):=underlying202
def vc(w:aw):(ja 62).run af w=.ok (J V 0) w:=cC
section
variable {w w':aw} {g m N:Nat} {bk:Bk}
def eD.ne(h:eD w g m bk N):m≠g:=by obtain⟨ds,v,h1,h2,_⟩:=h;exact h2.ki h1
def eD.lt(h:eD w g m bk N):g<w.heap.size/\m<w.heap.size:=by obtain⟨ds,v,h1,h2,_⟩:=h;exact⟨h1.lt,h2.lt⟩
def eD.dW{F:Nat->Prop}(h:eD w g m bk N)(u:cS F w w')(hg:¬F g)(hm:¬F m):eD w' g m bk N:=by
 obtain⟨ds,v,h1,h2,h3⟩:=h;exact⟨ds,v,h1.dW u hg,h2.dW u hm,h3⟩
def eD.below(h:eD w g m bk N)(u:aC w w'):eD w' g m bk N:=h.dW (F:=cr) (.bn u) id id
end
def okB{s:Int}{id:Nat}(h:-1000000000000<=s/\s<=1000000000000)(a:id<=1000000):KB.ok (s,(id:Int)):=ir h ⟨by show(-1000000000000:Int)<=(id:Int);omega,by show(id:Int)<=1000000000000;omega⟩
def Fb(w:aw):aF af 33 #[] w λe w'=>∃g m,e=av (aq (Z ⟨g,0,I⟩))/\eD w' g m (λ_ _=>I) 0/\aC w w'/\w.heap.size<=g/\w.heap.size<=m:=by
 have h:=((ao w.heap.size w).alloc (aj _) (.map #[] 0)).alloc dt (.cells #[.map (Z w.heap.size)] 204);have b:=(gE.made (S:=KB) w (λx=>J V 0)).alloc (.cells #[.map (Z w.heap.size)] 204);have c:=aK.new (w.alloc (.map #[] 0)) 204 #[.map (Z w.heap.size)];obtain⟨i,d⟩:=bu b c;clear b c;have j:=@run_makeMap af;go_enter func33,ntmps33;go_wp2_with fail;go_ret;refine⟨_,w.heap.size,rfl,⟨[],λ_=>0,?_,i.O,λs id=>dt,λx a=>by simp at a,λx a=>by simp at a,dt⟩,h,?_,aj _⟩
 ·have f:=d.O;simp only[World.size_alloc]at f;first|exact f|simpa using d.O
 ·simp
def xR(f:Int)(w:aw)(h:1<=f/\f<=8):aF af 156 #[J V f] w λe w'=>e=av (ai true)/\w'=w:=by
 obtain⟨h1,h2⟩:=h;go_enter func156,ntmps156;go_wp2_with fail;go_ret;exact⟨rfl,rfl⟩
def Db(g m N:Nat)(bk:Bk)(s:Int)(id:Nat)(w:aw)(h:eD w g m bk N)(f:-1000000000000<=s/\s<=1000000000000)(i:id<=1000000) :
  aF af 236 #[aq (Z ⟨g,0,I⟩),pv (s,(id:Int))] w λe w'=>e=av (aB #[J V ((bk s id).getD 0),ai (bk s id).isSome])/\aC w w':=by
 obtain⟨ds,v,j,k,hR⟩:=h;have b:=hR.at_ s id;have a:∀W,gE KB W m ds (λx=>J V (v x))->(cD 202 (.map (Z m)) (cg #[J V s,J V id]) true).run af W=.ok (aB #[J V ((bk s id).getD 0),ai (bk s id).isSome]) W:=λW l=>by
  by_cases hy:((s,(id:Int)):Int×Int)∈ds
  ·rw[b,if_pos hy];exact gE.Iq W ue nV m ds _ l (s,(id:Int)) (okB f i) hy (vc _)
  ·rw[b,if_neg hy];exact gE.Ip W ue nV m ds _ l (s,(id:Int)) (okB f i) hy (vc _)
 have d:=au a;clear b hR a;go_enter func236,ntmps236;go_upto_region 1 with fail;obtain⟨r,c⟩:=dH w.heap.size;rw[<-c];refine aW (λW=>aK W r 210 #[J V s,J V id]/\aK W g 204 #[.map (Z m)]/\gE KB W m ds (λx=>J V (v x))/\aC w W) ⟨aK.newAt _ _ _ _ c,j.alloc _,k.alloc _,(ao _ w).alloc (aj _) _⟩ ?_;rintro W ⟨b3,n,o,p⟩;clear c j k;have t:=n.cell 0;have u:=b3.cell 0;have y:=b3.cell 1;simp at t u y;have A:=d.O W.drew (o.dW (F:=cr) (cS.refl cr W).drew (λq=>q));clear o b3 n;go_region;all_goals
  go_wp2_with fail;refine ax (v:=aB #[J V ((bk s id).getD 0),ai (bk s id).isSome]) (by simp[aV,results236,go_sem]) rfl ⟨rfl,?_⟩;first|exact p|exact cd p _
def Fa(g m N:Nat)(bk:Bk)(s:Int)(id:Nat)(w:aw)(h:eD w g m bk N)(K:0<=s/\s<6)(X:id<=1000000)(L:bk s id=I)(hN:N<1000000) :
  aF af 183 #[aq (Z ⟨g,0,I⟩),pv (s,(id:Int))] w λe w'=>e=av (J V 0)/\eD w' g m (M.set bk s (M.set (bk s) id (Z 0))) (N+1)/\cS (One m) w w':=by
 obtain⟨ds,v,p,r,hR⟩:=h;have hlen:ds.length<1000000:=by have:=hR.small;omega
 have b:=hR.at_ s id;have c:((s,(id:Int)):Int×Int)∉ds:=by
  intro q;rw[L,if_pos q]at b;cases b
 have ok:=okB (s:=s) (id:=id) ⟨z,z⟩ X;have k:PZ (ds++[(s,(id:Int))]) (λx=>if x=(s,(id:Int)) then 0 else v x) (M.set bk s (M.set (bk s) id (Z 0))) (N+1):=by
  refine⟨λs' a=>?_,λx t=>?_,λx t=>?_,by have:=hR.small;simp;omega⟩
  ·unfold M.set;by_cases u:s'=s
   ·subst u;rw[if_pos rfl];by_cases P:a=id
    ·subst P;rw[if_pos rfl,if_pos dt];simp
    ·have d:((s',(a:Int)):Int×Int)≠(s',(id:Int)):=by intro q;injection q with _ q;omega
     rw[if_neg P,hR.at_ s' a];simp only[bt,kr,d,or_false,if_false]
   ·have d:((s',(a:Int)):Int×Int)≠(s,(id:Int)):=by intro q;injection q with q _;exact u q
    rw[if_neg u,hR.at_ s' a];simp only[bt,kr,d,or_false,if_false]
  ·rcases bt.1 t with q|q
   ·exact hR.wb x q
   ·simp at q;subst q;exact⟨K,by show(0:Int)<=id;omega,by show(id:Int)<=1000000;omega⟩
  ·by_cases e:x=(s,(id:Int))
   ·simp[e]
   ·rw[if_neg e];rcases bt.1 t with q|q
    ·exact hR.sJ x q
    ·simp at q;exact absurd q e
 obtain⟨s1,s2⟩:=K;have i0:(0:Int)<=(id:Int):=z;obtain⟨y,A⟩:=bu k c;have mg:m≠g:=r.ki p;have lm:=r.lt;have lg:=p.lt;clear b hR k L;go_enter func183,ntmps183;go_upto_region 1 with fail;obtain⟨B,f⟩:=dH w.heap.size;rw[<-f];refine aW (λW=>aK W B 210 #[J V s,J V id]/\aK W g 204 #[.map (Z m)]/\gE KB W m ds (λx=>J V (v x))/\aC w W) ⟨aK.newAt _ _ _ _ f,p.alloc _,r.alloc _,(ao _ w).alloc (aj _) _⟩ ?_;rintro W ⟨b3,i,j,l⟩;have aI:B≠m:=z;clear f p r;have C:=i.cell 0;have D:=b3.cell 0;have E:=b3.cell 1;simp at C D E;have df:(cD 202 (.map (Z m)) (cg #[J V s,J V id]) true).run af W.drew=.ok (aB #[J V 0,ai false]) W.drew:=gE.Ip W.drew ue nV m ds _ (j.dW (F:=cr) (cS.refl cr W).drew (λq=>q)) (s,(id:Int)) ok c (vc _);clear c;obtain⟨HM,H3,HG,AL⟩:=cA j b3 i l;clear j b3 i l;go_wp2_with fail;go_region;all_goals
  refine gN (λY=>aK Y B 210 #[J V s,J V id]/\aK Y g 204 #[.map (Z m)]/\gE KB Y m ds (λx=>J V (v x))/\aC w Y) ⟨H3.O.drew,HG.O.drew,HM.O.dW (F:=cr) (cS.refl cr W).drew (λq=>q),cd AL.O 1⟩ ?_;rintro Y ⟨b3,i,j,l⟩;have C:=i.cell 0;have D:=b3.cell 0;have E:=b3.cell 1;simp at C D E;obtain⟨eI,Q,R,G⟩:=gE.Ci Y.drew ue nV m ds _ (j.dW (F:=cr) (cS.refl cr Y).drew (λq=>q)) ui (s,(id:Int)) (J V 0) A.O ok;have Q:(eF 202 (.map (Z m)) (cg #[J V s,J V id]) (J V 0)).run af Y.drew=.ok () eI:=Q;have S:=i.drew.dW G (λq=>mg q.symm);have T:=((cS.bn (F:=One m) l).drew.trans G);obtain⟨n,H,o⟩:=bU S R T;clear b3 i j l S R G T;go_wp2_with fail;go_region;all_goals
   go_wp2_with fail;go_ret;refine⟨rfl,⟨_,λx=>if x=(s,(id:Int)) then 0 else v x,?_,?_,y.O⟩,?_⟩
   ·first|exact n.O|exact n.O.drew
   ·have U:=H.O.congr (g:=λx=>J V (if x=(s,(id:Int)) then 0 else v x)) (λx _=>by split<;>rfl);first|exact U|exact U.dW (F:=cr) ((cS.refl cr _).drewN _) (λq=>q)
   ·first|exact o.O|exact o.O.drewN _
end
abbrev sorted(zs:List Int):List Int:=zs.mergeSort λx y=>decide (x<=y)
def ze{base n:Nat}{v:Value}{zs:List Int}(w:aw)(h:w.ownsRow base 3 1 v n (zs.map (J V)))(d:n<=1000000) :
  aF af 158 #[v] w λe w'=>e=av (aB #[])/\w'.ownsRow base 3 1 v n ((sorted zs).map (J V))/\w.grownBy w' v.ownBlock:=by
 have a:zs.length=n:=by have:=h.1;simpa using this
 rcases h.2 with⟨rfl,rfl⟩ | ⟨g,cap,dx,rfl,h1,h2,h3,h4,h5,h6⟩
 ·have b:zs=[]:=cU.1 a;subst b;exact(Tryz.slices_Sort_int_none I 0 w).mono λe w' ⟨q,r⟩=>⟨q,r ▸ (by simpa[sorted]using h),r ▸ ⟨rfl,rfl,rfl,aj _,λ_ _ _=>rfl⟩⟩
 ·subst a;have c:Go.Sort.Holds (J V) w g 0 zs.toArray:=holds_of_block_i h2 (by simpa using h6);refine(Tryz.slices_Sort_int g 0 cap zs w c (h.lt g rfl).2 z).mono λe w' ⟨q,n,os,r⟩=>⟨q,?_,?_⟩
  ·rw[r];exact ownsRow_sorted_i (by simp[sorted]) h1 h2 h3 h4 h5
  ·rw[r];exact grownBy_sorted_i _
end Go.Proofs.YtkfblammcilfhaaGreatDoor
