import Derived.Deep.RegionLaw
import Derived.Laws.AppendOwn
import Derived.Test.YtkfblammcilfhaaGreatDoorP1
import Derived.Test.YtkfblammcilfhaaGreatDoorP2
set_option linter.all false
set_option maxRecDepth 100000
set_option maxHeartbeats 100000000
open Go.ChangeShapes Go.WideShapes Go.ChangeAt Go.RowKit Go.Proofs.Tryz
open Go.IntKind renaming u16->aN,signed->fR,bits->gM,i64->V,u64->nS,u32->ar,u8->bI
open Go renaming World->aw,Calls->aF,bodyPost_ret->ax,results->aV
open Go.Proofs.Tryz renaming prog->af
open Go.RowKit.Below renaming refl->ao,alloc->gH,setCell->gT,drew->ld
open Nat renaming le_refl->aj,le_trans->aP
open Go.IntWalk renaming i64_in->cz
open Prod renaming fst->gO
open List renaming mem_append->bt,getElem?_eq_some_iff->aS,map_cons->eV,cons_append->lA,nodup_cons->iM,mem_cons->fw,append_assoc->dL,perm_middle->tp,getElem?_append_left->dk,length_tail->tv,getElem_of_mem->ed,getElem?_eq_getElem->ay,mem_map->eU,Sublist->jz,tail_sublist->ss,nodup_append->jj,mem_singleton->kr,length_drop->lz,length_cons->ft,getElem?_cons_succ->iY
open List.Sublist renaming refl->gf,append_left->kZ
open Go.Value renaming int->J,slice->ae,bool->ai,pointer->aq,tuple->aB,agg->cg
open Go.Ending renaming returned->av
open Or renaming inl->aJ,inr->aZ
open Option renaming none->I,some->Z
namespace Go.Proofs.YtkfblammcilfhaaGreatDoor
end Go.Proofs.YtkfblammcilfhaaGreatDoor
open Go.Proofs.YtkfblammcilfhaaGreatDoor
namespace Go.Proofs.YtkfblammcilfhaaGreatDoor.rA
open Go.ChangeShapes Go.WideShapes Go.ChangeAt Go.RowKit Go.Proofs.YtkfblammcilfhaaGreatDoor
def Af(a b:Int):Int:=IntKind.i16.wrap (aN.wrap (b-a))
def KQ(n:Int):IntKind.i16.wrap n=(n+32768) % 65536-32768:=by
 simp[IntKind.wrap,fR,gM];omega
def wrap_u16(n:Int):aN.wrap n=n % 65536:=by
 simp[IntKind.wrap,fR,gM]
def IK(a b:Int):Af a b=(b-a+32768) % 65536-32768:=by
 unfold Af;rw[KQ,wrap_u16];omega
def yS(a b:Int):-32768<=Af a b/\Af a b<=32767:=by rw[IK];omega
def Fe(a b:Int)(w:aw) :
  aF af 275 #[J aN a,J aN b] w λe w'=>e=av (J V (Af a b))/\w=w':=by
 have h:=yS a b;have e:wrap64 (Af a b)=Af a b:=IntWalk.wrap64_in _ ⟨z,z⟩;have H:=au e;clear e h;go_enter func275,ntmps275;go_wp2;go_ret;exact⟨yN H.O,rfl⟩
def BR(a b:Int)(w:aw) :
  aF af 229 #[J aN a,J aN b] w λe w'=>e=av (J V (Af a b))/\w=w':=by
 obtain⟨h1,h2⟩:=yS a b;go_enter func229,ntmps229;go_wp2_with (go_at_call 275;refine(Fe _ _ _).mono ?_;rintro e w' ⟨rfl,rfl⟩);go_ret;exact⟨rfl,rfl⟩
def Ky(a b:Int)(w:aw) :
  aF af 326 #[J aN a,J aN b] w λe w'=>e=av (ai (decide (0<Af a b)))/\w=w':=by
 go_enter func326,ntmps326;go_wp2_with (go_at_call 229;refine(BR _ _ _).mono ?_;rintro e w' ⟨rfl,rfl⟩);go_ret;exact⟨rfl,rfl⟩
def KA(s:Int)(w:aw)(a:0<=s/\s<=65535) :
  aF af 181 #[J aN s] w λe w'=>e=av (J V (65536+s))/\w=w':=by
 obtain⟨h1,h2⟩:=a;go_enter func181,ntmps181;go_wp2;go_ret;exact⟨rfl,rfl⟩
def Ot(n:Int)(w:aw) :
  aF af 230 #[J V n] w λe w'=>e=av (J aN (aN.wrap n))/\w=w':=by
 go_enter func230,ntmps230;go_wp2;go_ret;exact⟨rfl,rfl⟩
def ext(n s:Int):Int:=wrap64 (n+Af (aN.wrap n) s)
def H8(n s:Int)(w:aw) :
  aF af 182 #[J V n,J aN s] w λe w'=>e=av (J V (ext n s))/\w=w':=by
 obtain⟨h1,h2⟩:=yS (aN.wrap n) s;go_enter func182,ntmps182;go_wp2_with (first|(go_at_call 230;refine(Ot _ _).mono ?_;rintro e w' ⟨rfl,rfl⟩)|(go_at_call 229;refine(BR _ _ _).mono ?_;rintro e w' ⟨rfl,rfl⟩));go_ret;exact⟨rfl,rfl⟩
end Go.Proofs.YtkfblammcilfhaaGreatDoor.rA
namespace Go.Proofs.YtkfblammcilfhaaGreatDoor
end Go.Proofs.YtkfblammcilfhaaGreatDoor
open Go.Proofs.YtkfblammcilfhaaGreatDoor
namespace Go.Proofs.YtkfblammcilfhaaGreatDoor.om
open Go.ChangeShapes Go.WideShapes Go.ChangeAt Go.RowKit Go.Proofs.YtkfblammcilfhaaGreatDoor
abbrev mO(c t:Int):Value:=cg #[J V c,J V t]
def O8(c t l:Int)(k:Bool):Int:=if l=c then c else if l=t then(if k then l else c) else c
def OZ(c t l:Int)(k:Bool):Int:=if l=c then 0 else if l=t then(if k then 0 else 5) else 4
def OY(c t l:Int)(k:Bool):Bool:=if l=c then false else if l=t then k else false
def qQ(c t l:Int)(k:Bool)(w:aw) :
  aF af 189 #[mO c t,J V l,ai k] w λe w' =>
   e=av (aB #[mO (O8 c t l k) t,J V (OZ c t l k),ai (OY c t l k)])/\aC w w':=by
 by_cases h1:l=c
 ·subst h1;go_enter func189,ntmps189;go_wp2;refine ax (v:=aB #[mO l t,J V 0,ai false]) (by simp[aV,results189,go_sem]) rfl ⟨by simp[O8,OZ,OY],?_⟩;repeat (first|(with_reducible exact ao _ _)|((with_reducible refine gH ?_ ?hh _);case hh=>(first|omega|(simp;omega)|simp)))
 ·by_cases h2:l=t
  ·subst h2;have g1:(l==c)=false:=dZ;have g2:(l !=c)=true:=dZ;cases k
   ·go_enter func189,ntmps189;go_wp2;refine ax (v:=aB #[mO c l,J V 5,ai false]) (by simp[aV,results189,go_sem]) rfl ⟨by simp[O8,OZ,OY,h1],?_⟩;repeat (first|(with_reducible exact ao _ _)|((with_reducible refine gH ?_ ?hh _);case hh=>(first|omega|(simp;omega)|simp)))
   ·go_enter func189,ntmps189;go_wp2;refine ax (v:=aB #[mO l l,J V 0,ai true]) (by simp[aV,results189,go_sem]) rfl ⟨by simp[O8,OZ,OY,h1],?_⟩;repeat (first|(with_reducible exact ao _ _)|((with_reducible refine gH ?_ ?hh _);case hh=>(first|omega|(simp;omega)|simp)))
  ·have g1:(l==c)=false:=dZ;have g2:(l !=c)=true:=dZ;have g3:(l==t)=false:=dZ;go_enter func189,ntmps189;go_wp2;refine ax (v:=aB #[mO c t,J V 4,ai false]) (by simp[aV,results189,go_sem]) rfl ⟨by simp[O8,OZ,OY,h1,h2],?_⟩;repeat (first|(with_reducible exact ao _ _)|((with_reducible refine gH ?_ ?hh _);case hh=>(first|omega|(simp;omega)|simp)))
def Ii(c t u:Int)(w:aw)(h0:0<=u)(h1:u<3) :
  aF af 154 #[mO c t,J V u] w λe w'=>e=av (aB #[mO c u,J V 0])/\aC w w':=by
 go_enter func154,ntmps154;go_wp2;refine ax (v:=aB #[mO c u,J V 0]) (by simp[aV,results154,go_sem]) rfl ⟨rfl,?_⟩;repeat (first|(with_reducible exact ao _ _)|((with_reducible refine gH ?_ ?hh _);case hh=>(first|omega|(simp;omega)|simp)))
def zc(u:Int)(w:aw)(h0:0<=u)(h1:u<3) :
  aF af 155 #[J V u] w λe w'=>e=av (aB #[mO (-1) u,J V 0])/\aC w w':=by
 go_enter func155,ntmps155;go_wp2_with fail;refine(Ii _ _ _ _ h0 h1).mono ?_;rintro e w1 ⟨rfl,b1⟩;have a:aK w1 w.heap.size 68 _:=(aK.new w 68 _).kept b1;have c1:=a.cell;have f1:=a.frozen;have d1:aC w w1:=((ao _ _).alloc (aj _) _).trans (b1.mono dt);go_wp2_with fail;refine ax (v:=aB #[mO (-1) u,J V 0]) (by simp[aV,results155,go_sem,c1]) rfl ⟨rfl,?_⟩;repeat (first|(with_reducible exact d1)|((with_reducible refine gT ?_ ?hh _);case hh=>(first|omega|(simp;omega)|simp)))
def NI(c t:Int):Bool:=c !=t
def rV(c t:Int)(w:aw):aF af 18 #[mO c t] w λe w'=>e=av (ai (NI c t))/\aC w w':=by
 go_enter func18,ntmps18;go_wp2;go_ret;refine⟨rfl,?_⟩;repeat (first|(with_reducible exact ao _ _)|((with_reducible refine gH ?_ ?hh _);case hh=>(first|omega|(simp;omega)|simp)))
end Go.Proofs.YtkfblammcilfhaaGreatDoor.om
namespace Go.Proofs.YtkfblammcilfhaaGreatDoor
end Go.Proofs.YtkfblammcilfhaaGreatDoor
open Go.Proofs.YtkfblammcilfhaaGreatDoor
namespace Go.Proofs.YtkfblammcilfhaaGreatDoor.Fg
open Go.ChangeShapes Go.WideShapes Go.ChangeAt Go.RowKit Go.Proofs.YtkfblammcilfhaaGreatDoor
abbrev mO(m r:Int)(g:Bool):Value:=cg #[J V m,J V r,ai g]
def zc(m:Int)(w:aw)(h0:1<=m)(h1:m<=10) :
  aF af 151 #[J V m] w λe w'=>e=av (aB #[mO m 0 false,J V 0])/\aC w w':=by
 go_enter func151,ntmps151;go_wp2;refine ax (v:=aB #[mO m 0 false,J V 0]) (by simp[aV,results151,go_sem]) rfl ⟨rfl,?_⟩;repeat (first|(with_reducible exact ao _ _)|(with_reducible refine ld ?_)|((with_reducible refine gH ?_ ?hh _);case hh=>(first|omega|(simp;omega)|simp))|((with_reducible refine gT ?_ ?hh _);case hh=>(first|omega|(simp;omega)|simp)))
def DF(m r:Int)(g:Bool)(b:Bool)(w:aw)(h0:0<=r)(h1:r<=100)(a:(r+1==m)=b) :
  aF af 218 #[mO m r g] w λe w'=>e=av (mO m (r+1) b)/\w'=(w.alloc (.cells #[J V m,J V (r+1),ai b] 131)).alloc (.cells #[J V m,J V (r+1),ai b] 131):=by
 go_enter func218,ntmps218;go_wp2;exact ax (v:=mO m (r+1) b) (by simp[aV,results218,go_sem]) rfl ⟨rfl,rfl⟩
def Dc(m r:Int)(g:Bool)(w:aw) :
  aF af 219 #[mO m r g] w λe w'=>e=av (mO m 0 g)/\w'=(w.alloc (.cells #[J V m,J V 0,ai g] 131)).alloc (.cells #[J V m,J V 0,ai g] 131):=by
 go_enter func219,ntmps219;go_wp2;exact ax (v:=mO m 0 g) (by simp[aV,results219,go_sem]) rfl ⟨rfl,rfl⟩
def CD(m r:Int)(a:Bool)(w:aw) :
  aF af 166 #[mO m r true,ai a] w λe w'=>e=av (aB #[mO m r true,ai false])/\∃c1 c2,w'=(w.alloc (.cells c1 131)).alloc (.cells c2 131):=by
 go_enter func166,ntmps166;go_wp2;exact ax (v:=aB #[mO m r true,ai false]) (by simp[aV,results166,go_sem]) rfl ⟨rfl,_,_,rfl⟩
def DV(m r:Int)(w:aw) :
  aF af 166 #[mO m r false,ai true] w λe w'=>e=av (aB #[mO m 0 false,ai false])/\∃c1 c2 c3 c4 c5,w'=(((((w.alloc (.cells c1 131)).alloc (.cells c2 131)).alloc (.cells c3 131)).alloc (.cells c4 131)).alloc (.cells c5 131)).drew:=by
 go_enter func166,ntmps166;go_wp2_with (go_at_call 219;refine(Dc _ _ _ _).mono ?_;rintro e w' ⟨rfl,rfl⟩);go_region;go_wp2;exact ax (v:=aB #[mO m 0 false,ai false]) (by simp[aV,results166,go_sem]) rfl ⟨rfl,_,_,_,_,_,rfl⟩
def Gk(m r:Int)(b:Bool)(w:aw)(h0:0<=r)(h1:r<=100)(a:(r+1==m)=b) :
  aF af 166 #[mO m r false,ai false] w λe w'=>e=av (aB #[mO m (r+1) b,ai b])/\∃c1 c2 c3 c4 c5,w'=(((((w.alloc (.cells c1 131)).alloc (.cells c2 131)).alloc (.cells c3 131)).alloc (.cells c4 131)).alloc (.cells c5 131)).drew:=by
 have c:=au a;clear a;go_enter func166,ntmps166;go_wp2_with (go_at_call 218;refine(DF _ _ _ b _ h0 h1 c.O).mono ?_;rintro e w' ⟨rfl,rfl⟩);go_region;go_wp2;exact ax (v:=aB #[mO m (r+1) b,ai b]) (by simp[aV,results166,go_sem]) rfl ⟨rfl,_,_,_,_,_,rfl⟩
def MX(w:aw)(a b c d e:Obj):aC w (((((w.alloc a).alloc b).alloc c).alloc d).alloc e).drew:=
 (((((((ao _ _).alloc (aj _) a).alloc dt b).alloc dZ c).alloc dZ d).alloc dZ e).drew)
def Gl(m r:Int)(a:Bool)(w:aw) :
  aF af 166 #[mO m r true,ai a] w λe w'=>e=av (aB #[mO m r true,ai false])/\aC w w':=
 (CD m r a w).mono λe w' ⟨he,c1,c2,hw⟩=>⟨he,hw ▸ ((ao _ _).alloc (aj _) _).alloc dt _⟩
def Jy(m r:Int)(w:aw) :
  aF af 166 #[mO m r false,ai true] w λe w'=>e=av (aB #[mO m 0 false,ai false])/\aC w w':=
 (DV m r w).mono λe w' ⟨he,c1,c2,c3,c4,c5,hw⟩=>⟨he,hw ▸ MX _ _ _ _ _ _⟩
def LN(m r:Int)(b:Bool)(w:aw)(h0:0<=r)(h1:r<=100)(a:(r+1==m)=b) :
  aF af 166 #[mO m r false,ai false] w λe w'=>e=av (aB #[mO m (r+1) b,ai b])/\aC w w':=
 (Gk m r b w h0 h1 a).mono λe w' ⟨he,c1,c2,c3,c4,c5,hw⟩=>⟨he,hw ▸ MX _ _ _ _ _ _⟩
end Go.Proofs.YtkfblammcilfhaaGreatDoor.Fg
namespace Go.Proofs.YtkfblammcilfhaaGreatDoor
end Go.Proofs.YtkfblammcilfhaaGreatDoor
open Go.Proofs.YtkfblammcilfhaaGreatDoor
namespace Go.Proofs.YtkfblammcilfhaaGreatDoor.Rewrite
open Go.ChangeShapes Go.WideShapes Go.ChangeAt Go.RowKit Go.Proofs.YtkfblammcilfhaaGreatDoor
def OD(aU:Int)(any:Bool)(fH shift h:Int)(first:Bool):Int:=
 if any then(if first then(fH+3000-h) % 4294967296 else shift) else(aU-h) % 4294967296
def Oz(aU:Int)(any:Bool)(fH shift h:Int)(first:Bool):Int:=(h+OD aU any fH shift h first) % 4294967296
abbrev mO(src dQ aU:Int)(any:Bool)(fH shift:Int):Value:=cg #[J ar src,J aN dQ,J ar aU,ai any,J ar fH,J ar shift]
abbrev QS(m:Bool)(t q st a:Int):Value:=cg #[ai m,J bI t,J aN q,J ar st,J ar a]
def La(src dQ aU fH shift:Int)(any:Bool)(m:Bool)(t q st a:Int)(first:Bool)(w:aw) :
  aF af 239 #[mO src dQ aU any fH shift,QS m t q st a,ai first] w λe w' =>
   e=av (cg #[ai m,J bI t,J aN dQ,J ar (Oz aU any fH shift st first),J ar src,J ar (OD aU any fH shift st first)])/\∃c1 c2 c3 c4,w'=(((w.alloc (.cells c1 129)).alloc (.cells c2 73)).alloc (.cells c3 405)).alloc (.cells c4 405):=by
 cases any<;>cases first
 all_goals
  go_enter func239,ntmps239;go_wp2;exact ax (v:=cg #[ai m,J bI t,J aN dQ,J ar (Oz aU _ fH shift st _),J ar src,J ar (OD aU _ fH shift st _)]) (by simp[aV,results239,go_sem,Oz,OD]) rfl ⟨rfl,_,_,_,_,rfl⟩
def zb(src dQ aU fH shift:Int)(any:Bool)(m:Bool)(t q st c:Int)(first:Bool)(w:aw) :
  aF af 192 #[mO src dQ aU any fH shift,QS m t q st c,ai first] w λe w' =>
   e=av (aB #[mO src (aN.wrap (dQ+1)) aU true (Oz aU any fH shift st first) (OD aU any fH shift st first),QS m t dQ (Oz aU any fH shift st first) src])/\aC w w':=by
 go_enter func192,ntmps192;go_wp2_with fail;refine(La _ _ _ _ _ _ _ _ _ _ _ _ _).mono ?_;rintro e w' ⟨rfl,c1,c2,c3,c4,rfl⟩;generalize a:Oz aU any fH shift st first=T
 generalize b:OD aU any fH shift st first=S
 obtain⟨d,HS⟩:=bu a b;clear a b;go_wp2_with fail;go_region;go_wp2_with fail;refine ax (v:=aB #[mO src (aN.wrap (dQ+1)) aU true T S,QS m t dQ T src]) (by simp[aV,results192,go_sem]) rfl ⟨by rw[d.O,HS.O],?_⟩;repeat (first|exact ao _ _|refine ld ?_|refine gH ?_ (by simp;try omega) _|refine gT ?_ (by simp;try omega) _)
def I4(src dQ aU:Int)(w:aw) :
  aF af 152 #[J ar src,J aN dQ,J ar aU] w λe w'=>e=av (mO src dQ aU false 0 0)/\aC w w':=by
 go_enter func152,ntmps152;go_wp2;refine ax (v:=mO src dQ aU false 0 0) (by simp[aV,results152,go_sem]) rfl ⟨rfl,?_⟩;repeat (first|exact ao _ _|refine ld ?_|refine gH ?_ (by simp;try omega) _|refine gT ?_ (by simp;try omega) _)
end Go.Proofs.YtkfblammcilfhaaGreatDoor.Rewrite
namespace Go.Proofs.YtkfblammcilfhaaGreatDoor
end Go.Proofs.YtkfblammcilfhaaGreatDoor
open Go.Proofs.YtkfblammcilfhaaGreatDoor
namespace Go.Proofs.YtkfblammcilfhaaGreatDoor.Ask
open Go.ChangeShapes Go.WideShapes Go.ChangeAt Go.RowKit Go.Proofs.YtkfblammcilfhaaGreatDoor
abbrev KE(S R:Int):Value:=cg #[J V S,J V R]
abbrev mO(wa an:Bool)(la tr:Int):Value:=cg #[ai wa,ai an,J V la,J V tr]
def yH(S R:Int):Nat->Int
 |0=>S
 |n+1=>if R<=yH S R n then yH S R n else 2*yH S R n
def ra(S R t:Int):Int:=if yH S R (t-1).toNat<R then yH S R (t-1).toNat else R
def CR{S R:Int}(h0:1<=S):∀n,1<=yH S R n
 |0=>h0
 |n+1=>by have:=CR (R:=R) h0 n;unfold yH;split<;>omega
def EB{S R:Int}(h0:1<=S):∀n,yH S R n<R->(n:Int)+1<=yH S R n
 |0,_=>by unfold yH;omega
 |n+1,h=>by
  unfold yH at h ⊢;have b:=CR (R:=R) h0 n;by_cases a:R<=yH S R n
  ·rw[if_pos a]at h;omega
  ·rw[if_neg a];have:=EB (R:=R) h0 n z;omega
def zS{S R:Int}{k:Nat}(h:R<=yH S R k):∀n,yH S R (k+n)=yH S R k
 |0=>rfl
 |n+1=>by
  have:=zS h n;rw[show k+(n+1)=(k+n)+1 from rfl,yH,this,if_pos h]
def yR{S R t:Int}(h0:1<=S)(h1:S<=R):1<=ra S R t/\ra S R t<=R:=by
 have:=CR (R:=R) h0 (t-1).toNat;unfold ra;split<;>omega
def Jf(S R:Int)(w:aw)(h0:1<=S)(h1:S<=R)(h2:R<=1000):aF af 32 #[KE S R] w λe w'=>e=av (ai true)/\w'=w.alloc (.cells #[J V S,J V R] 23):=by
 go_enter func32,ntmps32;go_wp2;go_ret;exact⟨rfl,rfl⟩
def Ll(S R:Int)(w:aw)(h:¬(1<=S/\S<=R/\R<=1000)):aF af 32 #[KE S R] w λe w'=>e=av (ai false)/\w'=w.alloc (.cells #[J V S,J V R] 23):=by
 by_cases h0:1<=S
 ·by_cases h1:S<=R
  ·have g2:decide (R<=1000)=false:=dZ;clear h;go_enter func32,ntmps32;go_wp2;go_ret;exact⟨rfl,rfl⟩
  ·have g1:decide (S<=R)=false:=dZ;clear h;go_enter func32,ntmps32;go_wp2;go_ret;exact⟨rfl,rfl⟩
 ·have g0:decide (1<=S)=false:=dZ;clear h;go_enter func32,ntmps32;go_wp2;go_ret;exact⟨rfl,rfl⟩
def yQ(S R t:Int)(w:aw)(h0:1<=S)(h1:S<=R)(h2:R<=1000):aF af 140 #[KE S R,J V t] w λe w'=>e=av (J V (ra S R t))/\w'=w.alloc (.cells #[J V S,J V R] 23):=by
 go_enter func140,ntmps140;go_wp2;go_step3;go_wp2;go_step3;go_wp2;go_loop [5,6] (λg i=>∃(k:Nat) (d:Int),i=J V (1+(k:Int))/\g=J V d/\d=yH S R k/\1<=d/\d<=2000/\(k=0\/(k:Int)<t)/\(k:Int)<=1000) (λg _=>(R-intOf g).toNat);case atStart=>exact⟨0,S,rfl,rfl,rfl,h0,z,aJ rfl,z⟩
 case round =>
  obtain⟨k,d,rfl,rfl,l,d0,d1,c,m⟩:=hrel;obtain⟨f,n⟩:=bu l c;clear l c;by_cases ht:1+(k:Int)<t
  ·by_cases hR:R<=d
   ·have a:ra S R t=R:=by
     have e:(t-1).toNat=k+((t-1).toNat-k):=z;rw[ra,e,zS (by rw[<-f.O];exact hR),<-f.O,if_neg z]
    have h:=au a;clear a;go_wp2;all_goals go_ret
    all_goals exact⟨yN (by rw[h.O];try omega),rfl⟩
   ·have b:=EB (R:=R) h0 k (by rw[<-f.O];omega);have j:(k:Int)+1<=d:=by rw[f.O];exact b
    clear b;go_wp2;go_round;case rel =>
     refine⟨k+1,d*2,by go_num,rfl,?_,z,z,aZ z,z⟩;rw[yH,<-f.O,if_neg z];omega
    case measure=>simp[intOf];omega
  ·have c:(t-1).toNat=k:=by have:=n.O;omega
   by_cases hR:d<R
   ·have a:ra S R t=d:=by rw[ra,c,<-f.O,if_pos hR]
    have h:=au a;clear a c;go_wp2;all_goals go_ret
    all_goals exact⟨yN (by rw[h.O];try omega),rfl⟩
   ·have a:ra S R t=R:=by rw[ra,c,<-f.O,if_neg hR]
    have h:=au a;clear a c;go_wp2;all_goals go_ret
    all_goals exact⟨yN (by rw[h.O];try omega),rfl⟩
def t0(wa:Bool)(tr:Int):Int:=if wa then tr else 0
def FE(S R:Int)(an:Bool)(la tr now:Int)(w:aw)(h0:1<=S)(h1:S<=R)(h2:R<=1000)(OI:0<=la)(OH:la<=1000000)(n0:0<=now)(n1:now<=1000000)(Oy:0<=tr)(Ox:tr<=1000000) :
  aF af 82 #[KE S R,mO true an la tr,ai false,J V now] w λe w'=>e=av (aB #[mO false an la 0,ai false])/\aC w w':=by
 go_enter func82,ntmps82;go_wp2_with fail;go_quiet (fail);go_wp2_with fail;all_goals
  refine ax (v:=aB #[mO false an la 0,ai false]) (by simp[aV,results82,go_sem]) rfl ⟨rfl,?_⟩;repeat (first|(with_reducible exact ao _ _)|(with_reducible refine ld ?_)|(with_reducible refine cd ?_ _)|((with_reducible refine gH ?_ ?hh _);case hh=>(first|omega|(simp;omega)|simp))|((with_reducible refine gT ?_ ?hh _);case hh=>(first|omega|(simp;omega)|simp)))
def FG(S R:Int)(an:Bool)(la tr now:Int)(w:aw)(h0:1<=S)(h1:S<=R)(h2:R<=1000)(OI:0<=la)(OH:la<=1000000)(n0:0<=now)(n1:now<=1000000)(Oy:0<=tr)(Ox:tr<=1000000) :
  aF af 82 #[KE S R,mO false an la tr,ai false,J V now] w λe w'=>e=av (aB #[mO false an la 0,ai false])/\aC w w':=by
 go_enter func82,ntmps82;go_wp2_with fail;go_quiet (fail);go_wp2_with fail;all_goals
  refine ax (v:=aB #[mO false an la 0,ai false]) (by simp[aV,results82,go_sem]) rfl ⟨rfl,?_⟩;repeat (first|(with_reducible exact ao _ _)|(with_reducible refine ld ?_)|(with_reducible refine cd ?_ _)|((with_reducible refine gH ?_ ?hh _);case hh=>(first|omega|(simp;omega)|simp))|((with_reducible refine gT ?_ ?hh _);case hh=>(first|omega|(simp;omega)|simp)))
def Ds(S R:Int)(an:Bool)(la tr now:Int)(w:aw)(h0:1<=S)(h1:S<=R)(h2:R<=1000)(OI:0<=la)(OH:la<=1000000)(n0:0<=now)(n1:now<=1000000)(Oy:0<=tr)(Ox:tr<=1000000)(a:Hd (now-la<ra S R tr)) :
  aF af 82 #[KE S R,mO true true la tr,ai true,J V now] w λe w'=>e=av (aB #[mO true true la tr,ai false])/\aC w w':=by
 have b:=yR (t:=tr) h0 h1;have G:=au (λW=>yQ S R tr W h0 h1 h2);generalize ra S R tr=c at a b G;have d:=a.O;clear a;have j:decide (now-la<c)=true:=dZ;have f:decide (now<la+c)=true:=dZ;obtain⟨g,h⟩:=b;have i:V.wrap (now-la)=now-la:=cz _ ⟨z,z⟩;go_enter func82,ntmps82;go_wp2_with fail;go_region_held3 (λW=>W.cell? ⟨w.heap.size,0,I⟩=Z (J V S)/\W.cell? ⟨w.heap.size,1,I⟩=Z (J V R)/\W.cell? ⟨w.heap.size+1,1,I⟩=Z (ai true)/\W.cell? ⟨w.heap.size+1,2,I⟩=Z (J V la)/\W.cell? ⟨w.heap.size+1,3,I⟩=Z (J V tr)) (simp[go_sem]) (first|(go_at_call 140;refine(G.O _).mono ?_;rintro e w' ⟨rfl,rfl⟩));go_wp2_with fail;all_goals
  refine ax (v:=aB #[mO true true la tr,ai false]) (by simp[aV,results82,go_sem]) rfl ⟨rfl,?_⟩;repeat (first|(with_reducible exact ao _ _)|(with_reducible refine ld ?_)|(with_reducible refine cd ?_ _)|((with_reducible refine gH ?_ ?hh _);case hh=>(first|omega|(simp;omega)|simp))|((with_reducible refine gT ?_ ?hh _);case hh=>(first|omega|(simp;omega)|simp)))
def Dt(S R:Int)(an:Bool)(la tr now:Int)(w:aw)(h0:1<=S)(h1:S<=R)(h2:R<=1000)(OI:0<=la)(OH:la<=1000000)(n0:0<=now)(n1:now<=1000000)(Oy:0<=tr)(Ox:tr<=1000000)(a:Hd (now-la<ra S R 0)) :
  aF af 82 #[KE S R,mO false true la tr,ai true,J V now] w λe w'=>e=av (aB #[mO true true la 0,ai false])/\aC w w':=by
 have b:=yR (t:=0) h0 h1;have G:=au (λW=>yQ S R 0 W h0 h1 h2);generalize ra S R 0=c at a b G;have d:=a.O;clear a;have j:decide (now-la<c)=true:=dZ;have f:decide (now<la+c)=true:=dZ;obtain⟨g,h⟩:=b;have i:V.wrap (now-la)=now-la:=cz _ ⟨z,z⟩;go_enter func82,ntmps82;go_wp2_with fail;go_region_held3 (λW=>W.cell? ⟨w.heap.size,0,I⟩=Z (J V S)/\W.cell? ⟨w.heap.size,1,I⟩=Z (J V R)/\W.cell? ⟨w.heap.size+1,1,I⟩=Z (ai true)/\W.cell? ⟨w.heap.size+1,2,I⟩=Z (J V la)/\W.cell? ⟨w.heap.size+1,3,I⟩=Z (J V 0)) (simp[go_sem]) (first|(go_at_call 140;refine(G.O _).mono ?_;rintro e w' ⟨rfl,rfl⟩));go_wp2_with fail;all_goals
  refine ax (v:=aB #[mO true true la 0,ai false]) (by simp[aV,results82,go_sem]) rfl ⟨rfl,?_⟩;repeat (first|(with_reducible exact ao _ _)|(with_reducible refine ld ?_)|(with_reducible refine cd ?_ _)|((with_reducible refine gH ?_ ?hh _);case hh=>(first|omega|(simp;omega)|simp))|((with_reducible refine gT ?_ ?hh _);case hh=>(first|omega|(simp;omega)|simp)))
def Cd(S R:Int)(an:Bool)(la tr now:Int)(w:aw)(h0:1<=S)(h1:S<=R)(h2:R<=1000)(OI:0<=la)(OH:la<=1000000)(n0:0<=now)(n1:now<=1000000)(Oy:0<=tr)(Ox:tr<=1000000) :
  aF af 82 #[KE S R,mO true false la tr,ai true,J V now] w λe w'=>e=av (aB #[mO true true now (tr+1),ai true])/\aC w w':=by
 go_enter func82,ntmps82;go_wp2_with fail;go_quiet (fail);go_wp2_with fail;all_goals
  refine ax (v:=aB #[mO true true now (tr+1),ai true]) (by simp[aV,results82,go_sem]) rfl ⟨rfl,?_⟩;repeat (first|(with_reducible exact ao _ _)|(with_reducible refine ld ?_)|(with_reducible refine cd ?_ _)|((with_reducible refine gH ?_ ?hh _);case hh=>(first|omega|(simp;omega)|simp))|((with_reducible refine gT ?_ ?hh _);case hh=>(first|omega|(simp;omega)|simp)))
def Ce(S R:Int)(an:Bool)(la tr now:Int)(w:aw)(h0:1<=S)(h1:S<=R)(h2:R<=1000)(OI:0<=la)(OH:la<=1000000)(n0:0<=now)(n1:now<=1000000)(Oy:0<=tr)(Ox:tr<=1000000) :
  aF af 82 #[KE S R,mO false false la tr,ai true,J V now] w λe w'=>e=av (aB #[mO true true now (0+1),ai true])/\aC w w':=by
 go_enter func82,ntmps82;go_wp2_with fail;go_quiet (fail);go_wp2_with fail;all_goals
  refine ax (v:=aB #[mO true true now (0+1),ai true]) (by simp[aV,results82,go_sem]) rfl ⟨rfl,?_⟩;repeat (first|(with_reducible exact ao _ _)|(with_reducible refine ld ?_)|(with_reducible refine cd ?_ _)|((with_reducible refine gH ?_ ?hh _);case hh=>(first|omega|(simp;omega)|simp))|((with_reducible refine gT ?_ ?hh _);case hh=>(first|omega|(simp;omega)|simp)))
def Cf(S R:Int)(an:Bool)(la tr now:Int)(w:aw)(h0:1<=S)(h1:S<=R)(h2:R<=1000)(OI:0<=la)(OH:la<=1000000)(n0:0<=now)(n1:now<=1000000)(Oy:0<=tr)(Ox:tr<=1000000)(a:Hd (ra S R tr<=now-la)) :
  aF af 82 #[KE S R,mO true true la tr,ai true,J V now] w λe w'=>e=av (aB #[mO true true now (tr+1),ai true])/\aC w w':=by
 have b:=yR (t:=tr) h0 h1;have G:=au (λW=>yQ S R tr W h0 h1 h2);generalize ra S R tr=c at a b G;have d:=a.O;clear a;have j:decide (now-la<c)=false:=dZ;have f:decide (now<la+c)=false:=dZ;obtain⟨g,h⟩:=b;have i:V.wrap (now-la)=now-la:=cz _ ⟨z,z⟩;go_enter func82,ntmps82;go_wp2_with fail;go_region_held3 (λW=>W.cell? ⟨w.heap.size,0,I⟩=Z (J V S)/\W.cell? ⟨w.heap.size,1,I⟩=Z (J V R)/\W.cell? ⟨w.heap.size+1,1,I⟩=Z (ai true)/\W.cell? ⟨w.heap.size+1,2,I⟩=Z (J V la)/\W.cell? ⟨w.heap.size+1,3,I⟩=Z (J V tr)) (simp[go_sem]) (first|(go_at_call 140;refine(G.O _).mono ?_;rintro e w' ⟨rfl,rfl⟩));go_wp2_with fail;all_goals
  refine ax (v:=aB #[mO true true now (tr+1),ai true]) (by simp[aV,results82,go_sem]) rfl ⟨rfl,?_⟩;repeat (first|(with_reducible exact ao _ _)|(with_reducible refine ld ?_)|(with_reducible refine cd ?_ _)|((with_reducible refine gH ?_ ?hh _);case hh=>(first|omega|(simp;omega)|simp))|((with_reducible refine gT ?_ ?hh _);case hh=>(first|omega|(simp;omega)|simp)))
def Cg(S R:Int)(an:Bool)(la tr now:Int)(w:aw)(h0:1<=S)(h1:S<=R)(h2:R<=1000)(OI:0<=la)(OH:la<=1000000)(n0:0<=now)(n1:now<=1000000)(Oy:0<=tr)(Ox:tr<=1000000)(a:Hd (ra S R 0<=now-la)) :
  aF af 82 #[KE S R,mO false true la tr,ai true,J V now] w λe w'=>e=av (aB #[mO true true now (0+1),ai true])/\aC w w':=by
 have b:=yR (t:=0) h0 h1;have G:=au (λW=>yQ S R 0 W h0 h1 h2);generalize ra S R 0=c at a b G;have d:=a.O;clear a;have j:decide (now-la<c)=false:=dZ;have f:decide (now<la+c)=false:=dZ;obtain⟨g,h⟩:=b;have i:V.wrap (now-la)=now-la:=cz _ ⟨z,z⟩;go_enter func82,ntmps82;go_wp2_with fail;go_region_held3 (λW=>W.cell? ⟨w.heap.size,0,I⟩=Z (J V S)/\W.cell? ⟨w.heap.size,1,I⟩=Z (J V R)/\W.cell? ⟨w.heap.size+1,1,I⟩=Z (ai true)/\W.cell? ⟨w.heap.size+1,2,I⟩=Z (J V la)/\W.cell? ⟨w.heap.size+1,3,I⟩=Z (J V 0)) (simp[go_sem]) (first|(go_at_call 140;refine(G.O _).mono ?_;rintro e w' ⟨rfl,rfl⟩));go_wp2_with fail;all_goals
  refine ax (v:=aB #[mO true true now (0+1),ai true]) (by simp[aV,results82,go_sem]) rfl ⟨rfl,?_⟩;repeat (first|(with_reducible exact ao _ _)|(with_reducible refine ld ?_)|(with_reducible refine cd ?_ _)|((with_reducible refine gH ?_ ?hh _);case hh=>(first|omega|(simp;omega)|simp))|((with_reducible refine gT ?_ ?hh _);case hh=>(first|omega|(simp;omega)|simp)))
def Dg(S R:Int)(wa an:Bool)(la tr:Int)(wt:Bool)(now:Int):Bool:=wt && !(an&&decide (now-la<ra S R (t0 wa tr)))
def JE(S R:Int)(wa an:Bool)(la tr:Int)(wt:Bool)(now:Int):Int:=if Dg S R wa an la tr wt now then now else la
def JD(S R:Int)(wa an:Bool)(la tr:Int)(wt:Bool)(now:Int):Int:=if wt then(if Dg S R wa an la tr wt now then t0 wa tr+1 else t0 wa tr) else 0
def JF(S R:Int)(wa an:Bool)(la tr:Int)(wt:Bool)(now:Int):Bool:=an||Dg S R wa an la tr wt now
structure Fit(S R la tr now:Int):Prop where
 h0:1<=S
 h1:S<=R
 h2:R<=1000
 OI:0<=la
 OH:la<=1000000
 n0:0<=now
 n1:now<=1000000
 Oy:0<=tr
 Ox:tr<=1000000
def zb(S R:Int)(wa an:Bool)(la tr:Int)(wt:Bool)(now:Int)(w:aw)(F:Fit S R la tr now) :
  aF af 82 #[KE S R,mO wa an la tr,ai wt,J V now] w λe w'=>e=av (aB #[mO wt (JF S R wa an la tr wt now) (JE S R wa an la tr wt now) (JD S R wa an la tr wt now),ai (Dg S R wa an la tr wt now)])/\aC w w':=by
 obtain⟨h0,h1,h2,l0,l1,n0,n1,b,c⟩:=F;cases wt
 ·have a:Dg S R wa an la tr false now=false:=by simp[Dg]
  have d:JF S R wa an la tr false now=an:=by simp[JF,a]
  have f:JE S R wa an la tr false now=la:=by simp[JE,a]
  have g:JD S R wa an la tr false now=0:=by simp[JD]
  rw[a,d,f,g];cases wa
  ·exact FG S R an la tr now w h0 h1 h2 l0 l1 n0 n1 b c
  ·exact FE S R an la tr now w h0 h1 h2 l0 l1 n0 n1 b c
 ·cases an
  ·have a:Dg S R wa false la tr true now=true:=by simp[Dg]
   have d:JF S R wa false la tr true now=true:=by simp[JF,a]
   have f:JE S R wa false la tr true now=now:=by simp[JE,a]
   have g:JD S R wa false la tr true now=t0 wa tr+1:=by simp[JD,a]
   rw[a,d,f,g];cases wa
   ·exact Ce S R false la tr now w h0 h1 h2 l0 l1 n0 n1 b c
   ·exact Cd S R false la tr now w h0 h1 h2 l0 l1 n0 n1 b c
  ·by_cases hg:now-la<ra S R (t0 wa tr)
   ·have a:Dg S R wa true la tr true now=false:=by simp[Dg,hg]
    have d:JF S R wa true la tr true now=true:=by simp[JF]
    have f:JE S R wa true la tr true now=la:=by simp[JE,a]
    have g:JD S R wa true la tr true now=t0 wa tr:=by simp[JD,a]
    rw[a,d,f,g];cases wa
    ·exact Dt S R true la tr now w h0 h1 h2 l0 l1 n0 n1 b c hg
    ·exact Ds S R true la tr now w h0 h1 h2 l0 l1 n0 n1 b c hg
   ·have a:Dg S R wa true la tr true now=true:=by simp[Dg];omega
    have d:JF S R wa true la tr true now=true:=by simp[JF]
    have f:JE S R wa true la tr true now=now:=by simp[JE,a]
    have g:JD S R wa true la tr true now=t0 wa tr+1:=by simp[JD,a]
    rw[a,d,f,g];cases wa
    ·exact Cg S R true la tr now w h0 h1 h2 l0 l1 n0 n1 b c (Int.not_lt.1 hg)
    ·exact Cf S R true la tr now w h0 h1 h2 l0 l1 n0 n1 b c (Int.not_lt.1 hg)
structure gk where
 wa:Bool
 an:Bool
 la:Int
 tr:Int
 at_:List Int
def Nh:Nat->gk
 |0=>⟨false,false,0,0,[]⟩
 |k+1 =>
  let s:=Nh k
  ⟨true,JF 2 7 s.wa s.an s.la s.tr true k,JE 2 7 s.wa s.an s.la s.tr true k,JD 2 7 s.wa s.an s.la s.tr true k,if Dg 2 7 s.wa s.an s.la s.tr true k then s.at_++[(k:Int)] else s.at_⟩
end Go.Proofs.YtkfblammcilfhaaGreatDoor.Ask
namespace Go.Proofs.YtkfblammcilfhaaGreatDoor
def Ht(a b:Int):rA.Af a b=M.nx a b:=by
 rw[rA.IK];unfold M.nx;split<;>omega
def NS(a b:Int)(w:aw):aF af 326 #[J aN a,J aN b] w λe w'=>e=av (ai (decide (0<M.nx a b)))/\w'=w:=
 (rA.Ky a b w).mono λe w' ⟨h,q⟩=>⟨by rw[h,Ht],q.symm⟩
def Oa(s:Int)(w:aw)(a:0<=s/\s<=65535):aF af 181 #[J aN s] w λe w'=>e=av (J V (M.nE s))/\w'=w:=
 (rA.KA s w a).mono λe w' ⟨h,q⟩=>⟨by rw[h];rfl,q.symm⟩
def BD(n s:Int):n-32768<=M.jL n s/\M.jL n s<=n+32767:=by
 have h:=rA.yS (n % 65536) s;rw[Ht]at h;unfold M.jL;omega
def MM(n s:Int)(w:aw)(c:-1000000000000<=n/\n<=1000000000000):aF af 182 #[J V n,J aN s] w λe w'=>e=av (J V (M.jL n s))/\w'=w:=
 (rA.H8 n s w).mono λe w' ⟨h,q⟩=>⟨by
  rw[h]
  have a:=BD n s
  have b:rA.ext n s=M.jL n s:=by
   unfold rA.ext
   rw[Ht,rA.wrap_u16]
   exact IntWalk.wrap64_in _ ⟨by have:=a.1;unfold M.jL at this;omega,by have:=a.2;unfold M.jL at this;omega⟩
  rw[b],q.symm⟩
def Pa(c t l:Int)(k:Bool):M.take c t l k=(om.O8 c t l k,om.OZ c t l k,om.OY c t l k):=by
 unfold M.take om.O8 om.OZ om.OY;by_cases h1:l=c
 ·subst h1;simp
 ·by_cases h2:l=t
  ·subst h2;cases k<;>simp[h1]
  ·simp[h1,h2]
def MS(c t l:Int)(k:Bool)(w:aw):aF af 189 #[cg #[J V c,J V t],J V l,ai k] w λe w' =>
  e=av (aB #[cg #[J V (M.take c t l k).1,J V t],J V (M.take c t l k).2.1,ai (M.take c t l k).2.2])/\aC w w':=by
 rw[Pa];exact om.qQ c t l k w
def wv(m r:Int)(g a:Bool):Int×Bool×Bool:=if g then(r,true,false) else if a then(0,false,false) else(r+1,decide (r+1=m),decide (r+1=m))
def Ix(m r:Int)(g a:Bool)(w:aw)(h0:0<=r)(h1:r<=100):aF af 166 #[cg #[J V m,J V r,ai g],ai a] w λe w' =>
  e=av (aB #[cg #[J V m,J V (wv m r g a).1,ai (wv m r g a).2.1],ai (wv m r g a).2.2])/\aC w w':=by
 cases g
 ·cases a
  ·exact Fg.LN m r (decide (r+1=m)) w h0 h1 (by by_cases h:r+1=m<;>simp[h])
  ·exact Fg.Jy m r w
 ·exact Fg.Gl m r a w
def Ny(m:Int)(w:aw)(h0:1<=m)(h1:m<=10):aF af 151 #[J V m] w λe w'=>e=av (aB #[cg #[J V m,J V 0,ai false],J V 0])/\aC w w':=Fg.zc m w h0 h1
def Jg(s:M.Qd)(p:M.cR)(first:Bool)(w:aw):aF af 192 #[cg #[J ar s.bJ,J aN s.dQ,J ar s.aU,ai s.any,J ar s.fH,J ar s.shift],cg #[ai p.dR,J bI p.type,J aN p.dQ,J ar p.aU,J ar p.bJ],ai first] w λe w' =>
  e=av (aB #[cg #[J ar (M.dO s p first).1.bJ,J aN (M.dO s p first).1.dQ,J ar (M.dO s p first).1.aU,ai (M.dO s p first).1.any,J ar (M.dO s p first).1.fH,J ar (M.dO s p first).1.shift],
   cg #[ai (M.dO s p first).2.dR,J bI (M.dO s p first).2.type,J aN (M.dO s p first).2.dQ,J ar (M.dO s p first).2.aU,J ar (M.dO s p first).2.bJ]])/\aC w w':=by
 refine(Rewrite.zb s.bJ s.dQ s.aU s.fH s.shift s.any p.dR p.type p.dQ p.aU p.bJ first w).mono λe w' ⟨h,q⟩=>⟨?_,q⟩;rw[h];have a:Rewrite.OD s.aU s.any s.fH s.shift p.aU first=(M.dO s p first).1.shift:=by
  unfold Rewrite.OD M.dO;cases s.any<;>cases first<;>rfl
 have b:Rewrite.Oz s.aU s.any s.fH s.shift p.aU first=(M.dO s p first).1.fH:=by
  unfold Rewrite.Oz;rw[a];rfl
 rw[a,b,rA.wrap_u16];rfl
def FQ(own dQ aU:Int)(w:aw):aF af 152 #[J ar own,J aN dQ,J ar aU] w λe w'=>e=av (cg #[J ar own,J aN dQ,J ar aU,ai false,J ar 0,J ar 0])/\aC w w':=Rewrite.I4 own dQ aU w
def BA(S R:Int)(h0:1<=S):∀n k,M.En R n (Ask.yH S R k)=Ask.yH S R (k+n)
 |0,k=>rfl
 |n+1,k=>by
  unfold M.En;have b:=Ask.CR (R:=R) h0 k;by_cases a:R<=Ask.yH S R k
  ·rw[if_pos (aZ a),Ask.zS a]
  ·rw[if_neg z];have e:Ask.yH S R k*2=Ask.yH S R (k+1):=by rw[Ask.yH,if_neg a];omega
   rw[e,BA S R h0 n (k+1)];congr 1;omega
def QB(S R t:Int)(h0:1<=S):M.QT S R t=Ask.ra S R t:=by
 have:=BA S R h0 (t-1).toNat 0;rw[Nat.zero_add]at this;unfold M.QT Ask.ra;rw[show M.En R (t-1).toNat S=Ask.yH S R (t-1).toNat from this];split<;>omega
def Kv(S R:Int)(s:M.Ask)(wt:Bool)(now:Int)(w:aw)(F:Ask.Fit S R s.fH s.gB now):aF af 82 #[cg #[J V S,J V R],cg #[ai s.wanted,ai s.any,J V s.fH,J V s.gB],ai wt,J V now] w λe w' =>
  e=av (aB #[cg #[ai (M.iK S R s wt now).1.wanted,ai (M.iK S R s wt now).1.any,J V (M.iK S R s wt now).1.fH,J V (M.iK S R s wt now).1.gB],ai (M.iK S R s wt now).2])/\aC w w':=by
 refine(Ask.zb S R s.wanted s.any s.fH s.gB wt now w F).mono λe w' ⟨h,q⟩=>⟨?_,q⟩;rw[h];obtain⟨wa,an,la,tr⟩:=s;simp only;have hg:=QB S R (Ask.t0 wa tr) F.h0;cases wt
 ·simp[M.iK,Ask.JF,Ask.JE,Ask.JD,Ask.Dg]
 ·have c:(if(!true || !wa)=true then 0 else tr)=Ask.t0 wa tr:=by cases wa<;>rfl
  unfold M.iK;simp only[c,hg];by_cases a:(an&&decide (now-la<Ask.ra S R (Ask.t0 wa tr)))=true
  ·have b:Ask.Dg S R wa an la tr true now=false:=by simp only[Ask.Dg];rw[a];rfl
   rw[if_pos (by simpa using a)];simp[Ask.JF,Ask.JE,Ask.JD,b]
  ·have b:Ask.Dg S R wa an la tr true now=true:=by simp only[Ask.Dg];simp only[Bool.not_eq_true]at a;rw[a];rfl
   rw[if_neg (by simpa using a)];simp[Ask.JF,Ask.JE,Ask.JD,b]
def Lh(S R:Int)(w:aw):aF af 32 #[cg #[J V S,J V R]] w λe w'=>e=av (ai (decide (1<=S)&&(decide (S<=R)&&decide (R<=1000))))/\aC w w':=by
 by_cases h:1<=S/\S<=R/\R<=1000
 ·refine(Ask.Jf S R w h.1 h.2.1 h.2.2).mono λe w' ⟨q,r⟩=>⟨by rw[q];simp[h],r ▸ (ao _ _).alloc (aj _) _⟩
 ·refine(Ask.Ll S R w h).mono λe w' ⟨q,r⟩=>⟨?_,r ▸ (ao _ _).alloc (aj _) _⟩;have:(decide (1<=S)&&(decide (S<=R)&&decide (R<=1000)))=false:=by
   rw[Bool.eq_false_iff];intro q;simp only[Bool.and_eq_true,decide_eq_true_eq]at q;exact h q
  rw[q,this]
def Bl(at_ size:Int)(w:aw)(h:0<=at_/\at_<=63/\0<=size/\size<=64-at_):aF af 159 #[J V at_,J V size] w λe w'=>e=av (ai true)/\w'=w:=by
 obtain⟨h1,h2,h3,h4⟩:=h;go_enter func159,ntmps159;go_wp2_with fail;go_ret;exact⟨rfl,rfl⟩
def DU(s:Nat)(w:aw)(h:s<=8):aF af 160 #[J V s] w λe w'=>e=av (J .u64 (2 ^ s-1))/\w'=w:=by
 rcases(z:s=0\/s=1\/s=2\/s=3\/s=4\/s=5\/s=6\/s=7\/s=8) with rfl|rfl|rfl|rfl|rfl|rfl|rfl|rfl|rfl
 all_goals
  go_enter func160,ntmps160;go_wp2_with fail;go_ret;exact⟨rfl,rfl⟩
def NY(n:Int)(k:Nat)(at_:Int)(w:aw)(c:at_.toNat=k)(h:0<=at_/\at_<=63):aF af 271 #[J .u64 n,J V at_,J V 1,J .u64 1] w λe w'=>e=av (J .u64 (M.CL n k))/\w'=w:=by
 subst c;obtain⟨h1,h2⟩:=h;go_enter func271,ntmps271;go_wp2_with (first|(refine(Bl at_ 1 w ⟨h1,h2,z,z⟩).mono ?_;rintro e v ⟨rfl,b⟩;have a:=b.symm;subst a)|(refine(DU 1 w z).mono ?_;rintro e v ⟨rfl,b⟩;have a:=b.symm;subst a));go_ret;exact⟨rfl,rfl⟩
def xB(n:Int)(a s:Nat)(w:aw)(h:a<=63/\s<=64-a/\s<=8):aF af 107 #[J .u64 n,J V a,J V s] w λe w'=>(∃v,e=av (J .u64 v))/\∃j,w'=w.drewN j:=by
 obtain⟨h1,h2,h3⟩:=h;go_enter func107,ntmps107;go_wp2_with (first|(refine(Bl a s w ⟨z,z,z,z⟩).mono ?_;rintro e v ⟨rfl,c⟩;have b:=c.symm;subst b));go_quiet (first|(go_at_call 160;refine Calls.quiet_of_same (DU s _ h3)));all_goals
  go_wp2_with fail;go_ret;exact⟨⟨_,rfl⟩,_,rfl⟩
abbrev yB(x:M.yy):Value:=cg #[J V x.high,J .u64 x.bits]
def vn(n:Int)(w:aw):aF af 222 #[J V n] w λe w'=>e=av (yB ⟨n,1⟩)/\aC w w':=by
 go_enter func222,ntmps222;go_wp2_with fail;refine ax (v:=yB ⟨n,1⟩) (by simp[aV,results222,go_sem]) rfl ⟨rfl,(ao _ w).alloc (aj _) _⟩
def Bi(x:Int):Prop:=-1000000000000<=x/\x<=1000000000000
def D0(x:M.yy)(n:Int)(w:aw)(j:Bi x.high)(k:Bi n):aF af 221 #[yB x,J V n] w λe w'=>e=av (yB (x.mark n))/\aC w w':=by
 obtain⟨h,b⟩:=x;obtain⟨g,l⟩:=j;obtain⟨t,u⟩:=k;simp only at g l;have hw:V.wrap (n-h)=n-h:=cz _ ⟨z,z⟩;have d:=λ(o m:Obj)=>((ao w.heap.size w).alloc (aj _) o).alloc dt m;by_cases h1:63<n-h
 ·have a:=au (show M.yy.mark ⟨h,b⟩ n=⟨n,1⟩ from by unfold M.yy.mark;rw[if_pos h1]);have y:=g;go_enter func221,ntmps221;go_wp2_with (refine(vn n _).mono ?_;rintro e w2 ⟨rfl,b2⟩;have c:=((aK.newAt (w.alloc (.cells #[J V h,J .u64 b] 199)) 199 #[J V 0,J .u64 0] (w.heap.size+1) dt).kept b2);have p:=c.cell 0;have q:=c.cell 1;have f0:=c.frozen 0;have f1:=c.frozen 1;simp at p q);refine ax (v:=yB ⟨n,1⟩) (by have R:=(c.bC 0 (J V n)).bC 1 (J .u64 1);have i:=R.cell 0;have r1:=R.cell 1;simp at i r1;simp[aV,results221,go_sem,i,r1]) rfl ⟨by rw[a.O],?_⟩;exact(((d _ _).trans (b2.mono dZ)).setCell dt _).setCell dt _
 ·by_cases h2:0<n-h
  ·have a:=au (show M.yy.mark ⟨h,b⟩ n=⟨n,bits .or .u64 (nS.wrap (b*2 ^ (n-h).toNat)) 1⟩ from by unfold M.yy.mark;rw[if_neg h1,if_pos h2]);go_enter func221,ntmps221;go_wp2_with fail;refine ax (v:=yB ⟨n,bits .or .u64 (nS.wrap (b*2 ^ (n-h).toNat)) 1⟩) (by simp[aV,results221,go_sem]) rfl ⟨by rw[a.O],d _ _⟩
  ·by_cases h3:-63<=n-h
   ·have a:=au (show M.yy.mark ⟨h,b⟩ n=⟨h,M.CL b (-(n-h)).toNat⟩ from by unfold M.yy.mark;rw[if_neg h1,if_neg h2,if_pos h3]);have r:V.wrap (-(n-h)) = -(n-h):=cz _ ⟨z,z⟩;have r1:0 <= -(n-h) /\ -(n-h)<=63:=z;go_enter func221,ntmps221;go_wp2_with fail;go_region_with (refine(NY b (-(n-h)).toNat (-(n-h)) _ rfl r1).mono ?_;rintro e w2 ⟨rfl,s⟩;have f:=s.symm;subst f);all_goals
     go_wp2_with fail;refine ax (v:=yB ⟨h,M.CL b (-(n-h)).toNat⟩) (by simp[aV,results221,go_sem]) rfl ⟨by rw[a.O],cd (d _ _) _⟩
   ·have a:=au (show M.yy.mark ⟨h,b⟩ n=⟨h,b⟩ from by unfold M.yy.mark;rw[if_neg h1,if_neg h2,if_neg h3]);go_enter func221,ntmps221;go_wp2_with fail;refine ax (v:=yB ⟨h,b⟩) (by simp[aV,results221,go_sem]) rfl ⟨by rw[a.O],d _ _⟩
def N8(x:M.yy)(n:Int)(w:aw)(o:Bi x.high)(p:Bi n):aF af 233 #[yB x,J V n] w λe w'=>e=av (ai (x.has n))/\aC w w':=by
 have hm:=λW=>D0 x n W o p;obtain⟨s,t⟩:=o;obtain⟨u,A⟩:=p;obtain⟨h,b⟩:=x;simp only at s t;have hw:V.wrap (h-63)=h-63:=cz _ ⟨z,z⟩;by_cases h1:h-63<=n
 ·have k:decide (h-63<=n)=true:=by simpa using h1
  have d:=au (show M.yy.has ⟨h,b⟩ n=decide (M.yy.mark ⟨h,b⟩ n=⟨h,b⟩) from by unfold M.yy.has;rw[k];rfl);generalize M.yy.mark ⟨h,b⟩ n=y at hm d;obtain⟨q,r⟩:=y;by_cases i:q=h
  ·have l:=i.symm;clear i;subst l;by_cases j:r=b
   ·have m:=j.symm;clear j;subst m;go_enter func233,ntmps233;go_wp2_with fail;go_region_with (refine(hm _).mono ?_;rintro e w2 ⟨rfl,b2⟩;have a:=(by first|exact(aK.new w 199 #[J V h,J .u64 b]).drew.kept b2|exact(aK.new w 199 #[J V h,J .u64 b]).kept b2:aK w2 w.heap.size 199 #[J V h,J .u64 b]);have f:=a.cell 0;have g:=a.cell 1;simp at f g;have c:=(by first|exact(cd ((ao _ w).alloc (aj _) _) 1).trans (b2.mono dt)|exact((ao _ w).alloc (aj _) _).trans (b2.mono dt):aC w w2));all_goals
     go_wp2_with fail;refine ax (v:=ai true) (by simp[aV,results233,go_sem]) rfl ⟨by rw[d.O];simp,by first|exact c|exact cd c 1⟩
   ·have n1:¬b=r:=λe=>j e.symm;go_enter func233,ntmps233;go_wp2_with fail;go_region_with (refine(hm _).mono ?_;rintro e w2 ⟨rfl,b2⟩;have a:=(by first|exact(aK.new w 199 #[J V h,J .u64 b]).drew.kept b2|exact(aK.new w 199 #[J V h,J .u64 b]).kept b2:aK w2 w.heap.size 199 #[J V h,J .u64 b]);have f:=a.cell 0;have g:=a.cell 1;simp at f g;have c:=(by first|exact(cd ((ao _ w).alloc (aj _) _) 1).trans (b2.mono dt)|exact((ao _ w).alloc (aj _) _).trans (b2.mono dt):aC w w2));all_goals
     go_wp2_with fail;refine ax (v:=ai false) (by simp[aV,results233,go_sem,Act.put]) rfl ⟨by rw[d.O];simp[j],by first|exact c|exact cd c 1⟩
  ·have n1:¬h=q:=λe=>i e.symm;go_enter func233,ntmps233;go_wp2_with fail;go_region_with (refine(hm _).mono ?_;rintro e w2 ⟨rfl,b2⟩;have a:=(by first|exact(aK.new w 199 #[J V h,J .u64 b]).drew.kept b2|exact(aK.new w 199 #[J V h,J .u64 b]).kept b2:aK w2 w.heap.size 199 #[J V h,J .u64 b]);have f:=a.cell 0;have g:=a.cell 1;simp at f g;have c:=(by first|exact(cd ((ao _ w).alloc (aj _) _) 1).trans (b2.mono dt)|exact((ao _ w).alloc (aj _) _).trans (b2.mono dt):aC w w2));all_goals
    go_wp2_with fail;refine ax (v:=ai false) (by simp[aV,results233,go_sem,Act.put]) rfl ⟨by rw[d.O];simp[i],by first|exact c|exact cd c 1⟩
 ·have k:decide (h-63<=n)=false:=by simpa using h1
  have d:=au (show M.yy.has ⟨h,b⟩ n=false from by unfold M.yy.has;rw[k];rfl);go_enter func233,ntmps233;go_wp2_with fail;go_quiet (fail);all_goals
   go_wp2_with fail;go_ret;exact⟨by rw[d.O];rfl,cd ((ao _ w).alloc (aj _) _) _⟩
section
namespace M
def ids(l:dP):List Nat:=l.cK.map Item.id++(l.bF.map (λy=>y.1.id)++l.ready.map gO)
structure Rec where
 id:Nat
 aY:Int
 p:cR
structure ij where
 own:Int
 dQ:Int
 aU:Int
 jo:Int
 H:List Rec
 W:List Nat
 Q:List Nat
abbrev Nn:=List kM
structure Good(ps:Nn)(jo:Int)(x:Item):Prop where
 right:x.bW.right=true
 ok:x.bW.Ok
 key:x.key=lx x.bW.cF
 at_:∃a,ps[x.id]? = Z a/\a.bW=x.bW/\a.origin=(jo,x.aY)
 aY:0<=x.aY
structure Fh(ps:Nn)(g:ij)(k:Nat)(x:Rec):Prop where
 right:x.p.right=true
 ok:x.p.Ok
 dQ:x.p.dQ=(g.dQ+k) % 65536
 bJ:x.p.bJ=g.own
 at_:∃a,ps[x.id]? = Z a/\a.origin=(g.jo,x.aY)/\x.p.cF=a.bW.cF
def PX(ps:Nn)(x y:Rec):Prop:=∀a b,ps[x.id]? = Z a->ps[y.id]? = Z b ->
 (y.aY=x.aY->(y.p.aU-x.p.aU) % 4294967296=(b.bW.aU-a.bW.aU) % 4294967296) /\
 (y.aY≠x.aY->lx y.p.cF=true/\y.p.aU=(x.p.aU+3000) % 4294967296)
def kD(H:List Rec):Int:=match H.getLast? with | some x=>x.aY | none=>-1
def uh:Int->List (Item×Bool)->Int->Prop
 |c,[],dx=>c=dx
 |c,(x,f)::r,dx=>(f=true/\x.aY≠c/\x.key=true\/f=false/\x.aY=c)/\uh x.aY r dx
def uh.snoc:∀{c dx:Int} {l:List (Item×Bool)} {x:Item} {f:Bool},uh c l dx->(f=true/\x.aY≠dx/\x.key=true\/f=false/\x.aY=dx)->uh c (l++[(x,f)]) x.aY
 |c,dx,[],x,f,h,k=>⟨by rw[show c=dx from h];exact k,rfl⟩
 |c,dx,(y,e)::l,x,f,⟨h1,h2⟩,k=>⟨h1,h2.snoc k⟩
structure iv(ps:Nn)(bk:Nat->Option Int)(l:dP)(g:ij):Prop where
 nodup:(ids l).Nodup
 kz:∀id∈ids l,bk id=Z 0
 cK:∀x∈l.cK,Good ps g.jo x
 bF:∀y∈l.bF,Good ps g.jo y.1
 idle:l.wanted=false->l.cK=[]/\l.bF=[]/\g.H=[]
 bJ:l.mv.bJ=g.own
 dQ:l.mv.dQ=(g.dQ+g.H.length) % 65536
 any:l.mv.any=decide (0<g.H.length)
 aU:l.mv.aU=g.aU
 fH:∀x:Rec,g.H.getLast? = Z x->l.mv.fH=x.p.aU/\∃a,ps[x.id]? = Z a/\x.p.aU=(a.bW.aU+l.mv.shift) % 4294967296
 zM:∀(k:Nat) (x:Rec),g.H[k]? = Z x->Fh ps g k x
 zero:∀x:Rec,g.H[0]? = Z x->lx x.p.cF=true/\x.p.aU=g.aU
 next:∀(k:Nat) (x y:Rec),g.H[k]? = Z x->g.H[k+1]? = Z y->PX ps x y
 ready:g.Q.length=l.ready.length
 rU:∀(i k:Nat) (q:Nat×cQ),g.Q[i]? = Z k->l.ready[i]? = Z q->∃x:Rec,g.H[k]? = Z x/\q=(x.id,x.p.bytes)
 fF:g.W.length=l.fF.length
 qT:∀(i k:Nat) (q:Nat×cQ),g.W[i]? = Z k->l.fF[i]? = Z q->∃x:Rec,g.H[k]? = Z x/\q=(x.id,x.p.bytes)
 sorted:(g.W++g.Q).Pairwise (· < ·)
 eG:l.eG=true->ids l=[]
 ranges:0<=g.own/\g.own<4294967296/\0<=g.aU/\g.aU<4294967296
structure Inv(R:Room)(G:Int->ij)(n:Nat):Prop where
 fo:∀s l,R.aD s=Z l->iv R.aO (R.di s) l (G s)/\(G s).H.length<=n
 kz:∀s id,R.di s id=Z 0->∃a x,R.aO[id]? = Z a/\R.bh s=Z x/\x.cL=true/\x.jo=a.origin.1
 jo:∀s x,R.bh s=Z x->x.cL=true->x.jo=(G s).jo/\∃l,R.aD s=Z l/\l.wanted=true/\l.eG=false
 lu:∀s,(R.bh s).isSome=(R.aD s).isSome
 held:∀o st,R.az o=Z st->(st.bQ.bD.map js.id).Nodup/\∀h∈st.bQ.bD,(∃a,R.aO[h.id]? = Z a/\a.origin=o)/\∀s l,R.aD s=Z l->h.id∉ids l
 aY:∀o st,R.az o=Z st->0<=o.2
 pk:∀a∈R.aO,a.bW.Ok
 chain:R.cN=false->∀s l,R.aD s=Z l->l.wanted=true->l.eG=false->uh (kD (G s).H) l.bF l.dx
 za:∀s l,R.aD s=Z l->l.wanted=true->l.eG=false->∃x,R.bh s=Z x/\x.cL=true
 qu:∀b∈R.dm,∀x∈b,0<=x/\x<256
 aG:1<=R.dA.aG
def Good.mono{ps b:Nn}{jo:Int}{x:Item}(h:Good ps jo x)(hp:∀(i:Nat) (a:kM),ps[i]? = Z a->b[i]? = Z a):Good b jo x:=by
 obtain⟨a,h1,h2⟩:=h.at_;exact⟨h.right,h.ok,h.key,⟨a,hp _ _ h1,h2⟩,h.aY⟩
def Fh.mono{ps b:Nn}{g:ij}{k:Nat}{x:Rec}(h:Fh ps g k x)(hp:∀(i:Nat) (a:kM),ps[i]? = Z a->b[i]? = Z a):Fh b g k x:=by
 obtain⟨a,h1,h2⟩:=h.at_;exact⟨h.right,h.ok,h.dQ,h.bJ,⟨a,hp _ _ h1,h2⟩⟩
def iv.mono{ps d:Nn}{bk e:Nat->Option Int}{l:dP}{g:ij}(h:iv ps bk l g)(hp:∀(i:Nat) (a:kM),ps[i]? = Z a->d[i]? = Z a)(n:∀id∈ids l,e id=Z 0):iv d e l g:=
 { h with
  kz:=n
  cK:=λx c=>(h.cK x c).mono hp
  bF:=λx c=>(h.bF x c).mono hp
  fH:=λx c=>by obtain⟨o,a,p,q⟩:=h.fH x c;exact⟨o,a,hp _ _ p,q⟩
  zM:=λk x c=>(h.zM k x c).mono hp
  next:=λk x y c hy a b r f=>by
   obtain⟨a',a1,_⟩:=(h.zM k x c).at_
   obtain⟨s,b1,_⟩:=(h.zM (k+1) y hy).at_
   have j:=hp _ _ a1;rw[r]at j;cases j
   have m:=hp _ _ b1;rw[f]at m;cases m
   exact h.next k x y c hy a b a1 b1 }
def zq{α:Type}{aG:Nat}{q:List α}{x y:α}(h:y∈push aG q x):y∈q\/y=x:=by
 unfold push at h;split at h
 ·rcases bt.1 h with h|h
  ·exact aJ (List.mem_of_mem_tail h)
  ·simp at h;exact aZ h
 ·rcases bt.1 h with h|h
  ·exact aJ h
  ·simp at h;exact aZ h
variable {R:Room} {G:Int->ij} {n:Nat}
def Inv.more(h:Inv R G n){m:Nat}(hm:n<=m):Inv R G m:={ h with fo:=λs l q=>⟨(h.fo s l q).1,aP (h.fo s l q).2 hm⟩ }
def Inv.RN(h:Inv R G n){s:Int}{l:dP}(b:R.aD s=Z l){id:Nat}(c:id∈ids l):id<R.aO.length:=by
 obtain⟨a,x,h1,_⟩:=h.kz s id ((h.fo s l b).1.kz id c);exact(aS.1 h1).1
def Inv.bR(h:Inv R G n)(s:Int)(id:Nat){f:Int}(g:f≠0)(hid:∀l,R.aD s=Z l->id∉ids l):Inv (R.bR s id f) G n:=by
 unfold Room.bR;split
 ·refine { h with fo:=λk l b=>⟨((h.fo k l b).1).mono (λ_ _ q=>q) λi c=>?_,(h.fo k l b).2⟩,kz:=λk i j=>?_ }
  ·show set R.di s (set (R.di s) id (Z f)) k i=Z 0;unfold set;by_cases e:k=s
   ·subst e;rw[if_pos rfl,if_neg (λe:i=id=>hid l b (e ▸ c))];exact(h.fo k l b).1.kz i c
   ·rw[if_neg e];exact(h.fo k l b).1.kz i c
  ·have a:set R.di s (set (R.di s) id (Z f)) k i=Z 0:=j;unfold set at a;by_cases e:k=s
   ·subst e;rw[if_pos rfl]at a;by_cases d:i=id
    ·rw[if_pos d]at a;simp only[Option.some.injEq]at a;exact absurd a g
    ·rw[if_neg d]at a;exact h.kz k i a
   ·rw[if_neg e]at a;exact h.kz k i a
 ·exact h
def nW(r:Room)(s:Int)(id:Nat)(f:Int):(r.bR s id f).aD=r.aD/\(r.bR s id f).aO=r.aO/\(r.bR s id f).az=r.az/\(r.bR s id f).bh=r.bh:=by
 unfold Room.bR;split<;>exact⟨rfl,rfl,rfl,rfl⟩
def Inv.Bq(h:Inv R G n){s:Int}{l b:dP}(j:R.aD s=Z l){g:ij}(hg:g.jo=(G s).jo)(y:iv R.aO (R.di s) b g)(A:g.H.length<=n)
  (B:∀id∈ids b,id∈ids l\/∀o st,R.az o=Z st->∀x∈st.bQ.bD,id≠x.id) (hw:l.wanted=true->l.eG=false->(R.of s).isSome=true->b.wanted=true/\b.eG=false)
  (r:b.wanted=true->b.eG=false->(l.wanted=true/\l.eG=false)\/∃x,R.bh s=Z x/\x.cL=true)
  (t:R.cN=false->b.wanted=true->b.eG=false->uh (kD g.H) b.bF b.dx) :
  Inv { R with aD:=set R.aD s (Z b) } (set G s g) n:=by
 refine { h with fo:=λk m hm=>?_,jo:=λk x c r=>?_,lu:=λk=>?_,held:=λo st f=>?_,chain:=λi k m hm=>?_,za:=λk m hm h1 h2=>?_ }
 ·have a:set R.aD s (Z b) k=Z m:=hm;unfold set at a ⊢;by_cases e:k=s
  ·subst e;rw[if_pos rfl]at a ⊢;cases a;exact⟨y,A⟩
  ·rw[if_neg e]at a ⊢;exact h.fo k m a
 ·obtain⟨p,m,d,u,v⟩:=h.jo k x c r;unfold set;by_cases e:k=s
  ·subst e;rw[if_pos rfl];rw[j]at d;cases d;have w:(R.of k).isSome=true:=by unfold Room.of;rw[show R.bh k=Z x from c];simp[show x.cL=true by assumption]
   exact⟨by rw[hg];exact p,b,by show set R.aD k (Z b) k=_;simp[set],(hw u v w).1,(hw u v w).2⟩
  ·rw[if_neg e];exact⟨p,m,by show set R.aD s (Z b) k=_;simp[set,e];exact d,u,v⟩
 ·show _=(set R.aD s (Z b) k).isSome;unfold set;by_cases e:k=s
  ·subst e;rw[if_pos rfl,h.lu k,j];rfl
  ·rw[if_neg e];exact h.lu k
 ·obtain⟨p,d⟩:=h.held o st f;refine⟨p,λx c=>⟨(d x c).1,λk m hm=>?_⟩⟩;have a:set R.aD s (Z b) k=Z m:=hm;unfold set at a;by_cases e:k=s
  ·subst e;rw[if_pos rfl]at a;cases a;intro t;rcases B _ t with q|q
   ·exact(d x c).2 k l j q
   ·exact q o st f x c rfl
  ·rw[if_neg e]at a;exact(d x c).2 k m a
 ·have a:set R.aD s (Z b) k=Z m:=hm;unfold set at a ⊢;by_cases e:k=s
  ·subst e;rw[if_pos rfl]at a ⊢;cases a;exact t i
  ·rw[if_neg e]at a ⊢;exact h.chain i k m a
 ·have a:set R.aD s (Z b) k=Z m:=hm;unfold set at a;by_cases e:k=s
  ·subst e;rw[if_pos rfl]at a;cases a;rcases r h1 h2 with q|q
   ·exact h.za k l j q.1 q.2
   ·exact q
  ·rw[if_neg e]at a;exact h.za k m a h1 h2
end M
end
section
namespace M
variable {ps:Nn} {bk:Nat->Option Int} {l:dP} {g:ij}
def yF{x:Item}{r:List Item}(h:(ids l).Nodup)(a:l.cK=x::r):x.id∉r.map Item.id++(l.bF.map (λy=>y.1.id)++l.ready.map gO)/\(r.map Item.id++(l.bF.map (λy=>y.1.id)++l.ready.map gO)).Nodup:=by
 unfold ids at h;rw[a,eV,lA,iM]at h;exact h
def iv.xa(h:iv ps bk l g)(d:l.cK≠[]\/l.bF≠[]\/g.H≠[]):l.wanted=true:=by
 cases hw:l.wanted
 ·obtain⟨a,b,c⟩:=h.idle hw;rcases d with q|q|q<;>contradiction
 ·rfl
def iv.gJ(h:iv ps bk l g){x:Item}{r:List Item}(b:l.cK=x::r):iv ps bk l.gJ.1 g/\(∀i∈ids l.gJ.1,i∈ids l)/\(l.gJ.2.2≠0->x.id∉ids l.gJ.1)/\l.gJ.2.1=x.id:=by
 obtain⟨d,f⟩:=yF h.nodup b;have hw:=h.xa (aJ (by rw[b];simp));unfold dP.gJ;rw[b];simp only;generalize ht:take l.dx l.fh x.aY x.key=t;obtain⟨dx,sJ,first⟩:=t;simp only;by_cases j:sJ=0
 ·subst j;simp only[if_true];have e:ids { l with cK:=r,dx:=dx,bF:=l.bF++[(x,first)] }=r.map Item.id++(l.bF.map (λy=>y.1.id)++(x.id::l.ready.map gO)):=by simp[ids]
  have a:∀i∈ids { l with cK:=r,dx:=dx,bF:=l.bF++[(x,first)] },i∈ids l:=by
   intro i c;rw[e]at c;unfold ids;rw[b];simp only[eV,lA,fw,bt]at c ⊢;rcases c with q|q|q|q
   ·exact aZ (aJ q)
   ·exact aZ (aZ (aJ q))
   ·exact aJ q
   ·exact aZ (aZ (aZ q))
  refine⟨{ h with nodup:=?_,kz:=λi c=>h.kz i (a i c),cK:=λy hy=>h.cK y (by rw[b];simp[hy]),bF:=λy hy=>?_,idle:=λq=>absurd (show l.wanted=false from q) (by rw[hw];simp),eG:=λq=>?_ },a,λq=>absurd rfl q,trivial⟩
  ·rw[e];have p:(r.map Item.id++(l.bF.map (λy=>y.1.id)++(x.id::l.ready.map gO))).Perm (x.id::(r.map Item.id++(l.bF.map (λy=>y.1.id)++l.ready.map gO))):=by
    rw[<-dL,<-dL];exact tp
   exact p.nodup_iff.2 (iM.2 ⟨d,f⟩)
  ·rcases bt.1 hy with q|q
   ·exact h.bF y q
   ·simp at q;subst q;exact h.cK x (by rw[b];simp)
  ·have:=h.eG q;unfold ids at this;rw[b]at this;simp at this
 ·simp only[if_neg j];have e:ids { l with cK:=r,dx:=dx }=r.map Item.id++(l.bF.map (λy=>y.1.id)++l.ready.map gO):=rfl;have a:∀i∈ids { l with cK:=r,dx:=dx },i∈ids l:=by
   intro i c;rw[e]at c;unfold ids;rw[b,eV,lA];exact List.mem_cons_of_mem _ c
  refine⟨{ h with nodup:=by rw[e];exact f,kz:=λi c=>h.kz i (a i c),cK:=λy hy=>h.cK y (by rw[b];simp[hy]),idle:=λq=>absurd (show l.wanted=false from q) (by rw[hw];simp),eG:=λq=>?_ },a,λ_=>by rw[e];exact d,trivial⟩;have:=h.eG q;unfold ids at this;rw[b]at this;simp at this
def C0{c:Int}{x:Item}{r:List Item}(a:l.cK=x::r)(h:uh c l.bF l.dx):uh c l.gJ.1.bF l.gJ.1.dx:=by
 unfold dP.gJ;rw[a];simp only;unfold take;split
 ·rename_i q;simp only[if_true];exact h.snoc (aJ ⟨rfl,q.1,q.2.2⟩)
 split
 ·rename_i q;simp only[if_true];have:=h.snoc (x:=x) (f:=false) (aZ ⟨rfl,q⟩);rw[q]at this;exact this
 split
 ·simp only;rw[if_neg aR];exact h
 ·simp only;rw[if_neg aR];exact h
def CZ:l.gJ.1.wanted=l.wanted/\l.gJ.1.eG=l.eG:=by
 unfold dP.gJ;split
 ·exact⟨rfl,rfl⟩
 ·exact⟨rfl,rfl⟩
def lU(l:dP)(aG:Nat)(g:ij):ij:=
 match l.bF with
 |[]=>g
 |(x,f)::_=>{ g with H:=g.H++[⟨x.id,x.aY,(dO l.mv x.bW f).2⟩],Q:=(if l.ready.length=aG then g.Q.tail else g.Q)++[g.H.length] }
def EO{H:List Rec}{x:Item}{f:Bool}{r:List (Item×Bool)}{dx:Int}(h:uh (kD H) ((x,f)::r) dx):(f=true/\x.aY≠kD H/\x.key=true\/f=false/\x.aY=kD H)/\uh x.aY r dx:=h
def zE(H:List Rec)(x:Rec):kD (H++[x])=x.aY:=by unfold kD;simp
def ie{α:Type}{l:List α}{a b:α}{k:Nat}(h:(l++[a])[k]? = Z b):l[k]? = Z b\/k=l.length/\b=a:=by
 rcases Nat.lt_trichotomy k l.length with q|q|q
 ·rw[dk q]at h;exact aJ h
 ·subst q;rw[List.getElem?_append_right (aj _),Nat.sub_self]at h;simp at h;exact aZ ⟨rfl,h.symm⟩
 ·rw[List.getElem?_eq_none dZ]at h;cases h
def NH{aG:Nat}{q:List (Nat×cQ)}{c:List Nat}{x:Nat×cQ}{e:Nat}(h1:1<=aG)(g:c.length=q.length){i k:Nat}{y:Nat×cQ}
  (d:((if q.length=aG then c.tail else c)++[e])[i]? = Z k) (hy:(push aG q x)[i]? = Z y):(∃j:Nat,c[j]? = Z k/\q[j]? = Z y)\/k=e/\y=x:=by
 unfold push at hy;by_cases f:q.length=aG
 ·rw[if_pos f]at d hy;rcases ie d with a | ⟨a,rfl⟩
  ·rcases ie hy with b | ⟨b,rfl⟩
   ·rw[List.getElem?_tail]at a b;exact aJ ⟨i+1,a,b⟩
   ·exfalso;have:=(aS.1 a).1;simp only[tv]at this b;omega
  ·rcases ie hy with b | ⟨b,rfl⟩
   ·exfalso;have:=(aS.1 b).1;simp only[tv]at this a;omega
   ·exact aZ ⟨rfl,rfl⟩
 ·rw[if_neg f]at d hy;rcases ie d with a | ⟨a,rfl⟩
  ·rcases ie hy with b | ⟨b,rfl⟩
   ·exact aJ ⟨i,a,b⟩
   ·exfalso;have:=(aS.1 a).1;omega
  ·rcases ie hy with b | ⟨b,rfl⟩
   ·exfalso;have:=(aS.1 b).1;omega
   ·exact aZ ⟨rfl,rfl⟩
def DI{α:Type}{aG:Nat}{q:List α}{x:α}(h1:1<=aG):(push aG q x).length=if q.length=aG then q.length else q.length+1:=by
 unfold push;split<;>simp<;>omega
def iv.PF(h:iv ps bk l g):∀k∈g.W++g.Q,k<g.H.length:=by
 intro k d;rcases bt.1 d with q|q
 ·obtain⟨i,b,e⟩:=ed q;have a:i<l.fF.length:=by rw[<-h.fF];exact b
  obtain⟨x,c,_⟩:=h.qT i k _ (by rw[ay b,e]) (ay a);exact(aS.1 c).1
 ·obtain⟨i,b,e⟩:=ed q;have a:i<l.ready.length:=by rw[<-h.ready];exact b
  obtain⟨x,c,_⟩:=h.rU i k _ (by rw[ay b,e]) (ay a);exact(aS.1 c).1
def yE(s:Qd)(p:cR)(f:Bool)(h:p.right=true):(dO s p f).2.right=true:=h
def iv.eO(h:iv ps bk l g)(aG:Nat)(h1:1<=aG){x:Item}{f:Bool}{r:List (Item×Bool)}(hp:l.bF=(x,f)::r)(E:uh (kD g.H) l.bF l.dx) :
  iv ps bk (l.eO aG).1 (lU l aG g)/\(∀i∈ids (l.eO aG).1,i∈ids l)/\(∀i,(l.eO aG).2=Z i->i∉ids (l.eO aG).1/\i∈ids l) /\
   (lU l aG g).H.length=g.H.length+1/\uh (kD (lU l aG g).H) (l.eO aG).1.bF (l.eO aG).1.dx:=by
 have hw:=h.xa (aZ (aJ (by rw[hp];simp)));have C:Good ps g.jo x:=h.bF (x,f) (by rw[hp];simp);obtain⟨o1,o2,o3,o4⟩:=h.ranges;rw[hp]at E;obtain⟨c1,c2⟩:=EO E;have e1:(l.eO aG).1={ l with bF:=r,mv:=(dO l.mv x.bW f).1,ready:=push aG l.ready (x.id,(ic (dO l.mv x.bW f).2).1) }:=by unfold dP.eO;rw[hp]
 have e2:(l.eO aG).2=if l.ready.length=aG then l.ready.head?.map (·.1) else I:=by unfold dP.eO;rw[hp]
 have e3:lU l aG g={ g with H:=g.H++[⟨x.id,x.aY,(dO l.mv x.bW f).2⟩],Q:=(if l.ready.length=aG then g.Q.tail else g.Q)++[g.H.length] }:=by unfold lU;rw[hp]
 rw[e1,e2,e3];have w:(ic (dO l.mv x.bW f).2).1=(dO l.mv x.bW f).2.bytes:=by unfold ic;rw[if_pos (yE l.mv x.bW f C.right)]
 rw[w];generalize hP:(dO l.mv x.bW f).2=P;have d:P.bJ=l.mv.bJ/\P.dQ=l.mv.dQ/\P.cF=x.bW.cF/\P.right=true/\P.aU=(dO l.mv x.bW f).1.fH:=by subst hP;exact⟨rfl,rfl,rfl,C.right,rfl⟩
 have m:(dO l.mv x.bW f).1.fH=(x.bW.aU+(dO l.mv x.bW f).1.shift) % 4294967296:=rfl;have s:ids l=l.cK.map Item.id++(x.id::(r.map (λy=>y.1.id)++l.ready.map gO)):=by unfold ids;rw[hp];simp
 have M:=h.nodup;rw[s]at M;obtain⟨a,a1,a2,a3⟩:=C.at_;have S:P.Ok:=by
  have k:=C.ok;subst hP;refine⟨k.type,?_,?_,?_,k.aQ,k.bV⟩
  ·show 0<=l.mv.dQ/\l.mv.dQ<65536;rw[h.dQ];omega
  ·show 0<=(dO l.mv x.bW f).1.fH/\(dO l.mv x.bW f).1.fH<4294967296;rw[m];omega
  ·show 0<=l.mv.bJ/\l.mv.bJ<4294967296;rw[h.bJ];exact⟨o1,o2⟩
 have F:Fh ps { g with H:=g.H++[⟨x.id,x.aY,P⟩],Q:=(if l.ready.length=aG then g.Q.tail else g.Q)++[g.H.length] } g.H.length ⟨x.id,x.aY,P⟩:=
  ⟨d.2.2.2.1,S,by rw[d.2.1];exact h.dQ,by rw[d.1];exact h.bJ,⟨a,a1,a3,by rw[d.2.2.1,a2]⟩⟩
 have T:∀y∈(push aG l.ready (x.id,P.bytes)).map gO,y=x.id\/y∈l.ready.map gO:=by
  intro y hy;obtain⟨U,X,rfl⟩:=eU.1 hy;rcases zq X with q|q
  ·exact aZ (eU.2 ⟨U,q,rfl⟩)
  ·left;rw[q]
 have B:∀i∈ids { l with bF:=r,mv:=(dO l.mv x.bW f).1,ready:=push aG l.ready (x.id,P.bytes) },i∈ids l:=by
  intro i o;rw[s];unfold ids at o;simp only[bt,fw]at o ⊢;rcases o with q|q|q
  ·exact aJ q
  ·exact aZ (aZ (aJ q))
  ·rcases T i q with e|e
   ·exact aZ (aJ e)
   ·exact aZ (aZ (aZ e))
 have n:(push aG l.ready (x.id,P.bytes)).map gO=(if l.ready.length=aG then(l.ready.map gO).tail else l.ready.map gO)++[x.id]:=by
  unfold push;split<;>simp
 have Y:(ids { l with bF:=r,mv:=(dO l.mv x.bW f).1,ready:=push aG l.ready (x.id,P.bytes) }).Nodup:=by
  unfold ids;simp only[n];have sub:jz (if l.ready.length=aG then(l.ready.map gO).tail else l.ready.map gO) (l.ready.map gO):=by
   split
   ·exact ss _
   ·exact gf _
  have p:(l.cK.map Item.id++(r.map (λy=>y.1.id)++((if l.ready.length=aG then(l.ready.map gO).tail else l.ready.map gO)++[x.id]))).Perm
    (l.cK.map Item.id++(x.id::(r.map (λy=>y.1.id)++(if l.ready.length=aG then(l.ready.map gO).tail else l.ready.map gO)))):=by
   refine List.Perm.append_left _ ?_;rw[<-dL];exact List.perm_append_singleton _ _
  refine p.nodup_iff.2 (List.Nodup.sublist ?_ M);exact kZ (jz.cons_cons _ (kZ sub _)) _
 refine⟨{ h with nodup:=Y,kz:=λi o=>h.kz i (B i o),bF:=λy hy=>h.bF y (by rw[hp];simp[hy]),idle:=λq=>absurd (show l.wanted=false from q) (by rw[hw];simp),bJ:=h.bJ,dQ:=?_,any:=?_,aU:=h.aU,fH:=?_,zM:=?_,zero:=?_,next:=?_,ready:=?_,rU:=?_,qT:=?_,sorted:=?_,eG:=?_ },B,?_,dt,?_⟩
 ·show(l.mv.dQ+1) % 65536=(g.dQ+((g.H++[(⟨x.id,x.aY,P⟩:Rec)]).length:Nat)) % 65536;rw[h.dQ];simp;omega
 ·show true=decide (0<(g.H++[(⟨x.id,x.aY,P⟩:Rec)]).length);simp
 ·intro y hy;simp at hy;subst hy;refine⟨d.2.2.2.2.symm,a,a1,?_⟩;show P.aU=_;rw[d.2.2.2.2,m,a2]
 ·intro k y hy;rcases ie hy with q | ⟨rfl,rfl⟩
  ·obtain⟨w1,w2,w3,w4,w5⟩:=h.zM k y q;exact⟨w1,w2,w3,w4,w5⟩
  ·exact F
 ·intro y hy;rcases ie hy with q | ⟨q,rfl⟩
  ·exact h.zero y q
  ·have hH:g.H=[]:=List.length_eq_zero_iff.1 q.symm;rw[hH]at c1;have df:=C.aY;have A:x.key=true:=by
    rcases c1 with⟨_,_,q⟩ | ⟨_,q⟩
    ·exact q
    ·have:kD ([]:List Rec) = -1:=rfl;rw[this]at q;omega
   refine⟨by show lx P.cF=true;rw[d.2.2.1,<-C.key,A],?_⟩;show P.aU=g.aU;rw[d.2.2.2.2,m];have u:l.mv.any=false:=by rw[h.any,hH];simp
   have:(dO l.mv x.bW f).1.shift=(l.mv.aU-x.bW.aU) % 4294967296:=by unfold dO;simp[u]
   rw[this,h.aU];omega
 ·intro k y U hy X b c hb N;rcases ie X with q | ⟨q,rfl⟩
  ·have A:k<g.H.length:=by have:=(aS.1 q).1;omega
   rw[dk A]at hy;exact h.next k y U hy q b c hb N
  ·have A:k<g.H.length:=z;rw[dk A]at hy;have G:g.H.getLast? = Z y:=by rw[List.getLast?_eq_getElem?,show g.H.length-1=k from by omega];exact hy
   obtain⟨l1,a',l2,l3⟩:=h.fH y G;have aI:kD g.H=y.aY:=by unfold kD;rw[G]
   rw[aI]at c1;have u:l.mv.any=true:=by rw[h.any];simp;omega
   rw[hb]at l2;cases l2;simp only at N;rw[a1]at N;cases N;simp only;rw[d.2.2.2.2,m,d.2.2.1,<-C.key,a2];constructor
   ·intro v;have R:f=false:=by rcases c1 with⟨_,q,_⟩ | ⟨q,_⟩;exact absurd v q;exact q
    have:(dO l.mv x.bW f).1.shift=l.mv.shift:=by unfold dO;simp[u,R]
    rw[this,l3];omega
   ·intro v;have R:f=true/\x.key=true:=by rcases c1 with⟨q1,_,q2⟩ | ⟨_,q⟩;exact⟨q1,q2⟩;exact absurd q v
    have:(dO l.mv x.bW f).1.shift=(l.mv.fH+3000-x.bW.aU) % 4294967296:=by unfold dO;simp[u,R.1]
    rw[this,l1];exact⟨R.2,z⟩
 ·show((if l.ready.length=aG then g.Q.tail else g.Q)++[g.H.length]).length=(push aG l.ready (x.id,P.bytes)).length;rw[DI h1];have:=h.ready;split<;>simp<;>omega
 ·intro i k q A D;rcases NH h1 h.ready A D with⟨j,b1,b2⟩ | ⟨rfl,rfl⟩
  ·obtain⟨y,K,y2⟩:=h.rU j k q b1 b2;exact⟨y,by have:=(aS.1 K).1;rw[dk this];exact K,y2⟩
  ·exact⟨⟨x.id,x.aY,P⟩,dt,rfl⟩
 ·intro i k q A D;obtain⟨y,K,y2⟩:=h.qT i k q A D;exact⟨y,by have:=(aS.1 K).1;rw[dk this];exact K,y2⟩
 ·show(g.W++((if l.ready.length=aG then g.Q.tail else g.Q)++[g.H.length])).Pairwise (· < ·);rw[<-dL,List.pairwise_append];have sub:jz (g.W++if l.ready.length=aG then g.Q.tail else g.Q) (g.W++g.Q):=by
   refine kZ ?_ _;split
   ·exact ss _
   ·exact gf _
  refine⟨h.sorted.sublist sub,dt,λi o j hj=>?_⟩;simp at hj;subst hj;exact h.PF i (sub.subset o)
 ·intro q;have:=h.eG q;rw[s]at this;simp at this
 ·intro i o;split at o
  ·rename_i D;cases hr:l.ready with
   |nil=>rw[hr]at o;cases o
   |cons y t =>
    rw[hr]at o;simp at o;subst o;rw[hr,eV]at M;have L:=M;rw[jj]at L;obtain⟨n1,n2,n3⟩:=L;have n4:=(iM.1 n2);have n5:=jj.1 n4.2;have n6:=iM.1 n5.2.1;constructor
    ·unfold ids;rw[hr]at n D;simp only[hr,n];rw[if_pos D];simp only[eV,List.tail_cons,bt,kr];rintro(q|q|q|q)
     ·exact n3 _ q _ dt rfl
     ·exact n5.2.2 _ q _ dt rfl
     ·exact n6.1 q
     ·exact n4.1 (by rw[<-q];simp)
    ·rw[s,hr];simp
  ·cases o
 ·rw[zE];exact c2
end M
end
section
namespace M
variable {ps:Nn} {bk:Nat->Option Int} {l:dP} {g:ij}
def iR(l:dP)(aT:Int)(fq:Bool)(g:ij):ij:=
 if l.ready=[] then g else if fq then { g with W:=g.W++g.Q.take 1,Q:=g.Q.drop 1 } else if(l.write aT fq).1.eG then { g with Q:=[] } else g
def iv.Gn(h:iv ps bk l g)(a:ids l≠[]):l.eG=false:=by
 cases hg:l.eG
 ·rfl
 ·exact absurd (h.eG hg) a
def iv.less(h:iv ps bk l g)(c:List Item)(p:List (Item×Bool))(k:Nat)(row:Int)(eG:Bool)(n:c=l.cK\/c=[])(hp:p=l.bF\/p=[])(s:k=0\/l.ready.length<=k)
  (hg:eG=true->c=[]/\p=[]/\l.ready.drop k=[]) (o:k=0\/l.ready.length<=k) :
  iv ps bk { l with cK:=c,bF:=p,ready:=l.ready.drop k,row:=row,eG:=eG } { g with Q:=g.Q.drop k }/\(∀i∈ids { l with cK:=c,bF:=p,ready:=l.ready.drop k,row:=row,eG:=eG },i∈ids l):=by
 have s1:jz c l.cK:=by rcases n with rfl|rfl;exact gf _;exact List.nil_sublist _
 have s2:jz p l.bF:=by rcases hp with rfl|rfl;exact gf _;exact List.nil_sublist _
 have s3:jz (l.ready.drop k) l.ready:=List.drop_sublist _ _;have sub:jz (ids { l with cK:=c,bF:=p,ready:=l.ready.drop k,row:=row,eG:=eG }) (ids l):=by
  unfold ids;exact(s1.map _).append ((s2.map _).append (s3.map _))
 refine⟨{ h with nodup:=h.nodup.sublist sub,kz:=λi r=>h.kz i (sub.subset r),cK:=λx e=>h.cK x (s1.subset e),bF:=λx e=>h.bF x (s2.subset e),idle:=λq=>?_,zM:=?_,ready:=?_,rU:=?_,sorted:=?_,eG:=?_ },sub.subset⟩
 ·obtain⟨a,b,d⟩:=h.idle q;exact⟨by have:=s1;rw[a]at this;exact List.sublist_nil.1 this,by have:=s2;rw[b]at this;exact List.sublist_nil.1 this,d⟩
 ·intro k x e;obtain⟨w1,w2,w3,w4,w5⟩:=h.zM k x e;exact⟨w1,w2,w3,w4,w5⟩
 ·show(g.Q.drop k).length=(l.ready.drop k).length;rw[lz,lz,h.ready]
 ·intro i j q f m;simp only[List.getElem?_drop]at f m;exact h.rU _ _ _ f m
 ·exact h.sorted.sublist (kZ (List.drop_sublist _ _) _)
 ·intro q;obtain⟨a,b,d⟩:=hg q;unfold ids;simp[a,b,d]
def iv.write(h:iv ps bk l g)(aT:Int)(fq:Bool){x:Nat×cQ}{r:List (Nat×cQ)}(hr:l.ready=x::r) :
  iv ps bk (l.write aT fq).1 (iR l aT fq g)/\(∀i∈ids (l.write aT fq).1,i∈ids l)/\((l.write aT fq).2.2=1->x.1∉ids (l.write aT fq).1)/\(l.write aT fq).2.1=x.1 /\
   ((l.write aT fq).2.2=1↔fq=true)/\(l.write aT fq).1.bF=(if(l.write aT fq).1.eG then[] else l.bF)/\(l.write aT fq).1.dx=l.dx/\(l.write aT fq).1.wanted=l.wanted:=by
 have hg:l.eG=false:=h.Gn (by unfold ids;rw[hr];simp);have n:=h.ready;rw[hr,ft]at n;obtain⟨e,Q',c⟩:∃e Q',g.Q=e::Q':=by
  cases j:g.Q with
  |nil=>rw[j]at n;simp at n
  |cons a b=>exact⟨a,b,rfl⟩
 cases fq with
 |true =>
  have f:l.write aT true=({ l with ready:=r,fF:=l.fF++[x],row:=0 },x.1,1):=by unfold dP.write;rw[hr];simp[hg]
  have m:iR l aT true g={ g with W:=g.W++[e],Q:=Q' }:=by unfold iR;rw[if_neg (by rw[hr];simp),if_pos rfl,c];simp
  rw[f,m];have d:ids l=l.cK.map Item.id++(l.bF.map (λy=>y.1.id)++(x.1::r.map gO)):=by unfold ids;rw[hr];rfl
  have o:=h.nodup;rw[d]at o;have sub:jz (ids { l with ready:=r,fF:=l.fF++[x],row:=0 }) (ids l):=by
   rw[d];unfold ids;exact(gf _).append ((gf _).append (List.sublist_cons_self _ _))
  have s:∃y,g.H[e]? = Z y/\x=(y.id,y.p.bytes):=h.rU 0 e x (by rw[c];rfl) (by rw[hr];rfl);refine⟨{ h with nodup:=o.sublist (by rw[<-d];exact sub),kz:=λi t=>h.kz i (sub.subset t),ready:=?_,rU:=?_,fF:=?_,qT:=?_,sorted:=?_,eG:=?_,zM:=?_ },sub.subset,λ_=>?_,rfl,dt,by simp[hg],rfl,rfl⟩
  ·intro k y hy;obtain⟨w1,w2,w3,w4,w5⟩:=h.zM k y hy;exact⟨w1,w2,w3,w4,w5⟩
  ·show Q'.length=r.length;rw[c,ft]at n;omega
  ·intro i k q u j;refine h.rU (i+1) k q ?_ ?_
   ·rw[c,iY];exact u
   ·rw[hr,iY];exact j
  ·show(g.W++[e]).length=(l.fF++[x]).length;simp[h.fF]
  ·intro i k q u j;rcases ie u with a | ⟨a,rfl⟩
   ·rcases ie j with b | ⟨b,rfl⟩
    ·exact h.qT i k q a b
    ·exfalso;have:=(aS.1 a).1;have:=h.fF;omega
   ·rcases ie j with b | ⟨b,rfl⟩
    ·exfalso;have:=(aS.1 b).1;have:=h.fF;omega
    ·exact s
  ·show((g.W++[e])++Q').Pairwise (· < ·);have:=h.sorted;rw[c]at this;rw[dL];exact this
  ·intro q;have:l.eG=true:=q;rw[hg]at this;cases this
  ·unfold ids;simp only[bt];have n1:=jj.1 o;have w:=jj.1 n1.2.1;have A:=iM.1 w.2.1;rintro(q|q|q)
   ·exact n1.2.2 _ q _ dt rfl
   ·exact w.2.2 _ q _ dt rfl
   ·exact A.1 q
 |false =>
  by_cases hm:l.row+1=aT
  ·have f:l.write aT false=({ l with row:=l.row+1,eG:=true,cK:=[],bF:=[],ready:=[] },x.1,7):=by unfold dP.write;rw[hr];simp[hg,hm]
   have m:iR l aT false g={ g with Q:=[] }:=by unfold iR;rw[if_neg (by rw[hr];simp),if_neg dt,f];rfl
   have key:=h.less [] [] l.ready.length (l.row+1) true (aZ rfl) (aZ rfl) (aZ (aj _)) (λ_=>⟨rfl,rfl,dt⟩) (aZ (aj _));rw[List.drop_length]at key;have v:g.Q.drop l.ready.length=[]:=by rw[List.drop_eq_nil_iff,h.ready];exact aj _
   rw[v]at key;rw[f,m];exact⟨key.1,key.2,λq=>by simp at q,rfl,dt,rfl,rfl,rfl⟩
  ·have f:l.write aT false=({ l with row:=l.row+1 },x.1,0):=by unfold dP.write;rw[hr];simp[hg,hm,hr]
   have m:iR l aT false g=g:=by unfold iR;rw[if_neg (by rw[hr];simp),if_neg dt,f];simp[hg]
   rw[f,m];exact⟨{ h with eG:=h.eG },λi t=>t,λq=>by simp at q,rfl,dt,by simp[hg],rfl,rfl⟩
def iv.put(h:iv ps bk l g)(aG:Nat)(h1:1<=aG){x:Item}(B:there x.aY=true->x.bW.right=true->Good ps g.jo x)(C:bk x.id=Z 0)(r:x.id∉ids l) :
  iv ps bk (l.put aG x).1 g/\(∀i∈ids (l.put aG x).1,i∈ids l\/i=x.id)/\(∀i,(l.put aG x).2=Z i->i∉ids (l.put aG x).1/\i∈ids l) /\
   (l.put aG x).1.bF=l.bF/\(l.put aG x).1.dx=l.dx/\(l.put aG x).1.wanted=l.wanted/\(l.put aG x).1.eG=l.eG:=by
 by_cases o:(!(there x.aY&&x.bW.right)||l.eG || !l.wanted)=true
 ·have e:l.put aG x=(l,I):=by unfold dP.put;rw[if_pos o]
  rw[e];exact⟨h,λi c=>aJ c,λi c=>(by cases c),rfl,rfl,rfl,rfl⟩
 ·have e:l.put aG x=({ l with cK:=push aG l.cK x },if l.cK.length=aG then l.cK.head?.map (·.id) else I):=by unfold dP.put;rw[if_neg o]
  rw[e];simp only[Bool.or_eq_true,Bool.not_eq_true',not_or,Bool.not_eq_false,Bool.and_eq_false_iff,Bool.and_eq_true]at o;obtain⟨⟨s,u⟩,v⟩:=o;have j:there x.aY=true/\x.bW.right=true:=by
   cases a:there x.aY<;>cases b:x.bW.right<;>simp[a,b]at s ⊢
  have w:=B j.1 j.2;have f:(push aG l.cK x).map Item.id=(if l.cK.length=aG then(l.cK.map Item.id).tail else l.cK.map Item.id)++[x.id]:=by
   unfold push;split<;>simp
  have sub:jz (if l.cK.length=aG then(l.cK.map Item.id).tail else l.cK.map Item.id) (l.cK.map Item.id):=by
   split
   ·exact ss _
   ·exact gf _
  have k:∀i∈ids { l with cK:=push aG l.cK x },i∈ids l\/i=x.id:=by
   intro i c;unfold ids at c ⊢;simp only[f,bt,kr]at c ⊢;rcases c with(q|q)|q|q
   ·exact aJ (aJ (sub.subset q))
   ·exact aZ q
   ·exact aJ (aZ (aJ q))
   ·exact aJ (aZ (aZ q))
  have m:=h.nodup;refine⟨{ h with nodup:=?_,kz:=λi c=>?_,cK:=λy hy=>?_,idle:=λq=>?_,eG:=λq=>?_ },k,?_,rfl,rfl,rfl,rfl⟩
  ·unfold ids at m r ⊢;simp only[f];rw[dL];have p:((if l.cK.length=aG then(l.cK.map Item.id).tail else l.cK.map Item.id)++([x.id]++(l.bF.map (λy=>y.1.id)++l.ready.map gO))).Perm
     (x.id::((if l.cK.length=aG then(l.cK.map Item.id).tail else l.cK.map Item.id)++(l.bF.map (λy=>y.1.id)++l.ready.map gO))):=tp
   refine p.nodup_iff.2 (iM.2 ⟨λq=>r ?_,m.sublist (sub.append (gf _))⟩);rcases bt.1 q with q|q
   ·exact bt.2 (aJ (sub.subset q))
   ·exact bt.2 (aZ q)
  ·rcases k i c with q|rfl
   ·exact h.kz i q
   ·exact C
  ·rcases zq hy with q|rfl
   ·exact h.cK y q
   ·exact w
  ·exact absurd v (by rw[show l.wanted=false from q];simp)
  ·exact absurd q u
  ·intro i c;split at c
   ·rename_i A;cases d:l.cK with
    |nil=>rw[d]at c;cases c
    |cons y t =>
     rw[d]at c;simp at c;subst c;have n:y.id∈ids l:=by unfold ids;rw[d];simp
     refine⟨?_,n⟩;unfold ids at m ⊢;rw[d]at f A;simp only[d,f];rw[if_pos A];rw[d,eV,lA,iM]at m;rw[eV,List.tail_cons];simp only[bt,kr];rintro((q|q)|q|q)
     ·exact m.1 (bt.2 (aJ q))
     ·exact r (q ▸ n)
     ·exact m.1 (bt.2 (aZ (bt.2 (aJ q))))
     ·exact m.1 (bt.2 (aZ (bt.2 (aZ q))))
   ·cases c
def iv.iy(h:iv ps bk l g)(aY:Int):iv ps bk (l.iy aY).1 g/\ids (l.iy aY).1=ids l/\(l.iy aY).1.bF=l.bF/\(l.iy aY).1.eG=l.eG/\(l.wanted=true->(l.iy aY).1.dx=l.dx/\(l.iy aY).1.wanted=true) /\
  (l.wanted=false->(l.iy aY).1.wanted=true->(l.iy aY).1.dx = -1)/\((l.iy aY).2=0->(l.iy aY).1.wanted=true):=by
 unfold dP.iy;split
 ·exact⟨h,rfl,rfl,rfl,λq=>⟨rfl,q⟩,λq r=>absurd r (by rw[show l.wanted=false from q];simp),λq=>absurd q dt⟩
 split
 ·exact⟨h,rfl,rfl,rfl,λq=>⟨rfl,q⟩,λq r=>absurd r (by rw[show l.wanted=false from q];simp),λq=>absurd q dt⟩
 ·exact⟨{ h with idle:=λq=>by cases q },rfl,rfl,rfl,λq=>⟨by simp[q],rfl⟩,λq _=>by simp[q],λ_=>rfl⟩
def iv.new(ps:Nn)(bk:Nat->Option Int)(own dQ aU jo:Int)(h0:0<=own/\own<4294967296/\0<=aU/\aU<4294967296)(d:0<=dQ/\dQ<65536):iv ps bk (.new own dQ aU) ⟨own,dQ,aU,jo,[],[],[]⟩:=
 ⟨by simp[ids,dP.new],λi c=>by simp[ids,dP.new]at c,λx a=>by simp[dP.new]at a,λx a=>by simp[dP.new]at a,λ_=>⟨rfl,rfl,rfl⟩,rfl,by simp[dP.new];omega,rfl,rfl,λx a=>by simp at a,λk x a=>by simp at a,λx a=>by simp at a,
  λk x y a=>by simp at a,rfl,λi k q b=>by simp at b,rfl,λi k q b=>by simp at b,dt,λq=>by simp[dP.new]at q,h0⟩
end M
end
def lj{P:Program}{ops:Array Oper}{o:Oper}{a:Act}{w:aw}{K:Act->aw->Prop}{Q:Exit->Act->aw->Prop}{E:Prop}
  (hg:o.guard=I) (x v:Operand) (t:TypeId) (e:o.op=Op.store t x v) (g off:Nat) (te:TypeId) (dx:Array Value) (j:a.eval x=aq (Z ⟨g,off,I⟩))
  (cs:Array Value) (k:(a.eval v).cells=cs) (b:(P.info? t).map (·.size)=Z cs.size) (h:aK w g te dx) (l:off+cs.size<=dx.size) (h1:∀v∈cs.toList,v.oneCell'=true)
  (m:∀w',aK w' g te (de dx off cs.toList)->cS (One g) w w'->K (a.put o.dst undef) w'):if Region.wanted o (yielded ops a.tmps)=true then Oper.wp P o a w K Q else E:=by
 have hw:Region.wanted o (yielded ops a.tmps)=true:=by simp[Region.wanted,hg]
 rw[if_pos hw];have c:=run_storeCells_at P g off te cs.toList 0 dx w h (by simpa using l) h1;rw[Nat.add_zero]at c;have d:(storeCells ⟨g,off,I⟩ cs.toList).run P w=.ok () (w.setRow g (de dx off cs.toList)):=c;cases f:P.info? t with
 |none=>simp[f]at b
 |some i =>
  have n:i.size=cs.size:=by simpa[f]using b
  unfold Oper.wp;simp[execOp,e,Instr.storeAt,storeVar,j,k,sizeOf,typeInfo,f,n,d,Result.andThen,Instr.sureAddr,asAddr];exact m _ (setRow_heap w g dx _ te (0,0) h) (fW w g _)
def xq(c:UInt8):Int:=if c=115 then 65535 else if c=116 then 20 else 999999999
def Iz(c:UInt8)(x:ByteArray):Bool:=Ka x.data.toList&&(decide (1<=x.size)&&(decide (x.size<=9)&&decide (numOf x.data.toList<=xq c)))
def QA:(af.info? 3).map (λi=>(i.zero,i.size,i.bytes))=Z (Z (J V 0),1,8):=cC
def toNat_eq(y c:UInt8)(h:((y.toNat:Int)==(c.toNat:Int))=true):y=c:=by
 have:(y.toNat:Int)=c.toNat:=by simpa using h
 exact UInt8.toNat_inj.1 z
def toNat_ne(y c:UInt8)(h:((y.toNat:Int)==(c.toNat:Int))=false):y≠c:=by rintro rfl;simp at h
def Pw(y:UInt8)(h:((y.toNat:Int)==115)=true):xq y=65535:=by rw[toNat_eq y 115 h];rfl
def Pv(y:UInt8)(h1:((y.toNat:Int)==115)=false)(h:((y.toNat:Int)==116)=true):xq y=20:=by rw[toNat_eq y 116 h];rfl
def Px(y:UInt8)(h1:((y.toNat:Int)==115)=false)(h:((y.toNat:Int)==116)=false):xq y=999999999:=by
 unfold xq;rw[if_neg (toNat_ne y 115 h1),if_neg (toNat_ne y 116 h)]
def Jq{w w':aw}{base:Nat}{e:TypeId}{size n:Nat}{v:Value}{xs:List Value}(h:w.ownsRow base e size v n xs)(b:aC w w'):w'.ownsRow base e size v n xs:=by
 rcases h.2 with⟨rfl,rfl⟩ | ⟨g,cap,dx,rfl,a,hg,hr⟩
 ·exact⟨h.1,aJ ⟨rfl,rfl⟩⟩
 ·exact⟨h.1,aZ ⟨g,cap,dx,rfl,a,aK.kept (t:=e) hg b,hr⟩⟩
def xY(f:ByteArray)(bk o c:Nat)(ws:List ByteArray)(w:aw)(a:∀(j:Nat) x,ws[j]? = Z x->w.cell? ⟨bk,o+j,I⟩=Z (.string x))(gX:bk<w.heap.size)(hf:f.size=ws.length)(hn:ws.length<=100)
  (t:∀(j:Nat) (h:j<f.size) x,ws[j]? = Z x->Iz f[j] x=true) :
  aF af 137 #[.string f,ae (Z ⟨bk,o,I⟩) ws.length c] w λe w'=>∃v,e=av v/\w'.ownsRow w.heap.size 3 1 v ws.length (ws.map λx=>J V (numOf x.data.toList))/\aC w w':=by
 obtain⟨i0,hi,A,B,C⟩:=info_parts QA;obtain⟨HI,P,Q,R,HC,HF,S⟩:=lV hi A B C a hf t;have b1:decide ((f.size:Int)=(ws.length:Int))=true:=dZ;have b2:((ws.length:Int)==(f.size:Int))=true:=dZ;have b3:((ws.length:Int) !=(f.size:Int))=false:=dZ;clear hi A B C a hf t;go_enter func137,ntmps137;go_wp2_with fail;clear b1 b2 b3;go_loopw [5,17] (λv i wr=>∃k:Nat,k<=ws.length/\i=J V k/\wr.ownsRow w.heap.size 3 1 v ((ws.take k).map λx=>J V (numOf x.data.toList)).length ((ws.take k).map λx=>J V (numOf x.data.toList))/\aC w wr) (λ_ i _=>ws.length-(intOf i).toNat);case atStart=>exact⟨0,Nat.zero_le _,rfl,⟨rfl,aJ ⟨rfl,rfl⟩⟩,ao _ _⟩
 case round =>
  obtain⟨k,hk,rfl,own,r⟩:=hrel;by_cases D:k<ws.length
  ·have d:ws[k]? = Z ws[k]:=ay D;have T:k<f.size:=by have:=HF.O;omega
   have n:=aM r (HC.O k _ d);have ok:=S.O k T _ d;have p:ws.take (k+1)=ws.take k++[ws[k]]:=List.take_succ_eq_append_getElem D;generalize ws[k]=x at d n ok p;clear d;have g:((ws.take k).map λx=>J V (numOf x.data.toList)).length=k:=dZ;rw[g]at own;have b:((ws.take (k+1)).map λx=>J V (numOf x.data.toList))=((ws.take k).map λx=>J V (numOf x.data.toList))++[J V (numOf x.data.toList)]:=by rw[p,List.map_append];rfl
   generalize ((ws.take k).map λx=>J V (numOf x.data.toList))=vs at own b g;obtain⟨HM,HK,N,s⟩:=cA b g own r;have U:=r;obtain⟨A5,c5,rfl⟩:=bA own;clear b g own r p;have E:∀y:UInt8,Iz y x=true->Ka x.data.toList=true/\1<=x.size/\x.size<=9/\numOf x.data.toList<=xq y:=λy hy=>by
    unfold Iz at hy;simpa[and_assoc]using hy
   obtain⟨o1,o2,o3,o4⟩:=E _ ok;obtain⟨HN,l⟩:=bu (λ(W:aw) (aT:Int) (h:numOf x.data.toList<=aT)=>xg x aT W o1 o2 o3 h) o4;clear E ok o1 o2 o3 o4;clear U;obtain⟨F,G,H⟩:=bU (Pw f[k]) (Pv f[k]) (Px f[k]);go_wp2_with fail;all_goals
    refine(HN.O _ _ (by first|(have e:=F.O ‹_›;rw[<-e];exact l.O)|(have e:=G.O ‹_› ‹_›;rw[<-e];exact l.O)|(have e:=H.O ‹_› ‹_›;rw[<-e];exact l.O))).mono ?_;rintro e w2 ⟨rfl,b2⟩;have X:aC w (w2.alloc (.cells #[J V (numOf x.data.toList)] 3)):=(s.O.trans (b2.mono s.O.size)).alloc (aP s.O.size b2.size) _;have Y:=X.size;simp at Y;have K:∀j u,[J V (numOf x.data.toList)][j]? = Z u->(w2.alloc (.cells #[J V (numOf x.data.toList)] 3)).cell? ((⟨w2.heap.size,0,I⟩:Addr).add j)=Z u:=by
     intro j u hu;have:=cell_of_row _ _ j _ _ _ (heap_alloc_new w2 (.cells #[J V (numOf x.data.toList)] 3));rw[show((⟨w2.heap.size,0,I⟩:Addr).add j)=⟨w2.heap.size,j,I⟩ from by unfold Addr.add;split<;>simp_all,this];simpa using hu
    have ky:=(Jq N.O b2).alloc (.cells #[J V (numOf x.data.toList)] 3);obtain⟨q,L,M⟩:=bU ky X K;clear ky b2 X K N s HN l F G H;go_wp2_with (at_builtin;go_loud (refine wpList_append_own _ rfl _ _ 36 rfl w.heap.size 3 i0 _ 1 8 underlying36 HI.O P.O Q.O R.O rfl aR _ _ _ rfl q.O ⟨w2.heap.size,0,I⟩ 1 1 [J V (numOf x.data.toList)] rfl rfl M.O tk ?_ ?_ ?_ ?_))
    ·unfold maxLen;omega
    ·omega
    ·simp;omega
    intro v5 w5 m g5 _;have b5:=L.O.grown g5 dZ (λj hj=>(q.O.lt j hj).1);obtain⟨aI,df⟩:=bu m b5;clear m g5 b5 q L M;go_wp2_with fail;go_roundw;case rel=>exact⟨k+1,z,by go_num,by rw[HM.O];simpa[HK.O]using aI.O,df.O⟩
    case measure=>simp[intOf];omega
  ·have eI:k=ws.length:=z;subst eI;rw[List.take_length]at own;obtain⟨N,s⟩:=bu own r;clear own r;go_wp2_with fail;go_ret;exact⟨_,rfl,by simpa using N.O,s.O⟩
end Go.Proofs.YtkfblammcilfhaaGreatDoor
