import Derived.Laws.AppendOwn
import Derived.Defers
import Derived.Recover
import Derived.Test.YtkfblammcilfhaaGreatDoorP1
import Derived.Test.YtkfblammcilfhaaGreatDoorP2
set_option linter.all false
set_option maxRecDepth 100000
set_option maxHeartbeats 100000000
open Go.ChangeShapes Go.WideShapes Go.ChangeAt Go.RowKit Go.Proofs.Tryz
open Go.IntKind renaming u16->aN,signed->fR,bits->gM,i64->V,u32->ar,u8->bI
open Go renaming World->aw,Calls->aF,bodyPost_ret->ax,results->aV,info_parts->cY,wpList_append_own->dM
open Go.Proofs.Tryz renaming prog->af
open Go.RowKit.Below renaming refl->ao,alloc->gH,setCell->gT,drew->ld
open Nat renaming le_refl->aj,zero_add->cO,le_succ->cZ,le_trans->aP
open Go.IntWalk renaming i64_in->cz
open Bool renaming and_eq_true->cM,false_eq_true->cB
open List renaming flatMap_cons->kO,getD_eq_getElem?_getD->bE,getElem?_eq_getElem->ay,length_pos_iff->qt
open Go.Value renaming int->J,slice->ae,bool->ai,pointer->aq,tuple->aB,agg->cg
open Go.Ending renaming returned->av
open Option renaming none->I,some->Z
namespace Go.Proofs.YtkfblammcilfhaaGreatDoor
end Go.Proofs.YtkfblammcilfhaaGreatDoor
open Go.Proofs.YtkfblammcilfhaaGreatDoor
namespace Go.Proofs.YtkfblammcilfhaaGreatDoor.rA
open Go.ChangeShapes Go.WideShapes Go.ChangeAt Go.RowKit Go.Proofs.YtkfblammcilfhaaGreatDoor
def Af(a b:Int):Int:=IntKind.i16.wrap (aN.wrap (b-a))
def KQ(n:Int):IntKind.i16.wrap n=(n+32768) % 65536-32768:=by
 simp[IntKind.wrap,fR,gM];omega
def wrap_u16(n:Int):aN.wrap n=n % 65536:=by
 simp[IntKind.wrap,fR,gM]
def IK(a b:Int):Af a b=(b-a+32768) % 65536-32768:=by
 unfold Af;rw[KQ,wrap_u16];omega
def yS(a b:Int):-32768<=Af a b/\Af a b<=32767:=by rw[IK];omega
def Fe(a b:Int)(w:aw) :
  aF af 275 #[J aN a,J aN b] w λe w'=>e=av (J V (Af a b))/\w=w':=by
 have h:=yS a b;have e:wrap64 (Af a b)=Af a b:=IntWalk.wrap64_in _ ⟨z,z⟩;have H:=au e;clear e h;go_enter func275,ntmps275;go_wp2;go_ret;exact⟨yN H.O,rfl⟩
def BR(a b:Int)(w:aw) :
  aF af 229 #[J aN a,J aN b] w λe w'=>e=av (J V (Af a b))/\w=w':=by
 obtain⟨h1,h2⟩:=yS a b;go_enter func229,ntmps229;go_wp2_with (go_at_call 275;refine(Fe _ _ _).mono ?_;rintro e w' ⟨rfl,rfl⟩);go_ret;exact⟨rfl,rfl⟩
def Ky(a b:Int)(w:aw) :
  aF af 326 #[J aN a,J aN b] w λe w'=>e=av (ai (decide (0<Af a b)))/\w=w':=by
 go_enter func326,ntmps326;go_wp2_with (go_at_call 229;refine(BR _ _ _).mono ?_;rintro e w' ⟨rfl,rfl⟩);go_ret;exact⟨rfl,rfl⟩
def KA(s:Int)(w:aw)(a:0<=s/\s<=65535) :
  aF af 181 #[J aN s] w λe w'=>e=av (J V (65536+s))/\w=w':=by
 obtain⟨h1,h2⟩:=a;go_enter func181,ntmps181;go_wp2;go_ret;exact⟨rfl,rfl⟩
def Ot(n:Int)(w:aw) :
  aF af 230 #[J V n] w λe w'=>e=av (J aN (aN.wrap n))/\w=w':=by
 go_enter func230,ntmps230;go_wp2;go_ret;exact⟨rfl,rfl⟩
def ext(n s:Int):Int:=wrap64 (n+Af (aN.wrap n) s)
def H8(n s:Int)(w:aw) :
  aF af 182 #[J V n,J aN s] w λe w'=>e=av (J V (ext n s))/\w=w':=by
 obtain⟨h1,h2⟩:=yS (aN.wrap n) s;go_enter func182,ntmps182;go_wp2_with (first|(go_at_call 230;refine(Ot _ _).mono ?_;rintro e w' ⟨rfl,rfl⟩)|(go_at_call 229;refine(BR _ _ _).mono ?_;rintro e w' ⟨rfl,rfl⟩));go_ret;exact⟨rfl,rfl⟩
end Go.Proofs.YtkfblammcilfhaaGreatDoor.rA
namespace Go.Proofs.YtkfblammcilfhaaGreatDoor
end Go.Proofs.YtkfblammcilfhaaGreatDoor
open Go.Proofs.YtkfblammcilfhaaGreatDoor
namespace Go.Proofs.YtkfblammcilfhaaGreatDoor.om
open Go.ChangeShapes Go.WideShapes Go.ChangeAt Go.RowKit Go.Proofs.YtkfblammcilfhaaGreatDoor
abbrev mO(c t:Int):Value:=cg #[J V c,J V t]
def O8(c t l:Int)(k:Bool):Int:=if l=c then c else if l=t then(if k then l else c) else c
def OZ(c t l:Int)(k:Bool):Int:=if l=c then 0 else if l=t then(if k then 0 else 5) else 4
def OY(c t l:Int)(k:Bool):Bool:=if l=c then false else if l=t then k else false
def qQ(c t l:Int)(k:Bool)(w:aw) :
  aF af 189 #[mO c t,J V l,ai k] w λe w' =>
   e=av (aB #[mO (O8 c t l k) t,J V (OZ c t l k),ai (OY c t l k)])/\aC w w':=by
 by_cases h1:l=c
 ·subst h1;go_enter func189,ntmps189;go_wp2;refine ax (v:=aB #[mO l t,J V 0,ai false]) (by simp[aV,results189,go_sem]) rfl ⟨by simp[O8,OZ,OY],?_⟩;repeat (first|(with_reducible exact ao _ _)|((with_reducible refine gH ?_ ?hh _);case hh=>(first|omega|(simp;omega)|simp)))
 ·by_cases h2:l=t
  ·subst h2;have g1:(l==c)=false:=dZ;have g2:(l !=c)=true:=dZ;cases k
   ·go_enter func189,ntmps189;go_wp2;refine ax (v:=aB #[mO c l,J V 5,ai false]) (by simp[aV,results189,go_sem]) rfl ⟨by simp[O8,OZ,OY,h1],?_⟩;repeat (first|(with_reducible exact ao _ _)|((with_reducible refine gH ?_ ?hh _);case hh=>(first|omega|(simp;omega)|simp)))
   ·go_enter func189,ntmps189;go_wp2;refine ax (v:=aB #[mO l l,J V 0,ai true]) (by simp[aV,results189,go_sem]) rfl ⟨by simp[O8,OZ,OY,h1],?_⟩;repeat (first|(with_reducible exact ao _ _)|((with_reducible refine gH ?_ ?hh _);case hh=>(first|omega|(simp;omega)|simp)))
  ·have g1:(l==c)=false:=dZ;have g2:(l !=c)=true:=dZ;have g3:(l==t)=false:=dZ;go_enter func189,ntmps189;go_wp2;refine ax (v:=aB #[mO c t,J V 4,ai false]) (by simp[aV,results189,go_sem]) rfl ⟨by simp[O8,OZ,OY,h1,h2],?_⟩;repeat (first|(with_reducible exact ao _ _)|((with_reducible refine gH ?_ ?hh _);case hh=>(first|omega|(simp;omega)|simp)))
def Ii(c t u:Int)(w:aw)(h0:0<=u)(h1:u<3) :
  aF af 154 #[mO c t,J V u] w λe w'=>e=av (aB #[mO c u,J V 0])/\aC w w':=by
 go_enter func154,ntmps154;go_wp2;refine ax (v:=aB #[mO c u,J V 0]) (by simp[aV,results154,go_sem]) rfl ⟨rfl,?_⟩;repeat (first|(with_reducible exact ao _ _)|((with_reducible refine gH ?_ ?hh _);case hh=>(first|omega|(simp;omega)|simp)))
def zc(u:Int)(w:aw)(h0:0<=u)(h1:u<3) :
  aF af 155 #[J V u] w λe w'=>e=av (aB #[mO (-1) u,J V 0])/\aC w w':=by
 go_enter func155,ntmps155;go_wp2_with fail;refine(Ii _ _ _ _ h0 h1).mono ?_;rintro e w1 ⟨rfl,b1⟩;have a:aK w1 w.heap.size 68 _:=(aK.new w 68 _).kept b1;have c1:=a.cell;have f1:=a.frozen;have d1:aC w w1:=((ao _ _).alloc (aj _) _).trans (b1.mono dt);go_wp2_with fail;refine ax (v:=aB #[mO (-1) u,J V 0]) (by simp[aV,results155,go_sem,c1]) rfl ⟨rfl,?_⟩;repeat (first|(with_reducible exact d1)|((with_reducible refine gT ?_ ?hh _);case hh=>(first|omega|(simp;omega)|simp)))
def NI(c t:Int):Bool:=c !=t
def rV(c t:Int)(w:aw):aF af 18 #[mO c t] w λe w'=>e=av (ai (NI c t))/\aC w w':=by
 go_enter func18,ntmps18;go_wp2;go_ret;refine⟨rfl,?_⟩;repeat (first|(with_reducible exact ao _ _)|((with_reducible refine gH ?_ ?hh _);case hh=>(first|omega|(simp;omega)|simp)))
end Go.Proofs.YtkfblammcilfhaaGreatDoor.om
namespace Go.Proofs.YtkfblammcilfhaaGreatDoor
end Go.Proofs.YtkfblammcilfhaaGreatDoor
open Go.Proofs.YtkfblammcilfhaaGreatDoor
namespace Go.Proofs.YtkfblammcilfhaaGreatDoor.Fg
open Go.ChangeShapes Go.WideShapes Go.ChangeAt Go.RowKit Go.Proofs.YtkfblammcilfhaaGreatDoor
abbrev mO(m r:Int)(g:Bool):Value:=cg #[J V m,J V r,ai g]
def zc(m:Int)(w:aw)(h0:1<=m)(h1:m<=10) :
  aF af 151 #[J V m] w λe w'=>e=av (aB #[mO m 0 false,J V 0])/\aC w w':=by
 go_enter func151,ntmps151;go_wp2;refine ax (v:=aB #[mO m 0 false,J V 0]) (by simp[aV,results151,go_sem]) rfl ⟨rfl,?_⟩;repeat (first|(with_reducible exact ao _ _)|(with_reducible refine ld ?_)|((with_reducible refine gH ?_ ?hh _);case hh=>(first|omega|(simp;omega)|simp))|((with_reducible refine gT ?_ ?hh _);case hh=>(first|omega|(simp;omega)|simp)))
def DF(m r:Int)(g:Bool)(b:Bool)(w:aw)(h0:0<=r)(h1:r<=100)(a:(r+1==m)=b) :
  aF af 218 #[mO m r g] w λe w'=>e=av (mO m (r+1) b)/\w'=(w.alloc (.cells #[J V m,J V (r+1),ai b] 131)).alloc (.cells #[J V m,J V (r+1),ai b] 131):=by
 go_enter func218,ntmps218;go_wp2;exact ax (v:=mO m (r+1) b) (by simp[aV,results218,go_sem]) rfl ⟨rfl,rfl⟩
def Dc(m r:Int)(g:Bool)(w:aw) :
  aF af 219 #[mO m r g] w λe w'=>e=av (mO m 0 g)/\w'=(w.alloc (.cells #[J V m,J V 0,ai g] 131)).alloc (.cells #[J V m,J V 0,ai g] 131):=by
 go_enter func219,ntmps219;go_wp2;exact ax (v:=mO m 0 g) (by simp[aV,results219,go_sem]) rfl ⟨rfl,rfl⟩
def CD(m r:Int)(a:Bool)(w:aw) :
  aF af 166 #[mO m r true,ai a] w λe w'=>e=av (aB #[mO m r true,ai false])/\∃c1 c2,w'=(w.alloc (.cells c1 131)).alloc (.cells c2 131):=by
 go_enter func166,ntmps166;go_wp2;exact ax (v:=aB #[mO m r true,ai false]) (by simp[aV,results166,go_sem]) rfl ⟨rfl,_,_,rfl⟩
def DV(m r:Int)(w:aw) :
  aF af 166 #[mO m r false,ai true] w λe w'=>e=av (aB #[mO m 0 false,ai false])/\∃c1 c2 c3 c4 c5,w'=(((((w.alloc (.cells c1 131)).alloc (.cells c2 131)).alloc (.cells c3 131)).alloc (.cells c4 131)).alloc (.cells c5 131)).drew:=by
 go_enter func166,ntmps166;go_wp2_with (go_at_call 219;refine(Dc _ _ _ _).mono ?_;rintro e w' ⟨rfl,rfl⟩);go_region;go_wp2;exact ax (v:=aB #[mO m 0 false,ai false]) (by simp[aV,results166,go_sem]) rfl ⟨rfl,_,_,_,_,_,rfl⟩
def Gk(m r:Int)(b:Bool)(w:aw)(h0:0<=r)(h1:r<=100)(a:(r+1==m)=b) :
  aF af 166 #[mO m r false,ai false] w λe w'=>e=av (aB #[mO m (r+1) b,ai b])/\∃c1 c2 c3 c4 c5,w'=(((((w.alloc (.cells c1 131)).alloc (.cells c2 131)).alloc (.cells c3 131)).alloc (.cells c4 131)).alloc (.cells c5 131)).drew:=by
 have c:=au a;clear a;go_enter func166,ntmps166;go_wp2_with (go_at_call 218;refine(DF _ _ _ b _ h0 h1 c.O).mono ?_;rintro e w' ⟨rfl,rfl⟩);go_region;go_wp2;exact ax (v:=aB #[mO m (r+1) b,ai b]) (by simp[aV,results166,go_sem]) rfl ⟨rfl,_,_,_,_,_,rfl⟩
def MX(w:aw)(a b c d e:Obj):aC w (((((w.alloc a).alloc b).alloc c).alloc d).alloc e).drew:=
 (((((((ao _ _).alloc (aj _) a).alloc dt b).alloc dZ c).alloc dZ d).alloc dZ e).drew)
def Gl(m r:Int)(a:Bool)(w:aw) :
  aF af 166 #[mO m r true,ai a] w λe w'=>e=av (aB #[mO m r true,ai false])/\aC w w':=
 (CD m r a w).mono λe w' ⟨he,c1,c2,hw⟩=>⟨he,hw ▸ ((ao _ _).alloc (aj _) _).alloc dt _⟩
def Jy(m r:Int)(w:aw) :
  aF af 166 #[mO m r false,ai true] w λe w'=>e=av (aB #[mO m 0 false,ai false])/\aC w w':=
 (DV m r w).mono λe w' ⟨he,c1,c2,c3,c4,c5,hw⟩=>⟨he,hw ▸ MX _ _ _ _ _ _⟩
def LN(m r:Int)(b:Bool)(w:aw)(h0:0<=r)(h1:r<=100)(a:(r+1==m)=b) :
  aF af 166 #[mO m r false,ai false] w λe w'=>e=av (aB #[mO m (r+1) b,ai b])/\aC w w':=
 (Gk m r b w h0 h1 a).mono λe w' ⟨he,c1,c2,c3,c4,c5,hw⟩=>⟨he,hw ▸ MX _ _ _ _ _ _⟩
end Go.Proofs.YtkfblammcilfhaaGreatDoor.Fg
namespace Go.Proofs.YtkfblammcilfhaaGreatDoor
end Go.Proofs.YtkfblammcilfhaaGreatDoor
open Go.Proofs.YtkfblammcilfhaaGreatDoor
namespace Go.Proofs.YtkfblammcilfhaaGreatDoor.Rewrite
open Go.ChangeShapes Go.WideShapes Go.ChangeAt Go.RowKit Go.Proofs.YtkfblammcilfhaaGreatDoor
def OD(aU:Int)(any:Bool)(fH shift h:Int)(first:Bool):Int:=
 if any then(if first then(fH+3000-h) % 4294967296 else shift) else(aU-h) % 4294967296
def Oz(aU:Int)(any:Bool)(fH shift h:Int)(first:Bool):Int:=(h+OD aU any fH shift h first) % 4294967296
abbrev mO(src dQ aU:Int)(any:Bool)(fH shift:Int):Value:=cg #[J ar src,J aN dQ,J ar aU,ai any,J ar fH,J ar shift]
abbrev QS(m:Bool)(t q st a:Int):Value:=cg #[ai m,J bI t,J aN q,J ar st,J ar a]
def La(src dQ aU fH shift:Int)(any:Bool)(m:Bool)(t q st a:Int)(first:Bool)(w:aw) :
  aF af 239 #[mO src dQ aU any fH shift,QS m t q st a,ai first] w λe w' =>
   e=av (cg #[ai m,J bI t,J aN dQ,J ar (Oz aU any fH shift st first),J ar src,J ar (OD aU any fH shift st first)])/\∃c1 c2 c3 c4,w'=(((w.alloc (.cells c1 129)).alloc (.cells c2 73)).alloc (.cells c3 405)).alloc (.cells c4 405):=by
 cases any<;>cases first
 all_goals
  go_enter func239,ntmps239;go_wp2;exact ax (v:=cg #[ai m,J bI t,J aN dQ,J ar (Oz aU _ fH shift st _),J ar src,J ar (OD aU _ fH shift st _)]) (by simp[aV,results239,go_sem,Oz,OD]) rfl ⟨rfl,_,_,_,_,rfl⟩
def zb(src dQ aU fH shift:Int)(any:Bool)(m:Bool)(t q st c:Int)(first:Bool)(w:aw) :
  aF af 192 #[mO src dQ aU any fH shift,QS m t q st c,ai first] w λe w' =>
   e=av (aB #[mO src (aN.wrap (dQ+1)) aU true (Oz aU any fH shift st first) (OD aU any fH shift st first),QS m t dQ (Oz aU any fH shift st first) src])/\aC w w':=by
 go_enter func192,ntmps192;go_wp2_with fail;refine(La _ _ _ _ _ _ _ _ _ _ _ _ _).mono ?_;rintro e w' ⟨rfl,c1,c2,c3,c4,rfl⟩;generalize a:Oz aU any fH shift st first=T
 generalize b:OD aU any fH shift st first=S
 obtain⟨d,HS⟩:=bu a b;clear a b;go_wp2_with fail;go_region;go_wp2_with fail;refine ax (v:=aB #[mO src (aN.wrap (dQ+1)) aU true T S,QS m t dQ T src]) (by simp[aV,results192,go_sem]) rfl ⟨by rw[d.O,HS.O],?_⟩;repeat (first|exact ao _ _|refine ld ?_|refine gH ?_ (by simp;try omega) _|refine gT ?_ (by simp;try omega) _)
def I4(src dQ aU:Int)(w:aw) :
  aF af 152 #[J ar src,J aN dQ,J ar aU] w λe w'=>e=av (mO src dQ aU false 0 0)/\aC w w':=by
 go_enter func152,ntmps152;go_wp2;refine ax (v:=mO src dQ aU false 0 0) (by simp[aV,results152,go_sem]) rfl ⟨rfl,?_⟩;repeat (first|exact ao _ _|refine ld ?_|refine gH ?_ (by simp;try omega) _|refine gT ?_ (by simp;try omega) _)
end Go.Proofs.YtkfblammcilfhaaGreatDoor.Rewrite
namespace Go.Proofs.YtkfblammcilfhaaGreatDoor
end Go.Proofs.YtkfblammcilfhaaGreatDoor
open Go.Proofs.YtkfblammcilfhaaGreatDoor
namespace Go.Proofs.YtkfblammcilfhaaGreatDoor.Ask
open Go.ChangeShapes Go.WideShapes Go.ChangeAt Go.RowKit Go.Proofs.YtkfblammcilfhaaGreatDoor
abbrev KE(S R:Int):Value:=cg #[J V S,J V R]
abbrev mO(a b:Bool)(la tr:Int):Value:=cg #[ai a,ai b,J V la,J V tr]
def yH(S R:Int):Nat->Int
 |0=>S
 |n+1=>if R<=yH S R n then yH S R n else 2*yH S R n
def ra(S R t:Int):Int:=if yH S R (t-1).toNat<R then yH S R (t-1).toNat else R
def CR{S R:Int}(h0:1<=S):∀n,1<=yH S R n
 |0=>h0
 |n+1=>by have:=CR (R:=R) h0 n;unfold yH;split<;>omega
def EB{S R:Int}(h0:1<=S):∀n,yH S R n<R->(n:Int)+1<=yH S R n
 |0,_=>by unfold yH;omega
 |n+1,h=>by
  unfold yH at h ⊢;have b:=CR (R:=R) h0 n;by_cases a:R<=yH S R n
  ·rw[if_pos a]at h;omega
  ·rw[if_neg a];have:=EB (R:=R) h0 n z;omega
def zS{S R:Int}{k:Nat}(h:R<=yH S R k):∀n,yH S R (k+n)=yH S R k
 |0=>rfl
 |n+1=>by
  have:=zS h n;rw[show k+(n+1)=(k+n)+1 from rfl,yH,this,if_pos h]
def yR{S R t:Int}(h0:1<=S)(h1:S<=R):1<=ra S R t/\ra S R t<=R:=by
 have:=CR (R:=R) h0 (t-1).toNat;unfold ra;split<;>omega
def Jf(S R:Int)(w:aw)(h0:1<=S)(h1:S<=R)(h2:R<=1000):aF af 32 #[KE S R] w λe w'=>e=av (ai true)/\w'=w.alloc (.cells #[J V S,J V R] 23):=by
 go_enter func32,ntmps32;go_wp2;go_ret;exact⟨rfl,rfl⟩
def Ll(S R:Int)(w:aw)(h:¬(1<=S/\S<=R/\R<=1000)):aF af 32 #[KE S R] w λe w'=>e=av (ai false)/\w'=w.alloc (.cells #[J V S,J V R] 23):=by
 by_cases h0:1<=S
 ·by_cases h1:S<=R
  ·have g2:decide (R<=1000)=false:=dZ;clear h;go_enter func32,ntmps32;go_wp2;go_ret;exact⟨rfl,rfl⟩
  ·have g1:decide (S<=R)=false:=dZ;clear h;go_enter func32,ntmps32;go_wp2;go_ret;exact⟨rfl,rfl⟩
 ·have g0:decide (1<=S)=false:=dZ;clear h;go_enter func32,ntmps32;go_wp2;go_ret;exact⟨rfl,rfl⟩
def yQ(S R t:Int)(w:aw)(h0:1<=S)(h1:S<=R)(h2:R<=1000):aF af 140 #[KE S R,J V t] w λe w'=>e=av (J V (ra S R t))/\w'=w.alloc (.cells #[J V S,J V R] 23):=by
 go_enter func140,ntmps140;go_wp2;go_step3;go_wp2;go_step3;go_wp2;go_loop [5,6] (λg i=>∃(k:Nat) (d:Int),i=J V (1+(k:Int))/\g=J V d/\d=yH S R k/\1<=d/\d<=2000/\(k=0\/(k:Int)<t)/\(k:Int)<=1000) (λg _=>(R-intOf g).toNat);case atStart=>exact⟨0,S,rfl,rfl,rfl,h0,z,.inl rfl,z⟩
 case round =>
  obtain⟨k,d,rfl,rfl,l,d0,d1,c,m⟩:=hrel;obtain⟨f,n⟩:=bu l c;clear l c;by_cases ht:1+(k:Int)<t
  ·by_cases hR:R<=d
   ·have a:ra S R t=R:=by
     have e:(t-1).toNat=k+((t-1).toNat-k):=z;rw[ra,e,zS (by rw[<-f.O];exact hR),<-f.O,if_neg z]
    have h:=au a;clear a;go_wp2;all_goals go_ret
    all_goals exact⟨yN (by rw[h.O];try omega),rfl⟩
   ·have b:=EB (R:=R) h0 k (by rw[<-f.O];omega);have j:(k:Int)+1<=d:=by rw[f.O];exact b
    clear b;go_wp2;go_round;case rel =>
     refine⟨k+1,d*2,by go_num,rfl,?_,z,z,.inr z,z⟩;rw[yH,<-f.O,if_neg z];omega
    case measure=>simp[intOf];omega
  ·have c:(t-1).toNat=k:=by have:=n.O;omega
   by_cases hR:d<R
   ·have a:ra S R t=d:=by rw[ra,c,<-f.O,if_pos hR]
    have h:=au a;clear a c;go_wp2;all_goals go_ret
    all_goals exact⟨yN (by rw[h.O];try omega),rfl⟩
   ·have a:ra S R t=R:=by rw[ra,c,<-f.O,if_neg hR]
    have h:=au a;clear a c;go_wp2;all_goals go_ret
    all_goals exact⟨yN (by rw[h.O];try omega),rfl⟩
def t0(a:Bool)(tr:Int):Int:=if a then tr else 0
def FE(S R:Int)(a:Bool)(la tr now:Int)(w:aw)(h0:1<=S)(h1:S<=R)(h2:R<=1000)(OI:0<=la)(OH:la<=1000000)(n0:0<=now)(n1:now<=1000000)(Oy:0<=tr)(Ox:tr<=1000000) :
  aF af 82 #[KE S R,mO true a la tr,ai false,J V now] w λe w'=>e=av (aB #[mO false a la 0,ai false])/\aC w w':=by
 go_enter func82,ntmps82;go_wp2_with fail;go_quiet (fail);go_wp2_with fail;all_goals
  refine ax (v:=aB #[mO false a la 0,ai false]) (by simp[aV,results82,go_sem]) rfl ⟨rfl,?_⟩;repeat (first|(with_reducible exact ao _ _)|(with_reducible refine ld ?_)|(with_reducible refine cd ?_ _)|((with_reducible refine gH ?_ ?hh _);case hh=>(first|omega|(simp;omega)|simp))|((with_reducible refine gT ?_ ?hh _);case hh=>(first|omega|(simp;omega)|simp)))
def FG(S R:Int)(a:Bool)(la tr now:Int)(w:aw)(h0:1<=S)(h1:S<=R)(h2:R<=1000)(OI:0<=la)(OH:la<=1000000)(n0:0<=now)(n1:now<=1000000)(Oy:0<=tr)(Ox:tr<=1000000) :
  aF af 82 #[KE S R,mO false a la tr,ai false,J V now] w λe w'=>e=av (aB #[mO false a la 0,ai false])/\aC w w':=by
 go_enter func82,ntmps82;go_wp2_with fail;go_quiet (fail);go_wp2_with fail;all_goals
  refine ax (v:=aB #[mO false a la 0,ai false]) (by simp[aV,results82,go_sem]) rfl ⟨rfl,?_⟩;repeat (first|(with_reducible exact ao _ _)|(with_reducible refine ld ?_)|(with_reducible refine cd ?_ _)|((with_reducible refine gH ?_ ?hh _);case hh=>(first|omega|(simp;omega)|simp))|((with_reducible refine gT ?_ ?hh _);case hh=>(first|omega|(simp;omega)|simp)))
def Ds(S R:Int)(j:Bool)(la tr now:Int)(w:aw)(h0:1<=S)(h1:S<=R)(h2:R<=1000)(OI:0<=la)(OH:la<=1000000)(n0:0<=now)(n1:now<=1000000)(Oy:0<=tr)(Ox:tr<=1000000)(a:Hd (now-la<ra S R tr)) :
  aF af 82 #[KE S R,mO true true la tr,ai true,J V now] w λe w'=>e=av (aB #[mO true true la tr,ai false])/\aC w w':=by
 have b:=yR (t:=tr) h0 h1;have G:=au (λW=>yQ S R tr W h0 h1 h2);generalize ra S R tr=c at a b G;have d:=a.O;clear a;have k:decide (now-la<c)=true:=dZ;have f:decide (now<la+c)=true:=dZ;obtain⟨g,h⟩:=b;have i:V.wrap (now-la)=now-la:=cz _ ⟨z,z⟩;go_enter func82,ntmps82;go_wp2_with fail;go_region_held3 (λW=>W.cell? ⟨w.heap.size,0,I⟩=Z (J V S)/\W.cell? ⟨w.heap.size,1,I⟩=Z (J V R)/\W.cell? ⟨w.heap.size+1,1,I⟩=Z (ai true)/\W.cell? ⟨w.heap.size+1,2,I⟩=Z (J V la)/\W.cell? ⟨w.heap.size+1,3,I⟩=Z (J V tr)) (simp[go_sem]) (first|(go_at_call 140;refine(G.O _).mono ?_;rintro e w' ⟨rfl,rfl⟩));go_wp2_with fail;all_goals
  refine ax (v:=aB #[mO true true la tr,ai false]) (by simp[aV,results82,go_sem]) rfl ⟨rfl,?_⟩;repeat (first|(with_reducible exact ao _ _)|(with_reducible refine ld ?_)|(with_reducible refine cd ?_ _)|((with_reducible refine gH ?_ ?hh _);case hh=>(first|omega|(simp;omega)|simp))|((with_reducible refine gT ?_ ?hh _);case hh=>(first|omega|(simp;omega)|simp)))
def Dt(S R:Int)(j:Bool)(la tr now:Int)(w:aw)(h0:1<=S)(h1:S<=R)(h2:R<=1000)(OI:0<=la)(OH:la<=1000000)(n0:0<=now)(n1:now<=1000000)(Oy:0<=tr)(Ox:tr<=1000000)(a:Hd (now-la<ra S R 0)) :
  aF af 82 #[KE S R,mO false true la tr,ai true,J V now] w λe w'=>e=av (aB #[mO true true la 0,ai false])/\aC w w':=by
 have b:=yR (t:=0) h0 h1;have G:=au (λW=>yQ S R 0 W h0 h1 h2);generalize ra S R 0=c at a b G;have d:=a.O;clear a;have k:decide (now-la<c)=true:=dZ;have f:decide (now<la+c)=true:=dZ;obtain⟨g,h⟩:=b;have i:V.wrap (now-la)=now-la:=cz _ ⟨z,z⟩;go_enter func82,ntmps82;go_wp2_with fail;go_region_held3 (λW=>W.cell? ⟨w.heap.size,0,I⟩=Z (J V S)/\W.cell? ⟨w.heap.size,1,I⟩=Z (J V R)/\W.cell? ⟨w.heap.size+1,1,I⟩=Z (ai true)/\W.cell? ⟨w.heap.size+1,2,I⟩=Z (J V la)/\W.cell? ⟨w.heap.size+1,3,I⟩=Z (J V 0)) (simp[go_sem]) (first|(go_at_call 140;refine(G.O _).mono ?_;rintro e w' ⟨rfl,rfl⟩));go_wp2_with fail;all_goals
  refine ax (v:=aB #[mO true true la 0,ai false]) (by simp[aV,results82,go_sem]) rfl ⟨rfl,?_⟩;repeat (first|(with_reducible exact ao _ _)|(with_reducible refine ld ?_)|(with_reducible refine cd ?_ _)|((with_reducible refine gH ?_ ?hh _);case hh=>(first|omega|(simp;omega)|simp))|((with_reducible refine gT ?_ ?hh _);case hh=>(first|omega|(simp;omega)|simp)))
def Cd(S R:Int)(a:Bool)(la tr now:Int)(w:aw)(h0:1<=S)(h1:S<=R)(h2:R<=1000)(OI:0<=la)(OH:la<=1000000)(n0:0<=now)(n1:now<=1000000)(Oy:0<=tr)(Ox:tr<=1000000) :
  aF af 82 #[KE S R,mO true false la tr,ai true,J V now] w λe w'=>e=av (aB #[mO true true now (tr+1),ai true])/\aC w w':=by
 go_enter func82,ntmps82;go_wp2_with fail;go_quiet (fail);go_wp2_with fail;all_goals
  refine ax (v:=aB #[mO true true now (tr+1),ai true]) (by simp[aV,results82,go_sem]) rfl ⟨rfl,?_⟩;repeat (first|(with_reducible exact ao _ _)|(with_reducible refine ld ?_)|(with_reducible refine cd ?_ _)|((with_reducible refine gH ?_ ?hh _);case hh=>(first|omega|(simp;omega)|simp))|((with_reducible refine gT ?_ ?hh _);case hh=>(first|omega|(simp;omega)|simp)))
def Ce(S R:Int)(a:Bool)(la tr now:Int)(w:aw)(h0:1<=S)(h1:S<=R)(h2:R<=1000)(OI:0<=la)(OH:la<=1000000)(n0:0<=now)(n1:now<=1000000)(Oy:0<=tr)(Ox:tr<=1000000) :
  aF af 82 #[KE S R,mO false false la tr,ai true,J V now] w λe w'=>e=av (aB #[mO true true now (0+1),ai true])/\aC w w':=by
 go_enter func82,ntmps82;go_wp2_with fail;go_quiet (fail);go_wp2_with fail;all_goals
  refine ax (v:=aB #[mO true true now (0+1),ai true]) (by simp[aV,results82,go_sem]) rfl ⟨rfl,?_⟩;repeat (first|(with_reducible exact ao _ _)|(with_reducible refine ld ?_)|(with_reducible refine cd ?_ _)|((with_reducible refine gH ?_ ?hh _);case hh=>(first|omega|(simp;omega)|simp))|((with_reducible refine gT ?_ ?hh _);case hh=>(first|omega|(simp;omega)|simp)))
def Cf(S R:Int)(j:Bool)(la tr now:Int)(w:aw)(h0:1<=S)(h1:S<=R)(h2:R<=1000)(OI:0<=la)(OH:la<=1000000)(n0:0<=now)(n1:now<=1000000)(Oy:0<=tr)(Ox:tr<=1000000)(a:Hd (ra S R tr<=now-la)) :
  aF af 82 #[KE S R,mO true true la tr,ai true,J V now] w λe w'=>e=av (aB #[mO true true now (tr+1),ai true])/\aC w w':=by
 have b:=yR (t:=tr) h0 h1;have G:=au (λW=>yQ S R tr W h0 h1 h2);generalize ra S R tr=c at a b G;have d:=a.O;clear a;have k:decide (now-la<c)=false:=dZ;have f:decide (now<la+c)=false:=dZ;obtain⟨g,h⟩:=b;have i:V.wrap (now-la)=now-la:=cz _ ⟨z,z⟩;go_enter func82,ntmps82;go_wp2_with fail;go_region_held3 (λW=>W.cell? ⟨w.heap.size,0,I⟩=Z (J V S)/\W.cell? ⟨w.heap.size,1,I⟩=Z (J V R)/\W.cell? ⟨w.heap.size+1,1,I⟩=Z (ai true)/\W.cell? ⟨w.heap.size+1,2,I⟩=Z (J V la)/\W.cell? ⟨w.heap.size+1,3,I⟩=Z (J V tr)) (simp[go_sem]) (first|(go_at_call 140;refine(G.O _).mono ?_;rintro e w' ⟨rfl,rfl⟩));go_wp2_with fail;all_goals
  refine ax (v:=aB #[mO true true now (tr+1),ai true]) (by simp[aV,results82,go_sem]) rfl ⟨rfl,?_⟩;repeat (first|(with_reducible exact ao _ _)|(with_reducible refine ld ?_)|(with_reducible refine cd ?_ _)|((with_reducible refine gH ?_ ?hh _);case hh=>(first|omega|(simp;omega)|simp))|((with_reducible refine gT ?_ ?hh _);case hh=>(first|omega|(simp;omega)|simp)))
def Cg(S R:Int)(j:Bool)(la tr now:Int)(w:aw)(h0:1<=S)(h1:S<=R)(h2:R<=1000)(OI:0<=la)(OH:la<=1000000)(n0:0<=now)(n1:now<=1000000)(Oy:0<=tr)(Ox:tr<=1000000)(a:Hd (ra S R 0<=now-la)) :
  aF af 82 #[KE S R,mO false true la tr,ai true,J V now] w λe w'=>e=av (aB #[mO true true now (0+1),ai true])/\aC w w':=by
 have b:=yR (t:=0) h0 h1;have G:=au (λW=>yQ S R 0 W h0 h1 h2);generalize ra S R 0=c at a b G;have d:=a.O;clear a;have k:decide (now-la<c)=false:=dZ;have f:decide (now<la+c)=false:=dZ;obtain⟨g,h⟩:=b;have i:V.wrap (now-la)=now-la:=cz _ ⟨z,z⟩;go_enter func82,ntmps82;go_wp2_with fail;go_region_held3 (λW=>W.cell? ⟨w.heap.size,0,I⟩=Z (J V S)/\W.cell? ⟨w.heap.size,1,I⟩=Z (J V R)/\W.cell? ⟨w.heap.size+1,1,I⟩=Z (ai true)/\W.cell? ⟨w.heap.size+1,2,I⟩=Z (J V la)/\W.cell? ⟨w.heap.size+1,3,I⟩=Z (J V 0)) (simp[go_sem]) (first|(go_at_call 140;refine(G.O _).mono ?_;rintro e w' ⟨rfl,rfl⟩));go_wp2_with fail;all_goals
  refine ax (v:=aB #[mO true true now (0+1),ai true]) (by simp[aV,results82,go_sem]) rfl ⟨rfl,?_⟩;repeat (first|(with_reducible exact ao _ _)|(with_reducible refine ld ?_)|(with_reducible refine cd ?_ _)|((with_reducible refine gH ?_ ?hh _);case hh=>(first|omega|(simp;omega)|simp))|((with_reducible refine gT ?_ ?hh _);case hh=>(first|omega|(simp;omega)|simp)))
def Dg(S R:Int)(a b:Bool)(la tr:Int)(wt:Bool)(now:Int):Bool:=wt && !(b&&decide (now-la<ra S R (t0 a tr)))
def JE(S R:Int)(a b:Bool)(la tr:Int)(wt:Bool)(now:Int):Int:=if Dg S R a b la tr wt now then now else la
def JD(S R:Int)(a b:Bool)(la tr:Int)(wt:Bool)(now:Int):Int:=if wt then(if Dg S R a b la tr wt now then t0 a tr+1 else t0 a tr) else 0
def JF(S R:Int)(b a:Bool)(la tr:Int)(wt:Bool)(now:Int):Bool:=a||Dg S R b a la tr wt now
structure Fit(S R la tr now:Int):Prop where
 h0:1<=S
 h1:S<=R
 h2:R<=1000
 OI:0<=la
 OH:la<=1000000
 n0:0<=now
 n1:now<=1000000
 Oy:0<=tr
 Ox:tr<=1000000
def zb(S R:Int)(a c:Bool)(la tr:Int)(wt:Bool)(now:Int)(w:aw)(F:Fit S R la tr now) :
  aF af 82 #[KE S R,mO a c la tr,ai wt,J V now] w λe w'=>e=av (aB #[mO wt (JF S R a c la tr wt now) (JE S R a c la tr wt now) (JD S R a c la tr wt now),ai (Dg S R a c la tr wt now)])/\aC w w':=by
 obtain⟨h0,h1,h2,l0,l1,n0,n1,d,f⟩:=F;cases wt
 ·have b:Dg S R a c la tr false now=false:=by simp[Dg]
  have g:JF S R a c la tr false now=c:=by simp[JF,b]
  have h:JE S R a c la tr false now=la:=by simp[JE,b]
  have i:JD S R a c la tr false now=0:=by simp[JD]
  rw[b,g,h,i];cases a
  ·exact FG S R c la tr now w h0 h1 h2 l0 l1 n0 n1 d f
  ·exact FE S R c la tr now w h0 h1 h2 l0 l1 n0 n1 d f
 ·cases c
  ·have b:Dg S R a false la tr true now=true:=by simp[Dg]
   have g:JF S R a false la tr true now=true:=by simp[JF,b]
   have h:JE S R a false la tr true now=now:=by simp[JE,b]
   have i:JD S R a false la tr true now=t0 a tr+1:=by simp[JD,b]
   rw[b,g,h,i];cases a
   ·exact Ce S R false la tr now w h0 h1 h2 l0 l1 n0 n1 d f
   ·exact Cd S R false la tr now w h0 h1 h2 l0 l1 n0 n1 d f
  ·by_cases hg:now-la<ra S R (t0 a tr)
   ·have b:Dg S R a true la tr true now=false:=by simp[Dg,hg]
    have g:JF S R a true la tr true now=true:=by simp[JF]
    have h:JE S R a true la tr true now=la:=by simp[JE,b]
    have i:JD S R a true la tr true now=t0 a tr:=by simp[JD,b]
    rw[b,g,h,i];cases a
    ·exact Dt S R true la tr now w h0 h1 h2 l0 l1 n0 n1 d f hg
    ·exact Ds S R true la tr now w h0 h1 h2 l0 l1 n0 n1 d f hg
   ·have b:Dg S R a true la tr true now=true:=by simp[Dg];omega
    have g:JF S R a true la tr true now=true:=by simp[JF]
    have h:JE S R a true la tr true now=now:=by simp[JE,b]
    have i:JD S R a true la tr true now=t0 a tr+1:=by simp[JD,b]
    rw[b,g,h,i];cases a
    ·exact Cg S R true la tr now w h0 h1 h2 l0 l1 n0 n1 d f (Int.not_lt.1 hg)
    ·exact Cf S R true la tr now w h0 h1 h2 l0 l1 n0 n1 d f (Int.not_lt.1 hg)
end Go.Proofs.YtkfblammcilfhaaGreatDoor.Ask
namespace Go.Proofs.YtkfblammcilfhaaGreatDoor
def Ht(a b:Int):rA.Af a b=M.nx a b:=by
 rw[rA.IK];unfold M.nx;split<;>omega
def NS(a b:Int)(w:aw):aF af 326 #[J aN a,J aN b] w λe w'=>e=av (ai (decide (0<M.nx a b)))/\w'=w:=
 (rA.Ky a b w).mono λe w' ⟨h,q⟩=>⟨by rw[h,Ht],q.symm⟩
def Oa(s:Int)(w:aw)(a:0<=s/\s<=65535):aF af 181 #[J aN s] w λe w'=>e=av (J V (M.nE s))/\w'=w:=
 (rA.KA s w a).mono λe w' ⟨h,q⟩=>⟨by rw[h];rfl,q.symm⟩
def BD(n s:Int):n-32768<=M.jL n s/\M.jL n s<=n+32767:=by
 have h:=rA.yS (n % 65536) s;rw[Ht]at h;unfold M.jL;omega
def MM(n s:Int)(w:aw)(c:-1000000000000<=n/\n<=1000000000000):aF af 182 #[J V n,J aN s] w λe w'=>e=av (J V (M.jL n s))/\w'=w:=
 (rA.H8 n s w).mono λe w' ⟨h,q⟩=>⟨by
  rw[h]
  have a:=BD n s
  have b:rA.ext n s=M.jL n s:=by
   unfold rA.ext
   rw[Ht,rA.wrap_u16]
   exact IntWalk.wrap64_in _ ⟨by have:=a.1;unfold M.jL at this;omega,by have:=a.2;unfold M.jL at this;omega⟩
  rw[b],q.symm⟩
def Pa(c t l:Int)(k:Bool):M.take c t l k=(om.O8 c t l k,om.OZ c t l k,om.OY c t l k):=by
 unfold M.take om.O8 om.OZ om.OY;by_cases h1:l=c
 ·subst h1;simp
 ·by_cases h2:l=t
  ·subst h2;cases k<;>simp[h1]
  ·simp[h1,h2]
def MS(c t l:Int)(k:Bool)(w:aw):aF af 189 #[cg #[J V c,J V t],J V l,ai k] w λe w' =>
  e=av (aB #[cg #[J V (M.take c t l k).1,J V t],J V (M.take c t l k).2.1,ai (M.take c t l k).2.2])/\aC w w':=by
 rw[Pa];exact om.qQ c t l k w
def wv(m r:Int)(g a:Bool):Int×Bool×Bool:=if g then(r,true,false) else if a then(0,false,false) else(r+1,decide (r+1=m),decide (r+1=m))
def Ix(m r:Int)(g a:Bool)(w:aw)(h0:0<=r)(h1:r<=100):aF af 166 #[cg #[J V m,J V r,ai g],ai a] w λe w' =>
  e=av (aB #[cg #[J V m,J V (wv m r g a).1,ai (wv m r g a).2.1],ai (wv m r g a).2.2])/\aC w w':=by
 cases g
 ·cases a
  ·exact Fg.LN m r (decide (r+1=m)) w h0 h1 (by by_cases h:r+1=m<;>simp[h])
  ·exact Fg.Jy m r w
 ·exact Fg.Gl m r a w
def Ny(m:Int)(w:aw)(h0:1<=m)(h1:m<=10):aF af 151 #[J V m] w λe w'=>e=av (aB #[cg #[J V m,J V 0,ai false],J V 0])/\aC w w':=Fg.zc m w h0 h1
def Jg(s:M.Qd)(p:M.cR)(first:Bool)(w:aw):aF af 192 #[cg #[J ar s.bJ,J aN s.dQ,J ar s.aU,ai s.any,J ar s.fH,J ar s.shift],cg #[ai p.dR,J bI p.type,J aN p.dQ,J ar p.aU,J ar p.bJ],ai first] w λe w' =>
  e=av (aB #[cg #[J ar (M.dO s p first).1.bJ,J aN (M.dO s p first).1.dQ,J ar (M.dO s p first).1.aU,ai (M.dO s p first).1.any,J ar (M.dO s p first).1.fH,J ar (M.dO s p first).1.shift],
   cg #[ai (M.dO s p first).2.dR,J bI (M.dO s p first).2.type,J aN (M.dO s p first).2.dQ,J ar (M.dO s p first).2.aU,J ar (M.dO s p first).2.bJ]])/\aC w w':=by
 refine(Rewrite.zb s.bJ s.dQ s.aU s.fH s.shift s.any p.dR p.type p.dQ p.aU p.bJ first w).mono λe w' ⟨h,q⟩=>⟨?_,q⟩;rw[h];have a:Rewrite.OD s.aU s.any s.fH s.shift p.aU first=(M.dO s p first).1.shift:=by
  unfold Rewrite.OD M.dO;cases s.any<;>cases first<;>rfl
 have b:Rewrite.Oz s.aU s.any s.fH s.shift p.aU first=(M.dO s p first).1.fH:=by
  unfold Rewrite.Oz;rw[a];rfl
 rw[a,b,rA.wrap_u16];rfl
def FQ(own dQ aU:Int)(w:aw):aF af 152 #[J ar own,J aN dQ,J ar aU] w λe w'=>e=av (cg #[J ar own,J aN dQ,J ar aU,ai false,J ar 0,J ar 0])/\aC w w':=Rewrite.I4 own dQ aU w
def BA(S R:Int)(h0:1<=S):∀n k,M.En R n (Ask.yH S R k)=Ask.yH S R (k+n)
 |0,k=>rfl
 |n+1,k=>by
  unfold M.En;have b:=Ask.CR (R:=R) h0 k;by_cases a:R<=Ask.yH S R k
  ·rw[if_pos (.inr a),Ask.zS a]
  ·rw[if_neg z];have e:Ask.yH S R k*2=Ask.yH S R (k+1):=by rw[Ask.yH,if_neg a];omega
   rw[e,BA S R h0 n (k+1)];congr 1;omega
def QB(S R t:Int)(h0:1<=S):M.QT S R t=Ask.ra S R t:=by
 have:=BA S R h0 (t-1).toNat 0;rw[cO]at this;unfold M.QT Ask.ra;rw[show M.En R (t-1).toNat S=Ask.yH S R (t-1).toNat from this];split<;>omega
def Kv(S R:Int)(s:M.Ask)(wt:Bool)(now:Int)(w:aw)(F:Ask.Fit S R s.fH s.gB now):aF af 82 #[cg #[J V S,J V R],cg #[ai s.wanted,ai s.any,J V s.fH,J V s.gB],ai wt,J V now] w λe w' =>
  e=av (aB #[cg #[ai (M.iK S R s wt now).1.wanted,ai (M.iK S R s wt now).1.any,J V (M.iK S R s wt now).1.fH,J V (M.iK S R s wt now).1.gB],ai (M.iK S R s wt now).2])/\aC w w':=by
 refine(Ask.zb S R s.wanted s.any s.fH s.gB wt now w F).mono λe w' ⟨h,q⟩=>⟨?_,q⟩;rw[h];obtain⟨a,c,la,tr⟩:=s;simp only;have hg:=QB S R (Ask.t0 a tr) F.h0;cases wt
 ·simp[M.iK,Ask.JF,Ask.JE,Ask.JD,Ask.Dg]
 ·have f:(if(!true || !a)=true then 0 else tr)=Ask.t0 a tr:=by cases a<;>rfl
  unfold M.iK;simp only[f,hg];by_cases b:(c&&decide (now-la<Ask.ra S R (Ask.t0 a tr)))=true
  ·have d:Ask.Dg S R a c la tr true now=false:=by simp only[Ask.Dg];rw[b];rfl
   rw[if_pos (by simpa using b)];simp[Ask.JF,Ask.JE,Ask.JD,d]
  ·have d:Ask.Dg S R a c la tr true now=true:=by simp only[Ask.Dg];simp only[Bool.not_eq_true]at b;rw[b];rfl
   rw[if_neg (by simpa using b)];simp[Ask.JF,Ask.JE,Ask.JD,d]
def Lh(S R:Int)(w:aw):aF af 32 #[cg #[J V S,J V R]] w λe w'=>e=av (ai (decide (1<=S)&&(decide (S<=R)&&decide (R<=1000))))/\aC w w':=by
 by_cases h:1<=S/\S<=R/\R<=1000
 ·refine(Ask.Jf S R w h.1 h.2.1 h.2.2).mono λe w' ⟨q,r⟩=>⟨by rw[q];simp[h],r ▸ (ao _ _).alloc (aj _) _⟩
 ·refine(Ask.Ll S R w h).mono λe w' ⟨q,r⟩=>⟨?_,r ▸ (ao _ _).alloc (aj _) _⟩;have:(decide (1<=S)&&(decide (S<=R)&&decide (R<=1000)))=false:=by
   rw[Bool.eq_false_iff];intro q;simp only[cM,decide_eq_true_eq]at q;exact h q
  rw[q,this]
end Go.Proofs.YtkfblammcilfhaaGreatDoor
open Go.Proofs.YtkfblammcilfhaaGreatDoor
namespace Go.Proofs.YtkfblammcilfhaaGreatDoor.Fair
open Go.ChangeShapes Go.WideShapes Go.ChangeAt Go.RowKit Go.Proofs.YtkfblammcilfhaaGreatDoor
abbrev Wk:=Int×Int
def QL(n:Int):Prop:=(Lit.int V n).wf=true
def okW(x:Wk):Prop:=QL x.1/\QL x.2
def rP(w:aw)(B:Nat)(A:Option Addr)(n:Nat)(l:List Wk):Prop:=
 l.length=n/\(∀x∈l,okW x)/\(0<n->∃b off,A=Z ⟨b,off,I⟩/\b<B/\∀i,i<n->w.cell? ⟨b,off+i*2,I⟩=Z (J V (l.getD i (0,0)).1)/\w.cell? ⟨b,off+i*2+1,I⟩=Z (J V (l.getD i (0,0)).2))
def rP.tc{w w':aw}{B B':Nat}{A:Option Addr}{n:Nat}{l:List Wk}(h:rP w B A n l)(c:∀b o,b<B->w'.cell? ⟨b,o,I⟩=w.cell? ⟨b,o,I⟩)(f:B<=B'):rP w' B' A n l:=by
 obtain⟨h1,h2,h3⟩:=h;refine⟨h1,h2,λh0=>?_⟩;obtain⟨b,off,e,d,hi⟩:=h3 h0;exact⟨b,off,e,z,λi a=>⟨(c _ _ d).trans (hi i a).1,(c _ _ d).trans (hi i a).2⟩⟩
def rP.below{w w':aw}{B:Nat}{A:Option Addr}{n:Nat}{l:List Wk}(h:rP w B A n l)(a:Below B w w'):rP w' B A n l:=h.tc (λb o h=>a.cell (p:=⟨b,o,I⟩) h) (aj _)
def rP.mono{w:aw}{B B':Nat}{A:Option Addr}{n:Nat}{l:List Wk}(h:rP w B A n l)(a:B<=B'):rP w B' A n l:=h.tc (λ_ _ _=>rfl) a
def uP{n:Int}(h:-1000000<=n)(a:n<=1000000):QL n:=by
 unfold QL;exact WalkArith.wf_i64 ⟨z,z⟩
def Fp(x:Wk):List Value:=[J V x.1,J V x.2]
def yX:∀L:List Wk,(L.flatMap Fp).length=L.length*2
 |[]=>rfl
 |p::r=>by simp[kO,Fp,yX r];omega
def Ie:∀(L:List Wk) (i:Nat) (hi:i<L.length),(L.flatMap Fp)[i*2]? = Z (J V (L[i]).1)/\(L.flatMap Fp)[i*2+1]? = Z (J V (L[i]).2)
 |[],i,hi=>absurd hi dt
 |p::r,0,_=>by simp[kO,Fp]
 |p::r,i+1,hi=>by
  have:=Ie r i (by simpa using hi);simp only[kO,Fp,List.cons_append,List.nil_append,List.getElem_cons_succ];rw[show (i+1)*2=i*2+1+1 from z,show i*2+1+1+1=i*2+1+1+1 from rfl];exact this
def OT{w:aw}{base:Nat}{e:TypeId}{v:Value}{n:Nat}{L:List Wk}(h:w.ownsRow base e 2 v n (L.flatMap Fp))(a:∀x∈L,okW x):∃A c,v=ae A n c/\n<=c/\c<=maxLen/\rP w w.heap.size A n L:=by
 have b:L.length=n:=by have:=h.1;rw[yX]at this;omega
 rcases h.2 with⟨rfl,rfl⟩ | ⟨g,cap,dx,rfl,h1,h2,h3,h4,h5,h6⟩
 ·exact⟨I,0,rfl,z,ui,b,a,λd=>absurd d z⟩
 ·refine⟨_,cap,rfl,h3,h4,b,a,λ_=>⟨g,0,rfl,(h.lt g rfl).2,λi hi=>?_⟩⟩;have c1:=h.cellAt (i*2) z;have c2:=h.cellAt (i*2+1) z;have q:=Ie L i z;have hg:L.getD i (0,0)=L[i]:=by
   rw[bE,ay z];rfl
  rw[hg];exact⟨by rw[cO,c1,q.1],by rw[cO,c2,q.2]⟩
def Tryz.PE:(af.info? 40).map (λi=>(i.zero,i.size,i.bytes))=Z (Z (cg #[J V 0,J V 0]),2,16):=cC
def sk(w:aw)(B:Nat)(A:Option Addr)(n:Nat)(l:List Int):Prop:=
 l.length=n/\(0<n->∃b off,A=Z ⟨b,off,I⟩/\b<B/\∀i,i<n->w.cell? ⟨b,off+i,I⟩=Z (J V (l.getD i 0)))
def sk.tc{w w':aw}{B B':Nat}{A:Option Addr}{n:Nat}{l:List Int}(h:sk w B A n l)(c:∀b o,b<B->w'.cell? ⟨b,o,I⟩=w.cell? ⟨b,o,I⟩)(f:B<=B'):sk w' B' A n l:=by
 obtain⟨h1,h3⟩:=h;refine⟨h1,λh0=>?_⟩;obtain⟨b,off,e,d,hi⟩:=h3 h0;exact⟨b,off,e,z,λi a=>(c _ _ d).trans (hi i a)⟩
def sk.below{w w':aw}{B:Nat}{A:Option Addr}{n:Nat}{l:List Int}(h:sk w B A n l)(a:Below B w w'):sk w' B A n l:=h.tc (λb o h=>a.cell (p:=⟨b,o,I⟩) h) (aj _)
def sk.mono{w:aw}{B B':Nat}{A:Option Addr}{n:Nat}{l:List Int}(h:sk w B A n l)(a:B<=B'):sk w B' A n l:=h.tc (λ_ _ _=>rfl) a
def It{w:aw}{g base n size:Nat}{e:TypeId}{cs:Array Value}(h:aK w g e cs)(b:base<=g)(a:cs.size=n*size)(hm:n<=maxLen):w.ownsRow base e size (ae (Z ⟨g,0,I⟩) n n) n cs.toList:=
 ⟨by simpa using a,.inr ⟨g,n,cs,rfl,b,h,z,hm,a,by rw[<-a,List.take_of_length_le dt]⟩⟩
def JU(A:Option Addr)(n c:Nat)(l:List Int)(x:Int)(w:aw)(h:sk w w.heap.size A n l)(hm:n<=100000) :
  aF af 246 #[ae A n c,J V x] w λe w'=>(∃r,e=av (J V r)/\decide (0<=r)=decide (x∈l))/\w'=w:=by
 obtain⟨E,s⟩:=h;go_enter func246,ntmps246;go_wp2_with fail;go_loopw [8] (λi wr=>∃k:Nat,i=J V k/\k<=n/\(∀j,j<k->l.getD j 0≠x)/\wr=w) (λi _=>n-(intOf i).toNat);case atStart=>exact⟨0,rfl,z,λj m=>absurd m z,rfl⟩
 case round =>
  obtain⟨k,rfl,F,o,rfl⟩:=hrel;by_cases p:k<n
  ·obtain⟨b,off,rfl,G,a⟩:=s z;have u:=a k p;have d:l.getD k 0∈l:=by rw[bE,ay z];exact List.getElem_mem _
   generalize hy:l.getD k 0=y at u d;obtain⟨HS,v,B⟩:=bU o d hy;clear o a s d hy;by_cases f:x=y
   ·subst f;go_wp2_with fail;go_ret;exact⟨⟨k,rfl,by rw[show decide (x∈l)=true from by simpa using v.O];simp⟩,rfl⟩
   ·go_wp2_with fail;go_roundw;case rel =>
     refine⟨k+1,by go_num,z,λj m=>?_,(by first|rfl|trivial)⟩;rcases Nat.lt_or_ge j k with g|g
     ·exact HS.O j g
     ·have:j=k:=z;subst this;rw[B.O];exactλe=>f e.symm
    case measure=>simp[intOf];omega
  ·have q:k=n:=z;subst q;have t:decide (x∈l)=false:=by
    simp only[decide_eq_false_iff_not];intro C;obtain⟨j,m,e⟩:=List.getElem_of_mem C;refine o j z ?_;rw[bE,ay m];exact e
   have D:=au t;clear t o;go_wp2_with fail;go_ret;exact⟨⟨-1,rfl,by rw[D.O];rfl⟩,rfl⟩
def CS(A:Option Addr)(n c:Nat)(l:List Int)(x:Int)(w:aw)(h:sk w w.heap.size A n l)(hm:n<=100000) :
  aF af 195 #[ae A n c,J V x] w λe w'=>e=av (ai (decide (x∈l)))/\w'=w:=by
 go_enter func195,ntmps195;go_wp2_with fail;refine(JU _ _ _ l x _ h hm).mono ?_;rintro e w1 ⟨⟨r,rfl,hr⟩,rfl⟩;have a:=au hr;clear hr;go_wp2_with fail;go_ret;exact⟨by rw[<-a.O];rfl,rfl⟩
def three(s:Nat):List Wk:=[(2,(s:Int)),(3,(s:Int)),(4,(s:Int))]
def wl(p:Nat->Bool):Nat->List Wk
 |0=>[(0,0),(1,0)]
 |k+1=>wl p k++if p k then three k else[]
def KR(p:Nat->Bool):∀k,(wl p k).length<=2+3*k/\2<=(wl p k).length
 |0=>by simp[wl]
 |k+1=>by
  have:=KR p k;simp only[wl,List.length_append];split<;>simp[three]<;>omega
def Ov(p:Nat->Bool):∀k,k<=1000->∀x∈wl p k,okW x
 |0,_=>by
  intro x a;simp[wl]at a;rcases a with rfl|rfl<;>exact⟨uP dt dt,uP dt dt⟩
 |k+1,h=>by
  intro x a;simp only[wl,List.mem_append]at a;rcases a with a|a
  ·exact Ov p k z x a
  ·split at a
   ·simp[three]at a;rcases a with rfl|rfl|rfl<;>exact⟨uP dt dt,uP (by simp<;>omega) (by simp<;>omega)⟩
   ·simp at a
def yj(bh:List Int)(s:Nat):Bool:=decide ((s:Int)∈bh)
def Dk(A:Option Addr)(n c:Nat)(l:List Int)(w:aw)(h:sk w w.heap.size A n l)(hm:n<=100000) :
  aF af 132 #[ae A n c] w λe w'=>(∃g m y,e=av (ae g m y)/\m<=y/\y<=maxLen/\rP w' w'.heap.size g m (wl (yj l) 6)/\(∀a,g=Z a->w.heap.size<=a.block))/\aC w w':=by
 obtain⟨i0,hi,o,p,r⟩:=cY Tryz.PE;obtain⟨T,D,E,F,U⟩:=gY hi o p r h;clear hi o p r h;go_enter func132,ntmps132;go_wp2_with fail;go_loopw [3,9] (λv i wr=>∃(k:Nat),i=J V k/\k<=6/\wr.ownsRow w.heap.size 40 2 v (wl (yj l) k).length ((wl (yj l) k).flatMap Fp)/\aC w wr) (λ_ i _=>6-(intOf i).toNat);case atStart =>
  exact⟨0,rfl,z,It (n:=2) (aK.new w 40 #[J V 0,J V 0,J V 1,J V 0]) (aj _) rfl ui,(ao _ w).alloc (aj _) _⟩
 case round =>
  rename_i wr;obtain⟨k,rfl,hk,own,f⟩:=hrel;have B:=f.size;by_cases W:k<6
  ·go_wp2_with fail;refine(CS _ _ _ l k _ ((U.O.below f).mono B) hm).mono ?_;rintro e w1 ⟨rfl,rfl⟩;have b:wl (yj l) (k+1)=wl (yj l) k++if yj l k then three k else[]:=rfl
   cases C:decide ((k:Int)∈l)
   ·have d:wl (yj l) (k+1)=wl (yj l) k:=by rw[b,show yj l k=false from C];simp
    have HS:=au d;clear d b C;go_wp2_with fail;go_roundw;case rel=>exact⟨k+1,by go_num,z,by rw[HS.O];exact own,f⟩
    case measure=>simp[intOf];omega
   ·have d:wl (yj l) (k+1)=wl (yj l) k++three k:=by rw[b,show yj l k=true from C];simp
    have HS:=au d;clear d b C;have X:=(KR (yj l) k).1;go_wp2_with fail;go_loopw [3,5] (λv i wr=>∃(q:Nat),i=J V (2+q)/\q<=3/\wr.ownsRow w.heap.size 40 2 v (wl (yj l) k++(three k).take q).length ((wl (yj l) k++(three k).take q).flatMap Fp)/\aC w wr) (λ_ i _=>5-(intOf i).toNat);case atStart=>exact⟨0,rfl,z,by simpa using own,f⟩
    case round =>
     clear own f B;obtain⟨q,rfl,hq,own,f⟩:=hrel;have B:=f.size;by_cases Y:q<3
     ·have s:(three k).take (q+1)=(three k).take q++[((2+q:Int),(k:Int))]:=by
       rcases q with _|_|_|q<;>first|rfl|omega
      have hlen:(wl (yj l) k++(three k).take q).length<=50:=dZ;have HT:=au s;clear s;have Tf:(2+(q:Int))<=4:=z;generalize L:wl (yj l) k++(three k).take q=P at own hlen;have HP:=au L;clear L;go_wp2_with (at_builtin;go_loud (refine dM _ rfl _ _ 174 rfl w.heap.size 40 i0 (cg #[J V 0,J V 0]) 2 16 underlying174 T.O D.O E.O F.O rfl aR _ _ _ rfl (own.alloc _) ⟨wr.heap.size,0,I⟩ 1 1 (Fp ((2+q:Int),(k:Int))) rfl rfl ?c1 ?c2 ?c3 ?c4 ?c5 ?_));case c1 =>
       intro j u hu;rcases j with _|_|j
       ·simp[Fp]at hu;subst hu;simp[Addr.add,go_sem]
       ·simp[Fp]at hu;subst hu;simp[Addr.add,go_sem]
       ·simp[Fp]at hu
      case c2=>intro u hu;simp[Fp]at hu;rcases hu with rfl|rfl<;>rfl
      case c3=>unfold maxLen;omega
      case c4=>omega
      case c5=>simp;omega
      intro v5 w5 t g5 _;have G:aC w w5:=(f.alloc B _).grown g5 dZ (λj hj=>by have:=(own.lt j hj).1;omega);have x:w5.ownsRow w.heap.size 40 2 v5 (P++[((2+q:Int),(k:Int))]).length ((P++[((2+q:Int),(k:Int))]).flatMap Fp):=by rw[List.flatMap_append];simpa using t
      go_wp2_with fail;go_roundw;case rel=>exact⟨q+1,by go_num,z,by rw[HT.O,<-List.append_assoc,HP.O];exact x,G⟩
      case measure=>simp[intOf];omega
     ·have H:q=3:=z;subst H;rw[show(three k).take 3=three k from rfl,<-HS.O]at own;go_wp2_with fail;go_roundw;case rel=>exact⟨k+1,by go_num,z,own,f⟩
      case measure=>simp[intOf];omega
  ·have K:k=6:=z;subst K;obtain⟨g,y,rfl,M,N,R⟩:=OT own (Ov _ _ z);have S:∀a,g=Z a->w.heap.size<=a.block:=λa e=>(own.lt a.block (by subst e;rfl)).1;obtain⟨Q,Q4,Q1,Q2⟩:=cA R S M N;clear R own M N S;go_wp2_with fail;go_ret;exact⟨⟨_,_,_,rfl,Q1.O,Q2.O,Q.O,Q4.O⟩,f⟩
end Go.Proofs.YtkfblammcilfhaaGreatDoor.Fair
namespace Go.Proofs.YtkfblammcilfhaaGreatDoor
section
namespace M
variable {R:Room} {G:Int->ij} {n:Nat}
def Inv.fT(h:Inv R G n)(b:cQ)(a:∀x∈b,0<=x/\x<256):Inv (R.fT b).1 G n:=by
 unfold Room.fT;split
 ·exact h
 ·refine { h with qu:=λc d=>?_ };rcases zq d with q|rfl
  ·exact h.qu c q
  ·exact a
def Inv.fresh(h:Inv R G n)(o:bN)(h0:0<=o.2):Inv { R with az:=set R.az o (Z .new) } G n:=by
 refine { h with held:=λp q b=>?_,aY:=λp q b=>?_ }
 ·have a:set R.az o (Z .new) p=Z q:=b;by_cases e:p=o
  ·subst e;rw[dY]at a;cases a;exact⟨List.nodup_nil,λx c=>by cases c⟩
  ·rw[da _ _ e]at a;exact h.held p q a
 ·have a:set R.az o (Z .new) p=Z q:=b;by_cases e:p=o
  ·subst e;exact h0
  ·rw[da _ _ e]at a;exact h.aY p q a
def Inv.gg(h:Inv R G n)(p a b c:Int):Inv (R.gg p a b c).1 G n:=by
 unfold Room.gg;split
 ·exact h
 split
 ·exact h
 split
 ·exact h
 split
 ·exact h
 split
 ·exact h
 ·have k:=((h.fresh (p,0) dt).fresh (p,1) dt).fresh (p,2) dt;exact { k with }
def Inv.iJ(h:Inv R G n)(s own dQ aU:Int)(h0:0<=own/\own<4294967296/\0<=aU/\aU<4294967296)(w:0<=dQ/\dQ<65536) :
  Inv (R.iJ s own dQ aU).1 (if(R.iJ s own dQ aU).2=0 then set G s ⟨own,dQ,aU,0,[],[],[]⟩ else G) n:=by
 unfold Room.iJ;split
 ·simp only;rw[if_neg aR];exact h
 split
 ·simp only;rw[if_neg aR];exact h
 split
 ·simp only;rw[if_neg aR];exact h
 ·rename_i u;simp only[if_true];have p:R.bh s=I:=by cases q:R.bh s with | none=>rfl | some x=>rw[q]at u;exact absurd rfl u
  have y:∀id,R.di s id≠Z 0:=λid q=>by obtain⟨a,x,f,c,_⟩:=h.kz s id q;rw[p]at c;cases c
  refine⟨λk m hm=>?_,λk i v=>?_,λk g l j=>?_,λk=>?_,λo st r=>?_,h.aY,h.pk,λA k m hm h1 h2=>?_,λk m hm h1 h2=>?_,h.qu,h.aG⟩
  ·have b:set R.aD s (Z (dP.new own dQ aU)) k=Z m:=hm;by_cases e:k=s
   ·subst e;rw[dY]at b ⊢;cases b;exact⟨iv.new _ _ own dQ aU 0 h0 w,dt⟩
   ·rw[da _ _ e]at b ⊢;exact h.fo k m b
  ·obtain⟨a,x,f,c,t⟩:=h.kz k i v;have e:k≠s:=λe=>y i (e ▸ v);exact⟨a,x,f,by show set R.bh s _ k=_;rw[da _ _ e];exact c,t⟩
  ·have d:set R.bh s (Z ⟨own,false,0⟩) k=Z g:=l;by_cases e:k=s
   ·subst e;rw[dY]at d;cases d;cases j
   ·rw[da _ _ e]at d ⊢;obtain⟨f,m,c,t⟩:=h.jo k g d j;exact⟨f,m,by show set R.aD s _ k=_;rw[da _ _ e];exact c,t⟩
  ·show(set R.bh s _ k).isSome=(set R.aD s _ k).isSome;by_cases e:k=s
   ·subst e;rw[dY,dY];rfl
   ·rw[da _ _ e,da _ _ e];exact h.lu k
  ·obtain⟨f,c⟩:=h.held o st r;refine⟨f,λg l=>⟨(c g l).1,λk m hm=>?_⟩⟩;have b:set R.aD s (Z (dP.new own dQ aU)) k=Z m:=hm;by_cases e:k=s
   ·subst e;rw[dY]at b;cases b;simp[ids,dP.new]
   ·rw[da _ _ e]at b;exact(c g l).2 k m b
  ·have b:set R.aD s (Z (dP.new own dQ aU)) k=Z m:=hm;by_cases e:k=s
   ·subst e;rw[dY]at b;cases b;cases h1
   ·rw[da _ _ e]at b ⊢;exact h.chain A k m b h1 h2
  ·have b:set R.aD s (Z (dP.new own dQ aU)) k=Z m:=hm;by_cases e:k=s
   ·subst e;rw[dY]at b;cases b;cases h1
   ·rw[da _ _ e]at b;obtain⟨x,q⟩:=h.za k m b h1 h2;exact⟨x,by show set R.bh s _ k=_/\_;rw[da _ _ e];exact q⟩
def Inv.dN(h:Inv R G n)(s p aY:Int):Inv (R.dN s p aY).1 (if(R.dN s p aY).2=0 then set G s { G s with jo:=p } else G) n:=by
 unfold Room.dN;split
 ·simp only;rw[if_neg aR];exact h
 split
 ·simp only;rw[if_neg aR];exact h
 split
 ·simp only;rw[if_neg aR];exact h
 split
 ·simp only;rw[if_neg aR];exact h
 rename_i B j _;split
 ·simp only;rw[if_neg aR];exact h
 rename_i y hy;split
 ·simp only;rw[if_neg aR];exact h
 split
 ·simp only;rw[if_neg aR];exact h
 ·rename_i u;obtain⟨l,w⟩:∃l,R.aD s=Z l:=by
   have:=h.lu s;rw[hy]at this;cases q:R.aD s with
   |none=>rw[q]at this;cases this
   |some l=>exact⟨l,rfl⟩
  have hg:l.eG=false:=by
   unfold Room.eG at j;rw[w]at j;simpa using j
  have hw:l.wanted=false:=by
   cases q:l.wanted
   ·rfl
   ·obtain⟨x,K,N⟩:=h.za s l w q hg;rw[hy]at K;cases K;exact absurd N u
  obtain⟨kl,P⟩:=h.fo s l w;have L:∀id,R.di s id≠Z 0:=λid q=>by
   obtain⟨a,x,r,c,v,_⟩:=h.kz s id q;rw[hy]at c;cases c;exact absurd v u
  obtain⟨i1,i2,i3⟩:=kl.idle hw;have C:l.iy aY=({ l with wanted:=true,dx:=if l.wanted then l.dx else -1,fh:=aY },0):=by
   unfold dP.iy;rw[if_neg B,if_neg (by rw[hg];simp)]
  unfold Room.fj;simp only[w,C,if_true];have f:ids l=[]:=by
   apply List.eq_nil_iff_forall_not_mem.2;intro i hi;exact L i (kl.kz i hi)
  have D:iv R.aO (R.di s) { l with wanted:=true,dx:=if l.wanted then l.dx else -1,fh:=aY } { G s with jo:=p }:=
   { kl with cK:=λx g=>(by rw[show l.cK=[] from i1]at g;cases g),bF:=λx g=>(by rw[show l.bF=[] from i2]at g;cases g),idle:=λq=>absurd q dt,zM:=λk x g=>(by rw[show(G s).H=[] from i3]at g;simp at g),eG:=λq=>f }
  refine⟨λk m hm=>?_,λk i M=>?_,λk t A E=>?_,λk=>?_,λo st F=>?_,h.aY,h.pk,λQ k m hm h1 h2=>?_,λk m hm h1 h2=>?_,h.qu,h.aG⟩
  ·have b:set R.aD s (Z { l with wanted:=true,dx:=if l.wanted then l.dx else -1,fh:=aY }) k=Z m:=hm;by_cases e:k=s
   ·subst e;rw[dY]at b ⊢;cases b;exact⟨D,P⟩
   ·rw[da _ _ e]at b ⊢;exact h.fo k m b
  ·obtain⟨a,x,r,c,v⟩:=h.kz k i M;have e:k≠s:=λe=>L i (e ▸ M);exact⟨a,x,r,by show set R.bh s _ k=_;rw[da _ _ e];exact c,v⟩
  ·have d:set R.bh s (Z ⟨y.own,true,p⟩) k=Z t:=A;by_cases e:k=s
   ·subst e;rw[dY]at d ⊢;cases d;exact⟨rfl,{ l with wanted:=true,dx:=if l.wanted then l.dx else -1,fh:=aY },by show set R.aD k _ k=_;rw[dY],rfl,hg⟩
   ·rw[da _ _ e]at d ⊢;obtain⟨r,m,c,v⟩:=h.jo k t d E;exact⟨r,m,by show set R.aD s _ k=_;rw[da _ _ e];exact c,v⟩
  ·show(set R.bh s _ k).isSome=(set R.aD s _ k).isSome;by_cases e:k=s
   ·subst e;rw[dY,dY];rfl
   ·rw[da _ _ e,da _ _ e];exact h.lu k
  ·obtain⟨r,c⟩:=h.held o st F;refine⟨r,λt A=>⟨(c t A).1,λk m hm=>?_⟩⟩;have b:set R.aD s (Z { l with wanted:=true,dx:=if l.wanted then l.dx else -1,fh:=aY }) k=Z m:=hm;by_cases e:k=s
   ·subst e;rw[dY]at b;cases b;show t.id∉ids l;rw[f];simp
   ·rw[da _ _ e]at b;exact(c t A).2 k m b
  ·have b:set R.aD s (Z { l with wanted:=true,dx:=if l.wanted then l.dx else -1,fh:=aY }) k=Z m:=hm;by_cases e:k=s
   ·subst e;rw[dY]at b ⊢;cases b;simp only[i2,i3,hw];exact rfl
   ·rw[da _ _ e]at b ⊢;exact h.chain Q k m b h1 h2
  ·by_cases e:k=s
   ·subst e;exact⟨⟨y.own,true,p⟩,by show set R.bh k _ k=_/\_;rw[dY];exact⟨rfl,rfl⟩⟩
   ·have b:set R.aD s _ k=Z m:=hm;rw[da _ _ e]at b;obtain⟨x,q⟩:=h.za k m b h1 h2;exact⟨x,by show set R.bh s _ k=_/\_;rw[da _ _ e];exact q⟩
def Inv.iy(h:Inv R G n)(s aY:Int):Inv (R.iy s aY).1 G n:=by
 unfold Room.iy;split
 ·exact h
 split
 ·exact h
 split
 ·exact h
 ·rename_i d;unfold Room.fj;cases f:R.aD s with
  |none=>exact h
  |some l =>
   simp only;obtain⟨kl,j⟩:=h.fo s l f;obtain⟨p1,p2,p3,o,i,r,t⟩:=kl.iy aY;obtain⟨y,hy,p⟩:∃y,R.bh s=Z y/\y.cL=true:=by
    unfold Room.of at d;cases q:R.bh s with
    |none=>rw[q]at d;simp at d
    |some y =>
     rw[q]at d;simp only at d;split at d
     ·rename_i e;exact⟨y,rfl,e⟩
     ·simp at d
   obtain⟨_,m,m1,m2,m3⟩:=h.jo s y hy p;rw[f]at m1;cases m1;have k:=h.Bq f (g:=G s) rfl p1 j (λid hid=>.inl (by rw[p2]at hid;exact hid)) (λa b _=>⟨(i a).2,by rw[o];exact b⟩) (λa b=>.inl ⟨m2,m3⟩)
    (λa b c=>by rw[p3,(i m2).1];exact h.chain a s l f m2 m3)
   rw[FM]at k;exact k
def Inv.jE(h:Inv R G n)(s:Int):Inv (R.jE s).1 G n:=by
 unfold Room.jE;split
 ·exact h
 split
 ·exact h
 split
 ·exact h
 ·have u:∀id,set R.di s (λid=>if R.di s id=Z 0 then Z 7 else R.di s id) s id≠Z 0:=λid q=>by
   rw[dY]at q;split at q
   ·simp at q
   ·contradiction
  refine⟨λk m hm=>?_,λk i v=>?_,λk g l p=>?_,λk=>?_,λo st r=>?_,h.aY,h.pk,λw k m hm h1 h2=>?_,λk m hm h1 h2=>?_,h.qu,h.aG⟩
  ·have b:set R.aD s I k=Z m:=hm;by_cases e:k=s
   ·subst e;rw[dY]at b;cases b
   ·rw[da _ _ e]at b;refine⟨((h.fo k m b).1).mono (λ_ _ q=>q) λi hi=>?_,(h.fo k m b).2⟩;show set R.di s _ k i=Z 0;rw[da _ _ e];exact(h.fo k m b).1.kz i hi
  ·have d:set R.di s (λid=>if R.di s id=Z 0 then Z 7 else R.di s id) k i=Z 0:=v;have e:k≠s:=λe=>u i (e ▸ d);rw[da _ _ e]at d;obtain⟨a,x,j,f,t⟩:=h.kz k i d;exact⟨a,x,j,by show set R.bh s _ k=_;rw[da _ _ e];exact f,t⟩
  ·have c:set R.bh s I k=Z g:=l;by_cases e:k=s
   ·subst e;rw[dY]at c;cases c
   ·rw[da _ _ e]at c;obtain⟨j,m,f,t⟩:=h.jo k g c p;exact⟨j,m,by show set R.aD s _ k=_;rw[da _ _ e];exact f,t⟩
  ·show(set R.bh s _ k).isSome=(set R.aD s _ k).isSome;by_cases e:k=s
   ·subst e;rw[dY,dY];rfl
   ·rw[da _ _ e,da _ _ e];exact h.lu k
  ·obtain⟨j,f⟩:=h.held o st r;refine⟨j,λg l=>⟨(f g l).1,λk m hm=>?_⟩⟩;have b:set R.aD s I k=Z m:=hm;by_cases e:k=s
   ·subst e;rw[dY]at b;cases b
   ·rw[da _ _ e]at b;exact(f g l).2 k m b
  ·have b:set R.aD s I k=Z m:=hm;by_cases e:k=s
   ·subst e;rw[dY]at b;cases b
   ·rw[da _ _ e]at b;exact h.chain w k m b h1 h2
  ·have b:set R.aD s I k=Z m:=hm;by_cases e:k=s
   ·subst e;rw[dY]at b;cases b
   ·rw[da _ _ e]at b;obtain⟨x,q⟩:=h.za k m b h1 h2;exact⟨x,by show set R.bh s _ k=_/\_;rw[da _ _ e];exact q⟩
def Inv.fU(h:Inv R G n):Inv R.fU.1 G n:=by
 unfold Room.fU;split
 ·exact h
 ·exact { h with chain:=λq=>by cases q }
def Inv.fg(h:Inv R G n)(o:bN):Inv (R.fg o) G n:=by
 unfold Room.fg;cases a:R.az o with
 |none=>exact h
 |some s =>
  simp only;have k:=h.fO (FH:={ s with dJ:=(iK R.dA.eA R.dA.ek s.dJ (R.wanted o) R.cJ).1 }) a (List.Sublist.refl _);split
  ·exact { k with }
  ·exact k
def Inv.OA:∀(l:List bN) {R:Room},Inv R G n->Inv (l.foldl Room.fg R) G n
 |[],_,h=>h
 |o::l,_,h=>Inv.OA l (h.fg o)
def Inv.tick(h:Inv R G n):Inv R.tick.1 G n:=by
 unfold Room.tick;split
 ·exact h
 ·exact Inv.OA eX { h with }
def uM(R:Room)(G:Int->ij)(w:eK)(a:Bool):Int->ij:=
 if R.may w=false then G
 else match R.aD w.2 with
  |none=>G
  |some l =>
   if w.1=0\/w.1=1 then G
   else if R.cN then set G w.2 (pJ w (G w.2))
   else if w.1=2 then G
   else if w.1=3 then set G w.2 (lU l R.dA.aG (G w.2))
   else set G w.2 (iR l R.dA.aT a (G w.2))
def LQ{w:eK}(h:R.may w=true)(b:R.cN=false)(h2:¬(w.1=0\/w.1=1)):∃l,R.aD w.2=Z l/\(w.1=2->l.cK≠[]/\l.bF.length≠R.dA.aG)/\(w.1=3->l.bF≠[])/\(w.1≠2->w.1≠3->l.ready≠[]):=by
 unfold Room.may at h;simp only[cM,b]at h;obtain⟨_,h⟩:=h;rw[if_neg dt,if_neg z,if_neg z]at h;cases a:R.aD w.2 with
 |none=>rw[a]at h;cases h
 |some l =>
  rw[a]at h;simp only at h;refine⟨l,rfl,λq=>?_,λq=>?_,λc d=>?_⟩
  ·rw[if_pos q]at h;unfold dP.nO at h;simp only[cM,decide_eq_true_eq,Bool.not_eq_true',decide_eq_false_iff_not]at h;exact⟨qt.1 h.1,h.2⟩
  ·rw[if_neg z,if_pos q]at h;exact qt.1 (by simpa using h)
  ·rw[if_neg c,if_neg d]at h;exact qt.1 (by simpa using h)
def Inv.pick(h:Inv R G n)(w:eK)(a:Bool):Inv (R.pick w a).1 (uM R G w a) (n+1):=by
 unfold Room.pick uM;by_cases hm:R.may w=true
 ·simp only[hm,Bool.not_true,cB,if_false,Bool.true_eq_false];by_cases d:R.cN=true
  ·simp only[d,if_true];have k:=(h.ku d w).more (cZ n);by_cases h2:w.1=0\/w.1=1
   ·rw[if_pos h2]at k;cases R.aD w.2 with
    |none=>exact k
    |some l=>simp only;rw[if_pos h2];exact k
   ·rw[if_neg h2]at k;cases c:R.aD w.2 with
    |none=>rw[c]at k;exact k
    |some l=>rw[c]at k;simp only;rw[if_neg h2];exact k
  ·have b:R.cN=false:=by simpa using d
   simp only[b,cB,if_false];by_cases h0:w.1=0
   ·rw[if_pos h0];have e:(match R.aD w.2 with | none=>G | some l=>if w.1=0\/w.1=1 then G else if w.1=2 then G else if w.1=3 then set G w.2 (lU l R.dA.aG (G w.2)) else set G w.2 (iR l R.dA.aT a (G w.2)))=G:=by
     cases R.aD w.2 with
     |none=>rfl
     |some l=>simp only;rw[if_pos (.inl h0)]
    rw[e];exact h.read.more (cZ n)
   ·rw[if_neg h0];by_cases h1:w.1=1
    ·rw[if_pos h1];have e:(match R.aD w.2 with | none=>G | some l=>if w.1=0\/w.1=1 then G else if w.1=2 then G else if w.1=3 then set G w.2 (lU l R.dA.aG (G w.2)) else set G w.2 (iR l R.dA.aT a (G w.2)))=G:=by
      cases R.aD w.2 with
      |none=>rfl
      |some l=>simp only;rw[if_pos (.inr h1)]
     rw[e];exact h.order.more (cZ n)
    ·rw[if_neg h1];have h2:¬(w.1=0\/w.1=1):=z;obtain⟨l,c,j,g,i⟩:=LQ hm b h2;rw[c];simp only;rw[if_neg h2];by_cases w2:w.1=2
     ·rw[if_pos w2,if_pos w2];exact(h.gq w.2).more (cZ n)
     ·rw[if_neg w2,if_neg w2];by_cases w3:w.1=3
      ·rw[if_pos w3,if_pos w3];exact(h.fD b w.2 c (g w3)).1
      ·rw[if_neg w3,if_neg w3];exact(h.jS w.2 a c (i w2 w3)).more (cZ n)
 ·have f:R.may w=false:=by simpa using hm
  simp only[f,Bool.not_false,if_true];exact h.more (cZ n)
def Ag(R:Room)(G:Int->ij)(x:Act):Int->ij:=
 if x.nv=1 then uM R G x.w x.fq
 else if x.nv=4 then(if(R.iJ x.sub x.own x.dQ x.aU).2=0 then set G x.sub ⟨x.own,x.dQ,x.aU,0,[],[],[]⟩ else G)
 else if x.nv=5 then(if(R.dN x.sub x.jo x.aY).2=0 then set G x.sub { G x.sub with jo:=x.jo } else G)
 else G
structure Act.Ok(x:Act):Prop where
 b:∀y∈x.b,0<=y/\y<256
 own:0<=x.own/\x.own<4294967296
 aU:0<=x.aU/\x.aU<4294967296
 dQ:0<=x.dQ/\x.dQ<65536
def Inv.act(h:Inv R G n)(x:Act)(a:x.Ok):Inv (R.act x).1 (Ag R G x) (n+1):=by
 have up:∀{R':Room} {c:Int->ij},Inv R' c n->Inv R' c (n+1):=λq=>q.more (cZ n);unfold Room.act Ag;by_cases h0:x.nv=0
 ·rw[if_pos h0,if_neg z,if_neg z,if_neg z];exact up (h.fT x.b a.b)
 rw[if_neg h0];by_cases h1:x.nv=1
 ·rw[if_pos h1,if_pos h1];exact h.pick x.w x.fq
 rw[if_neg h1,if_neg h1];by_cases h2:x.nv=2
 ·rw[if_pos h2,if_neg z,if_neg z];exact up h.tick
 rw[if_neg h2];by_cases h3:x.nv=3
 ·rw[if_pos h3,if_neg z,if_neg z];exact up (h.gg _ _ _ _)
 rw[if_neg h3];by_cases h4:x.nv=4
 ·rw[if_pos h4,if_pos h4];exact up (h.iJ _ _ _ _ ⟨a.own.1,a.own.2,a.aU.1,a.aU.2⟩ a.dQ)
 rw[if_neg h4,if_neg h4];by_cases h5:x.nv=5
 ·rw[if_pos h5,if_pos h5];exact up (h.dN _ _ _)
 rw[if_neg h5,if_neg h5];by_cases h6:x.nv=6
 ·rw[if_pos h6];exact up (h.iy _ _)
 rw[if_neg h6];by_cases h7:x.nv=7
 ·rw[if_pos h7];exact up (h.jE _)
 rw[if_neg h7];by_cases h8:x.nv=8
 ·rw[if_pos h8];exact up h.fU
 rw[if_neg h8];exact up h
def Inv.start(c:Ou)(d:1<=c.aG)(G:Int->ij):Inv (.new c) G 0 where
 fo s l q:=by cases q
 kz s id q:=by cases q
 jo s x q:=by cases q
 lu s:=rfl
 held o st q:=by cases q
 aY o st q:=by cases q
 pk a q:=by cases q
 chain _ s l q:=by cases q
 za s l q:=by cases q
 qu b q:=by cases q
 aG:=d
end M
end
def Fu(A:Option Addr)(n c:Nat)(xs:List Int)(w:aw)(h:TB w A n xs)(hm:n<=100000)(s:n<=c) :
  aF af 299 #[ae A n c] w λe w'=>(match M.pg xs with | none=>e=av (aB #[ae I 0 0,ai false]) | some k=>e=av (aB #[ae A k.length c,ai true])/\TB w A k.length k)/\w'=w:=by
 have g:=h.len;by_cases t:n=0
 ·have p:xs=[]:=List.length_eq_zero_iff.1 z;have he:M.pg xs=I:=by rw[p];rfl
  rw[he];subst t;clear he g h p;go_enter func299,ntmps299;go_wp2_with fail;refine ax (v:=aB #[ae I 0 0,ai false]) (by simp[aV,results299,go_sem]) rfl ⟨rfl,rfl⟩
 ·have u:((n:Int)==0)=false:=dZ;obtain⟨b,off,rfl,G,i⟩:=h.cell z;have x:=i (n-1) z;have hy:=h.wA _ (nQ (l:=xs) (k:=n-1) z);have a:=wI (l:=xs) z;rw[g]at a;generalize xs.getD (n-1) 0=y at x hy a;have d:M.pg xs=if y=0\/y % 4≠0\/(xs.length:Int)<y then I else Z (xs.take (xs.length-y.toNat)):=by unfold M.pg;rw[a]
  rw[g]at d;have B:((n:Int)-1).toNat=n-1:=z;by_cases j:y=0
  ·rw[if_pos (.inl j)]at d;rw[d];subst j;clear d a g i h;go_enter func299,ntmps299;go_wp2_with fail;refine ax (v:=aB #[ae I 0 0,ai false]) (by simp[aV,results299,go_sem]) rfl ⟨rfl,rfl⟩
  ·have C:(y==0)=false:=by simpa using j
   obtain⟨f,rfl⟩:∃f:Nat,y=f:=⟨y.toNat,z⟩;by_cases D:(f:Int) % 4=0
   ·have m:((f:Int) % 4 !=0)=false:=dZ;by_cases E:(n:Int)<f
    ·rw[if_pos (.inr (.inr E))]at d;rw[d];clear d a g i h;go_enter func299,ntmps299;go_wp2_with fail;refine ax (v:=aB #[ae I 0 0,ai false]) (by simp[aV,results299,go_sem]) rfl ⟨rfl,rfl⟩
    ·rw[if_neg z]at d;have q:(xs.take (n-(f:Int).toNat)).length=n-f:=by simp[g]
     have r:TB w (Z ⟨b,off,I⟩) (n-f) (xs.take (n-(f:Int).toNat)):=by
      have:=h.pre (n-f) z;simpa using this
     rw[d];simp only[q];have o:(n:Int)-(f:Int)=((n-f:Nat):Int):=z;have F:=au r;clear d a g i h q r;go_enter func299,ntmps299;go_wp2_with fail;refine ax (v:=aB #[ae (Z ⟨b,off,I⟩) (n-f) c,ai true]) (by simp[aV,results299,go_sem]) rfl ⟨⟨rfl,F.O⟩,rfl⟩
   ·have m:((f:Int) % 4 !=0)=true:=dZ;rw[if_pos (.inr (.inl D))]at d;rw[d];clear d a g i h;go_enter func299,ntmps299;go_wp2_with fail;refine ax (v:=aB #[ae I 0 0,ai false]) (by simp[aV,results299,go_sem]) rfl ⟨rfl,rfl⟩
def rj(count type:Int)(A:Option Addr)(n c:Nat)(xs:List Int)(w:aw)(h:xs.length=n)(b:n<=100000) :
  aF af 259 #[cg #[J bI count,J bI type,ae A n c]] w λe w'=>e=av (ai (M.Chunk.right ⟨count,type,xs⟩))/\aC w w':=by
 have hR:M.Chunk.right ⟨count,type,xs⟩=(decide (count<=31)&&(n % 4==0&&decide (4+n<=200))):=by unfold M.Chunk.right;simp only[h]
 rw[hR];clear hR h;by_cases h1:count<=31
 ·by_cases h2:n % 4=0
  ·have d2:((n:Int) % 4==0)=true:=dZ;go_enter func259,ntmps259;by_cases h3:4+n<=200
   ·have d3:decide (4+(n:Int)<=200)=true:=dZ;have a:4+(n:Int)<=200:=z;go_wp2_with fail;go_ret;exact⟨by simp[h1,h2,h3],(ao _ w).alloc (aj _) _⟩
   ·have d3:decide (4+(n:Int)<=200)=false:=dZ;have a:¬(4+(n:Int)<=200):=z;go_wp2_with fail;go_ret;exact⟨by simp[h1,h2,h3],(ao _ w).alloc (aj _) _⟩
  ·have d2:((n:Int) % 4==0)=false:=dZ;go_enter func259,ntmps259;go_wp2_with fail;go_ret;exact⟨by simp[h1,h2],(ao _ w).alloc (aj _) _⟩
 ·go_enter func259,ntmps259;go_wp2_with fail;go_ret;exact⟨by rw[decide_eq_false (z:¬count<=31)];rfl,(ao _ w).alloc (aj _) _⟩
section
structure RS(w0:aw)(g:Nat)(W:aw)(rd:M.Rd):Prop where
 rd:iG W g rd
 u:cS (One g) w0 W
section
variable {w0 W W':aw} {g:Nat} {rd OE:M.Rd}
def RS.start(h:iG w0 g rd):RS w0 g w0 rd:=⟨h,cS.refl _ _⟩
def RS.call(h:RS w0 g W rd)(R:iG W' g OE)(u:cS (One g) W W'):RS w0 g W' OE:=⟨R,h.u.trans u⟩
def RS.alloc(h:RS w0 g W rd)(o:Obj):RS w0 g (W.alloc o) rd:=⟨h.rd.below ((ao _ _).alloc (aj _) o),h.u.alloc o⟩
def RS.below(h:RS w0 g W rd)(b:aC W W'):RS w0 g W' rd:=⟨h.rd.below b,h.u.then b⟩
def RS.set(h:RS w0 g W rd){r:Nat}{t:TypeId}{cs:Array Value}(a:aK W r t cs)(h1:t≠231)(h2:t≠5)(hr:w0.heap.size<=r)(i:Nat)(v:Value):RS w0 g (W.setCell ⟨r,i,I⟩ v) rd:=
 ⟨h.rd.bC a h1 h2 i v,h.u.setCell (p:=⟨r,i,I⟩) (.inr hr) v⟩
def RS.ne(h:RS w0 g W rd){r:Nat}{t:TypeId}{cs:Array Value}(a:aK W r t cs)(h1:t≠231):¬One g r:=by
 obtain⟨c,b⟩:=h.rd.cw;exact aK.jf a b h1
def RS.cw(h:RS w0 g W rd){r:Nat}{t:TypeId}{cs:Array Value}(a:aK W r t cs)(h1:t≠231)(u:cS (One g) W W'):aK W' r t cs:=a.dW u (h.ne a h1)
end
def AU(g:Nat)(r:M.Rd)(w:aw)(h:iG w g r):aF af 325 #[aq (Z ⟨g,0,I⟩)] w λe w'=>e=av (J ar (r.num 3).1)/\iG w' g (r.num 3).2/\cS (One g) w w':=by
 have k:=au h;clear h;go_enter func325,ntmps325;go_wp2_with (first|(go_at_call 100;go_in));refine(qQ g r 3 w k.O z).mono ?_;rintro e w1 ⟨⟨A,m,c,rfl,d,o,p,t⟩,l,u1⟩;have f:0<=(r.num 3).1/\(r.num 3).1<=16777215:=ev k.O 3 z;have i:m<=4:=by have:(r.take 3).1.length<=3:=qP r 3;have:=d.len;omega
 have a:(r.num 3).1=M.bO (r.take 3).1:=rfl;have b:(r.num 3).2=(r.take 3).2:=rfl;rw[a]at f;obtain⟨q,j,n,s⟩:=cA d l a b;clear d l a b;go_wp2_with fail;refine(tW A m c _ w1 q.O i o p).mono ?_;generalize M.bO (r.take 3).1=u at f n ⊢;obtain⟨b1,b2⟩:=f;rintro e w2 ⟨rfl,rfl⟩;go_wp2_with fail;go_ret;exact⟨by rw[n.O];rfl,by rw[s.O];exact j.O,u1⟩
def FK(n:Int)(w:aw):aF af 324 #[J .u64 n,J V 24] w λe w'=>(∃v,e=av (J V v))/\w'=w:=by
 go_enter func324,ntmps324;go_wp2_with fail;go_ret;exact⟨⟨_,rfl⟩,rfl⟩
def Mu(g:Nat)(d0:M.Rd)(w:aw)(h:iG w g d0):aF af 300 #[aq (Z ⟨g,0,I⟩)] w λe w'=>(∃i k l m t:Int,e=av (cg #[J ar i,J ar k,J ar l,J ar m,J ar t]))/\iG w' g (M.iD [4,4,4,4,4] d0)/\cS (One g) w w':=by
 have H0:=au (RS.start h);clear h;go_enter func300,ntmps300;go_upto_region 2 with fail;obtain⟨r2,G⟩:=dH w.heap.size;obtain⟨f,H⟩:=dH (w.heap.size+1);rw[<-H,<-G];have g2:w.heap.size<=r2:=z;have g3:w.heap.size<=f:=z;have n23:r2≠f:=z;refine aW (λW=>RS w g W d0/\aK W r2 281 #[J ar 0,J ar 0,J ar 0,J ar 0,J ar 0]/\aK W f 281 #[J ar 0,J ar 0,J ar 0,J ar 0,J ar 0]) ⟨(H0.O.alloc _).alloc _,(aK.newAt _ _ _ _ G).alloc _,aK.newAt _ _ _ _ (by simp[H])⟩ ?_;clear G H H0;rintro W0 ⟨S,b,a⟩;obtain⟨x,P0,Q0⟩:=bU S b a;clear S b a;go_wp2_with fail;refine(kK g d0 W0 x.O.rd).mono ?_;have K:∃p,p=M.Rd.num d0 4:=⟨_,rfl⟩;obtain⟨⟨i,d1⟩,n⟩:=K;rw[<-n];have L:=ev x.O.rd 4 z;rw[<-n]at L;have N:=au n;clear n;simp only at L;obtain⟨Tk,Tl⟩:=L;rintro e v0 ⟨rfl,R,u⟩;have S:=x.O.call R u;have b:=x.O.cw P0.O aR u;have a:=x.O.cw Q0.O aR u;have F:=a.cell 0;have f0:=a.frozen 0;simp at F;obtain⟨HS,c,d⟩:=bU S b a;clear S b a R u x P0 Q0;go_wp2_with fail;have S:=HS.O;have b:=c.O;have a:=d.O;refine gu (λW=>RS w g W d1/\aK W r2 281 #[J ar 0,J ar 0,J ar 0,J ar 0,J ar 0]/\aK W f 281 #[J ar i,J ar 0,J ar 0,J ar 0,J ar 0]) ⟨S.set a aR aR g3 0 _,b.dS (p:=⟨f,0,I⟩) n23 _,by simpa using a.bC 0 (J ar i)⟩ ?_;clear HS c d S b a F f0;rintro W1 ⟨S,b,a⟩;obtain⟨y,P1,Q1⟩:=bU S b a;clear S b a;go_wp2_with fail;refine(kK g d1 W1 y.O.rd).mono ?_;have P:∃p,p=M.Rd.num d1 4:=⟨_,rfl⟩;obtain⟨⟨k,d2⟩,o⟩:=P;rw[<-o];have Q:=ev y.O.rd 4 z;rw[<-o]at Q;have T:=au o;clear o;simp only at Q;obtain⟨Tm,Tn⟩:=Q;rintro e v1 ⟨rfl,R,u⟩;have S:=y.O.call R u;have b:=y.O.cw P1.O aR u;have a:=y.O.cw Q1.O aR u;have c1:=a.cell 1;have f1:=a.frozen 1;simp at c1;obtain⟨HS,c,d⟩:=bU S b a;clear S b a R u y P1 Q1;go_wp2_with fail;have S:=HS.O;have b:=c.O;have a:=d.O;refine gu (λW=>RS w g W d2/\aK W r2 281 #[J ar 0,J ar 0,J ar 0,J ar 0,J ar 0]/\aK W f 281 #[J ar i,J ar k,J ar 0,J ar 0,J ar 0]) ⟨S.set a aR aR g3 1 _,b.dS (p:=⟨f,1,I⟩) n23 _,by simpa using a.bC 1 (J ar k)⟩ ?_;clear HS c d S b a c1 f1;rintro W2 ⟨S,b,a⟩;obtain⟨A,P2,Q2⟩:=bU S b a;clear S b a;go_wp2_with fail;refine(kK g d2 W2 A.O.rd).mono ?_;have U:∃p,p=M.Rd.num d2 4:=⟨_,rfl⟩;obtain⟨⟨l,d3⟩,q⟩:=U;rw[<-q];have X:=ev A.O.rd 4 z;rw[<-q]at X;have Y:=au q;clear q;simp only at X;obtain⟨To,Tp⟩:=X;rintro e v2 ⟨rfl,R,u⟩;have S:=A.O.call R u;have b:=A.O.cw P2.O aR u;have a:=A.O.cw Q2.O aR u;have c2:=a.cell 2;have f2:=a.frozen 2;simp at c2;obtain⟨HS,c,d⟩:=bU S b a;clear S b a R u A P2 Q2;go_wp2_with fail;have S:=HS.O;have b:=c.O;have a:=d.O;refine gu (λW=>RS w g W d3/\aK W r2 281 #[J ar 0,J ar 0,J ar 0,J ar 0,J ar 0]/\aK W f 281 #[J ar i,J ar k,J ar l,J ar 0,J ar 0]) ⟨S.set a aR aR g3 2 _,b.dS (p:=⟨f,2,I⟩) n23 _,by simpa using a.bC 2 (J ar l)⟩ ?_;clear HS c d S b a c2 f2;rintro W3 ⟨S,b,a⟩;obtain⟨B,P3,Q3⟩:=bU S b a;clear S b a;go_wp2_with fail;refine(kK g d3 W3 B.O.rd).mono ?_;have Tf:∃p,p=M.Rd.num d3 4:=⟨_,rfl⟩;obtain⟨⟨m,d4⟩,r⟩:=Tf;rw[<-r];have q3:=ev B.O.rd 4 z;rw[<-r]at q3;have Tg:=au r;clear r;simp only at q3;obtain⟨Tq,Ts⟩:=q3;rintro e v3 ⟨rfl,R,u⟩;have S:=B.O.call R u;have b:=B.O.cw P3.O aR u;have a:=B.O.cw Q3.O aR u;have c3:=a.cell 3;have f3:=a.frozen 3;simp at c3;obtain⟨HS,c,d⟩:=bU S b a;clear S b a R u B P3 Q3;go_wp2_with fail;have S:=HS.O;have b:=c.O;have a:=d.O;refine gu (λW=>RS w g W d4/\aK W r2 281 #[J ar 0,J ar 0,J ar 0,J ar 0,J ar 0]/\aK W f 281 #[J ar i,J ar k,J ar l,J ar m,J ar 0]) ⟨S.set a aR aR g3 3 _,b.dS (p:=⟨f,3,I⟩) n23 _,by simpa using a.bC 3 (J ar m)⟩ ?_;clear HS c d S b a c3 f3;rintro W4 ⟨S,b,a⟩;obtain⟨C,P4,Q4⟩:=bU S b a;clear S b a;go_wp2_with fail;refine(kK g d4 W4 C.O.rd).mono ?_;have Ti:∃p,p=M.Rd.num d4 4:=⟨_,rfl⟩;obtain⟨⟨t,d5⟩,s⟩:=Ti;rw[<-s];have q4:=ev C.O.rd 4 z;rw[<-s]at q4;have Tj:=au s;clear s;simp only at q4;obtain⟨Tt,Tu⟩:=q4;rintro e v4 ⟨rfl,R,u⟩;have S:=C.O.call R u;have b:=C.O.cw P4.O aR u;have a:=C.O.cw Q4.O aR u;have c4:=a.cell 4;have f4:=a.frozen 4;simp at c4;obtain⟨HS,c,d⟩:=bU S b a;clear S b a R u C P4 Q4;go_upto_region 7 with fail;have S:=HS.O;have b:=c.O;have a:=d.O;refine aW (λW=>RS w g W d5/\aK W r2 281 #[J ar 0,J ar 0,J ar 0,J ar 0,J ar 0]/\aK W f 281 #[J ar i,J ar k,J ar l,J ar m,J ar t]) ⟨S.set a aR aR g3 4 _,b.dS (p:=⟨f,4,I⟩) n23 _,by simpa using a.bC 4 (J ar t)⟩ ?_;clear HS c d S b a c4 f4;rintro W5 ⟨S,b,a⟩;obtain⟨G5,P5,Q5⟩:=bU S b a;clear S b a;have j:=Q5.O;have k0:=j.cell 0;have k1:=j.cell 1;have k2:=j.cell 2;have k3:=j.cell 3;have k4:=j.cell 4;have j:=P5.O;have F:=j.cell 0;have f0:=j.frozen 0;have c1:=j.cell 1;have f1:=j.frozen 1;have c2:=j.cell 2;have f2:=j.frozen 2;have c3:=j.cell 3;have f3:=j.frozen 3;have c4:=j.cell 4;have f4:=j.frozen 4;have Z0:=P5.O;have S0:=G5.O;have S1:=S0.set Z0 aR aR g2 0 (J ar i);have Z1:=Z0.bC 0 (J ar i);have S2:=S1.set Z1 aR aR g2 1 (J ar k);have Z2:=Z1.bC 1 (J ar k);have S3:=S2.set Z2 aR aR g2 2 (J ar l);have Z3:=Z2.bC 2 (J ar l);have S4:=S3.set Z3 aR aR g2 3 (J ar m);have Z4:=Z3.bC 3 (J ar m);have S5:=S4.set Z4 aR aR g2 4 (J ar t);have Z5:=Z4.bC 4 (J ar t);have SS:=S5;have D:=Z5;clear S0 Z0 S1 Z1 S2 Z2 S3 Z3 S4 Z4 S5 Z5;have z0:=D.cell 0;have z1:=D.cell 1;have z2:=D.cell 2;have z3:=D.cell 3;have z4:=D.cell 4;simp at k0 F z0 k1 c1 z1 k2 c2 z2 k3 c3 z3 k4 c4 z4;have E:=au SS;clear D SS j;go_wp2_with fail;refine ax (v:=cg #[J ar i,J ar k,J ar l,J ar m,J ar t]) (by simp[aV,results300,go_sem,z0,z1,z2,z3,z4]) rfl ⟨⟨i,k,l,m,t,rfl⟩,?_,E.O.u⟩;have e:M.iD [4,4,4,4,4] d0=d5:=by
  simp only[M.iD];rw[<-N.O,<-T.O,<-Y.O,<-Tg.O,<-Tj.O]
 rw[e];exact E.O.rd
def BK(g:Nat)(d0:M.Rd)(w:aw)(h:iG w g d0):aF af 301 #[aq (Z ⟨g,0,I⟩)] w λe w'=>(∃i k x2 l m o C:Int,e=av (cg #[J ar i,J bI k,J .i32 x2,J ar l,J ar m,J ar o,J ar C]))/\iG w' g (M.iD [4,1,3,4,4,4,4] d0)/\cS (One g) w w':=by
 have H0:=au (RS.start h);clear h;go_enter func301,ntmps301;go_upto_region 2 with fail;obtain⟨r2,U⟩:=dH w.heap.size;obtain⟨f,X⟩:=dH (w.heap.size+1);rw[<-X,<-U];have g2:w.heap.size<=r2:=z;have g3:w.heap.size<=f:=z;have n23:r2≠f:=z;refine aW (λW=>RS w g W d0/\aK W r2 462 #[J ar 0,J bI 0,J .i32 0,J ar 0,J ar 0,J ar 0,J ar 0]/\aK W f 462 #[J ar 0,J bI 0,J .i32 0,J ar 0,J ar 0,J ar 0,J ar 0]) ⟨(H0.O.alloc _).alloc _,(aK.newAt _ _ _ _ U).alloc _,aK.newAt _ _ _ _ (by simp[X])⟩ ?_;clear U X H0;rintro W0 ⟨S,b,a⟩;obtain⟨E,P0,Q0⟩:=bU S b a;clear S b a;go_wp2_with fail;refine(kK g d0 W0 E.O.rd).mono ?_;have Y:∃p,p=M.Rd.num d0 4:=⟨_,rfl⟩;obtain⟨⟨i,d1⟩,q⟩:=Y;rw[<-q];have q0:=ev E.O.rd 4 z;rw[<-q]at q0;have Tf:=au q;clear q;simp only at q0;obtain⟨Tu,Tv⟩:=q0;rintro e v0 ⟨rfl,R,u⟩;have S:=E.O.call R u;have b:=E.O.cw P0.O aR u;have a:=E.O.cw Q0.O aR u;have Q:=a.cell 0;have f0:=a.frozen 0;simp at Q;obtain⟨HS,c,d⟩:=bU S b a;clear S b a R u E P0 Q0;go_wp2_with fail;have S:=HS.O;have b:=c.O;have a:=d.O;refine gu (λW=>RS w g W d1/\aK W r2 462 #[J ar 0,J bI 0,J .i32 0,J ar 0,J ar 0,J ar 0,J ar 0]/\aK W f 462 #[J ar i,J bI 0,J .i32 0,J ar 0,J ar 0,J ar 0,J ar 0]) ⟨S.set a aR aR g3 0 _,b.dS (p:=⟨f,0,I⟩) n23 _,by simpa using a.bC 0 (J ar i)⟩ ?_;clear HS c d S b a Q f0;rintro W1 ⟨S,b,a⟩;obtain⟨F,P1,Q1⟩:=bU S b a;clear S b a;go_wp2_with fail;refine(lW g d1 W1 F.O.rd).mono ?_;have Tg:∃p,p=M.Rd.num d1 1:=⟨_,rfl⟩;obtain⟨⟨k,d2⟩,r⟩:=Tg;rw[<-r];have q1:=ev F.O.rd 1 z;rw[<-r]at q1;have Ti:=au r;clear r;simp only at q1;obtain⟨Tw,Tx⟩:=q1;rintro e v1 ⟨rfl,R,u⟩;have S:=F.O.call R u;have b:=F.O.cw P1.O aR u;have a:=F.O.cw Q1.O aR u;have c1:=a.cell 1;have f1:=a.frozen 1;simp at c1;obtain⟨HS,c,d⟩:=bU S b a;clear S b a R u F P1 Q1;go_wp2_with fail;have S:=HS.O;have b:=c.O;have a:=d.O;refine gu (λW=>RS w g W d2/\aK W r2 462 #[J ar 0,J bI 0,J .i32 0,J ar 0,J ar 0,J ar 0,J ar 0]/\aK W f 462 #[J ar i,J bI k,J .i32 0,J ar 0,J ar 0,J ar 0,J ar 0]) ⟨S.set a aR aR g3 1 _,b.dS (p:=⟨f,1,I⟩) n23 _,by simpa using a.bC 1 (J bI k)⟩ ?_;clear HS c d S b a c1 f1;rintro W2 ⟨S,b,a⟩;obtain⟨G,P2,Q2⟩:=bU S b a;clear S b a;go_wp2_with fail;refine(AU g d2 W2 G.O.rd).mono ?_;have Tj:∃p,p=M.Rd.num d2 3:=⟨_,rfl⟩;obtain⟨⟨x2,d3⟩,s⟩:=Tj;rw[<-s];have q2:=ev G.O.rd 3 z;rw[<-s]at q2;have Tk:=au s;clear s;simp only at q2;obtain⟨Ty,Tz⟩:=q2;rintro e v2 ⟨rfl,R,u⟩;have S:=G.O.call R u;have b:=G.O.cw P2.O aR u;have a:=G.O.cw Q2.O aR u;obtain⟨HS,c,d⟩:=bU S b a;have c2:=a.cell 2;have f2:=a.frozen 2;simp at c2;clear S b a R u G P2 Q2;go_wp2_with fail;refine(FK _ _).mono ?_;rintro e v9 ⟨⟨y,rfl⟩,e9⟩;subst e9;go_wp2_with fail;generalize wrap32 y=n;have S:=HS.O;have b:=c.O;have a:=d.O;refine gu (λW=>RS w g W d3/\aK W r2 462 #[J ar 0,J bI 0,J .i32 0,J ar 0,J ar 0,J ar 0,J ar 0]/\aK W f 462 #[J ar i,J bI k,J .i32 n,J ar 0,J ar 0,J ar 0,J ar 0]) ⟨S.set a aR aR g3 2 _,b.dS (p:=⟨f,2,I⟩) n23 _,by simpa using a.bC 2 (J .i32 n)⟩ ?_;clear HS c d S b a c2 f2;rintro W3 ⟨S,b,a⟩;obtain⟨H,P3,Q3⟩:=bU S b a;clear S b a;go_wp2_with fail;refine(kK g d3 W3 H.O.rd).mono ?_;have Tl:∃p,p=M.Rd.num d3 4:=⟨_,rfl⟩;obtain⟨⟨l,d4⟩,t⟩:=Tl;rw[<-t];have q3:=ev H.O.rd 4 z;rw[<-t]at q3;have Tm:=au t;clear t;simp only at q3;obtain⟨TA,TC⟩:=q3;rintro e v3 ⟨rfl,R,u⟩;have S:=H.O.call R u;have b:=H.O.cw P3.O aR u;have a:=H.O.cw Q3.O aR u;have c3:=a.cell 3;have f3:=a.frozen 3;simp at c3;obtain⟨HS,c,d⟩:=bU S b a;clear S b a R u H P3 Q3;go_wp2_with fail;have S:=HS.O;have b:=c.O;have a:=d.O;refine gu (λW=>RS w g W d4/\aK W r2 462 #[J ar 0,J bI 0,J .i32 0,J ar 0,J ar 0,J ar 0,J ar 0]/\aK W f 462 #[J ar i,J bI k,J .i32 n,J ar l,J ar 0,J ar 0,J ar 0]) ⟨S.set a aR aR g3 3 _,b.dS (p:=⟨f,3,I⟩) n23 _,by simpa using a.bC 3 (J ar l)⟩ ?_;clear HS c d S b a c3 f3;rintro W4 ⟨S,b,a⟩;obtain⟨K,P4,Q4⟩:=bU S b a;clear S b a;go_wp2_with fail;refine(kK g d4 W4 K.O.rd).mono ?_;have Tn:∃p,p=M.Rd.num d4 4:=⟨_,rfl⟩;obtain⟨⟨m,d5⟩,x⟩:=Tn;rw[<-x];have q4:=ev K.O.rd 4 z;rw[<-x]at q4;have To:=au x;clear x;simp only at q4;obtain⟨TD,TE⟩:=q4;rintro e v4 ⟨rfl,R,u⟩;have S:=K.O.call R u;have b:=K.O.cw P4.O aR u;have a:=K.O.cw Q4.O aR u;have c4:=a.cell 4;have f4:=a.frozen 4;simp at c4;obtain⟨HS,c,d⟩:=bU S b a;clear S b a R u K P4 Q4;go_wp2_with fail;have S:=HS.O;have b:=c.O;have a:=d.O;refine gu (λW=>RS w g W d5/\aK W r2 462 #[J ar 0,J bI 0,J .i32 0,J ar 0,J ar 0,J ar 0,J ar 0]/\aK W f 462 #[J ar i,J bI k,J .i32 n,J ar l,J ar m,J ar 0,J ar 0]) ⟨S.set a aR aR g3 4 _,b.dS (p:=⟨f,4,I⟩) n23 _,by simpa using a.bC 4 (J ar m)⟩ ?_;clear HS c d S b a c4 f4;rintro W5 ⟨S,b,a⟩;obtain⟨L,P5,Q5⟩:=bU S b a;clear S b a;go_wp2_with fail;refine(kK g d5 W5 L.O.rd).mono ?_;have Tp:∃p,p=M.Rd.num d5 4:=⟨_,rfl⟩;obtain⟨⟨o,d6⟩,A⟩:=Tp;rw[<-A];have q5:=ev L.O.rd 4 z;rw[<-A]at q5;have Tq:=au A;clear A;simp only at q5;obtain⟨TF,TG⟩:=q5;rintro e v5 ⟨rfl,R,u⟩;have S:=L.O.call R u;have b:=L.O.cw P5.O aR u;have a:=L.O.cw Q5.O aR u;have c5:=a.cell 5;have f5:=a.frozen 5;simp at c5;obtain⟨HS,c,d⟩:=bU S b a;clear S b a R u L P5 Q5;go_wp2_with fail;have S:=HS.O;have b:=c.O;have a:=d.O;refine gu (λW=>RS w g W d6/\aK W r2 462 #[J ar 0,J bI 0,J .i32 0,J ar 0,J ar 0,J ar 0,J ar 0]/\aK W f 462 #[J ar i,J bI k,J .i32 n,J ar l,J ar m,J ar o,J ar 0]) ⟨S.set a aR aR g3 5 _,b.dS (p:=⟨f,5,I⟩) n23 _,by simpa using a.bC 5 (J ar o)⟩ ?_;clear HS c d S b a c5 f5;rintro W6 ⟨S,b,a⟩;obtain⟨N,P6,Q6⟩:=bU S b a;clear S b a;go_wp2_with fail;refine(kK g d6 W6 N.O.rd).mono ?_;have Ts:∃p,p=M.Rd.num d6 4:=⟨_,rfl⟩;obtain⟨⟨C,d7⟩,B⟩:=Ts;rw[<-B];have q6:=ev N.O.rd 4 z;rw[<-B]at q6;have Tt:=au B;clear B;simp only at q6;obtain⟨TH,TI⟩:=q6;rintro e v6 ⟨rfl,R,u⟩;have S:=N.O.call R u;have b:=N.O.cw P6.O aR u;have a:=N.O.cw Q6.O aR u;have T:=a.cell 6;have f6:=a.frozen 6;simp at T;obtain⟨HS,c,d⟩:=bU S b a;clear S b a R u N P6 Q6;go_upto_region 9 with fail;have S:=HS.O;have b:=c.O;have a:=d.O;refine aW (λW=>RS w g W d7/\aK W r2 462 #[J ar 0,J bI 0,J .i32 0,J ar 0,J ar 0,J ar 0,J ar 0]/\aK W f 462 #[J ar i,J bI k,J .i32 n,J ar l,J ar m,J ar o,J ar C]) ⟨S.set a aR aR g3 6 _,b.dS (p:=⟨f,6,I⟩) n23 _,by simpa using a.bC 6 (J ar C)⟩ ?_;clear HS c d S b a T f6;rintro W7 ⟨S,b,a⟩;obtain⟨G7,P7,Q7⟩:=bU S b a;clear S b a;have j:=Q7.O;have k0:=j.cell 0;have k1:=j.cell 1;have k2:=j.cell 2;have k3:=j.cell 3;have k4:=j.cell 4;have k5:=j.cell 5;have k6:=j.cell 6;have j:=P7.O;have Q:=j.cell 0;have f0:=j.frozen 0;have c1:=j.cell 1;have f1:=j.frozen 1;have c2:=j.cell 2;have f2:=j.frozen 2;have c3:=j.cell 3;have f3:=j.frozen 3;have c4:=j.cell 4;have f4:=j.frozen 4;have c5:=j.cell 5;have f5:=j.frozen 5;have T:=j.cell 6;have f6:=j.frozen 6;have Z0:=P7.O;have S0:=G7.O;have S1:=S0.set Z0 aR aR g2 0 (J ar i);have Z1:=Z0.bC 0 (J ar i);have S2:=S1.set Z1 aR aR g2 1 (J bI k);have Z2:=Z1.bC 1 (J bI k);have S3:=S2.set Z2 aR aR g2 2 (J .i32 n);have Z3:=Z2.bC 2 (J .i32 n);have S4:=S3.set Z3 aR aR g2 3 (J ar l);have Z4:=Z3.bC 3 (J ar l);have S5:=S4.set Z4 aR aR g2 4 (J ar m);have Z5:=Z4.bC 4 (J ar m);have S6:=S5.set Z5 aR aR g2 5 (J ar o);have Z6:=Z5.bC 5 (J ar o);have S7:=S6.set Z6 aR aR g2 6 (J ar C);have Z7:=Z6.bC 6 (J ar C);have SS:=S7;have D:=Z7;clear S0 Z0 S1 Z1 S2 Z2 S3 Z3 S4 Z4 S5 Z5 S6 Z6 S7 Z7;have z0:=D.cell 0;have z1:=D.cell 1;have z2:=D.cell 2;have z3:=D.cell 3;have z4:=D.cell 4;have z5:=D.cell 5;have z6:=D.cell 6;simp at k0 Q z0 k1 c1 z1 k2 c2 z2 k3 c3 z3 k4 c4 z4 k5 c5 z5 k6 T z6;have P:=au SS;clear D SS j;go_wp2_with fail;refine ax (v:=cg #[J ar i,J bI k,J .i32 n,J ar l,J ar m,J ar o,J ar C]) (by simp[aV,results301,go_sem,z0,z1,z2,z3,z4,z5,z6]) rfl ⟨⟨i,k,n,l,m,o,C,rfl⟩,?_,P.O.u⟩;have e:M.iD [4,1,3,4,4,4,4] d0=d7:=by
  simp only[M.iD];rw[<-Tf.O,<-Ti.O,<-Tk.O,<-Tm.O,<-To.O,<-Tq.O,<-Tt.O]
 rw[e];exact P.O.rd
end
def yO(a:Bool)(body:M.cQ)(d:M.Rd):M.cQ×M.Rd:=
 if a then(match M.pg body with | some kept=>(kept,if 0<d.left.length then d.fail 2 else d) | none=>([],d.fail 2)) else(body,d)
def xO{xs k:List Int}(h:M.pg xs=Z k):k=xs.take k.length/\k.length<=xs.length:=by
 unfold M.pg at h;split at h
 ·cases h
 ·split at h
  ·cases h
  ·simp only[Option.some.injEq]at h;subst h;simp
def AE(g:Nat)(d0:M.Rd)(w:aw)(h:iG w g d0)(hl:d0.left.length<=200):aF af 272 #[aq (Z ⟨g,0,I⟩)] w λe w' =>
  (∃b:Sl,e=av (cg #[J bI (M.fJ d0).1.count,J bI (M.fJ d0).1.type,ae b.a b.n b.c])/\b.B w' (M.fJ d0).1.body)/\iG w' g (M.fJ d0).2/\cS (One g) w w':=by
 obtain⟨H0,HL⟩:=bu (RS.start h) hl;clear h hl;go_enter func272,ntmps272;go_upto_region 1 with fail;obtain⟨r2,e2⟩:=dH w.heap.size;rw[<-e2];have g2:w.heap.size<=r2:=z;refine aW (λW=>RS w g W d0/\aK W r2 286 #[J bI 0,J bI 0,ae I 0 0]) ⟨H0.O.alloc _,aK.newAt _ _ _ _ e2⟩ ?_;clear e2 H0;rintro W0 ⟨S,f⟩;obtain⟨G0,P0⟩:=bu S f;clear S f;go_wp2_with fail;refine(lW g d0 W0 G0.O.rd).mono ?_;have Tx:∃p,p=M.Rd.num d0 1:=⟨_,rfl⟩;obtain⟨⟨d,d1⟩,x⟩:=Tx;rw[<-x];have q1:=ev G0.O.rd 1 z;rw[<-x]at q1;have Tf:=au x;clear x;simp only at q1;obtain⟨Tg,Ty⟩:=q1;rintro e W1 ⟨rfl,R,u⟩;have S:=G0.O.call R u;have f:=G0.O.cw P0.O aR u;obtain⟨G1,P1⟩:=bu S f;clear S f R u G0 P0;go_wp2_with fail;refine(lW g d1 W1 G1.O.rd).mono ?_;have Tz:∃p,p=M.Rd.num d1 1:=⟨_,rfl⟩;obtain⟨⟨x2,d2⟩,y⟩:=Tz;rw[<-y];have q2:=ev G1.O.rd 1 z;rw[<-y]at q2;have Ti:=au y;clear y;simp only at q2;obtain⟨TM,TN⟩:=q2;rintro e W2 ⟨rfl,R,u⟩;have S:=G1.O.call R u;have f:=G1.O.cw P1.O aR u;obtain⟨G2,P2⟩:=bu S f;clear S f R u G1 P1;go_wp2_with fail;refine(qH g d2 W2 G2.O.rd).mono ?_;have TA:∃p,p=M.Rd.num d2 2:=⟨_,rfl⟩;obtain⟨⟨x3,d3⟩,C⟩:=TA;rw[<-C];have q3:=ev G2.O.rd 2 z;rw[<-C]at q3;have Tj:=au C;clear C;simp only at q3;obtain⟨TO,TC⟩:=q3;rintro e W3 ⟨rfl,R,u⟩;have S:=G2.O.call R u;have f:=G2.O.cw P2.O aR u;obtain⟨G3,P3⟩:=bu S f;clear S f R u G2 P2;have o:bits .and bI d 31=d % 32:=bits_mask bI 8 aR wraps_u8 5 aR d Tg z;obtain⟨pb,k⟩:=dH (decide (d / 32 % 2=1));have D:=(Fv d ⟨Tg,Ty⟩).2;rw[<-k]at D;obtain⟨Tk,Tl,E⟩:=bU k o D;clear k o D;go_upto_region 2 with fail;go_cut [20] (λs wc=>s=ai (decide (d<128)||decide (191<d))/\wc=W3);case first =>
  by_cases h1:d<128
  ·go_wp2_with fail;go_meet;exact⟨by simp[h1],rfl⟩
  ·go_wp2_with fail;go_meet;exact⟨by rw[show decide (d<128)=false from by simpa using h1];first|rfl|simp,rfl⟩
 case rest =>
  obtain⟨rfl,rfl⟩:=hcut;go_upto_if 20 with fail;go_cut [] (λW=>RS w g W (if d<128\/191<d then d3.fail 2 else d3)/\aK W r2 286 #[J bI 0,J bI 0,ae I 0 0]);case first =>
   by_cases Y:d<128\/191<d
   ·have q:(decide (d<128)||decide (191<d))=true:=by simpa using Y
    rw[q];have HF:=au Y;clear Y q;go_wp2_with fail;refine(mP g d3 2 _ G3.O.rd).mono ?_;rintro e v6 ⟨rfl,F,u6⟩;have G:=G3.O.cw P3.O aR u6;have H:=G3.O.call F u6;obtain⟨r,t⟩:=bu H G;clear F u6 H G;go_wp2_with fail;go_meet;rw[if_pos HF.O];exact⟨r.O,t.O⟩
   ·have q:(decide (d<128)||decide (191<d))=false:=by simpa using Y
    rw[q];have HF:=au Y;clear Y q;go_wp2_with fail;go_meet;rw[if_neg HF.O];exact⟨G3.O,P3.O⟩
  case rest =>
   obtain⟨S4,B4⟩:=hcut;have L:(if d<128\/191<d then d3.fail 2 else d3).left.length<=200:=by
    have l3:=nC Tj.O.symm (nC Ti.O.symm (nC Tf.O.symm HL.O));split
    ·exact aP (xD _ _) l3
    ·exact l3
   obtain⟨d4,N⟩:=dH (if d<128\/191<d then d3.fail 2 else d3);rw[<-N]at S4 L;obtain⟨TD,G4,P4,Tm⟩:=cA N S4 B4 L;have TJ:x3<=65535:=TC;clear N S4 B4 G3 P3 L;go_wp2_with fail;refine(Cu g d4 (4*x3) _ G4.O.rd z (lE Tm.O)).mono ?_;rintro e v10 ⟨⟨A,m,c,rfl,T,Tn,P,hz⟩,R5,u5⟩;have B5:=G4.O.cw P4.O aR u5;have S5:=G4.O.call R5 u5;have hlen:(d4.take (4*x3)).1.length<=200:=aP (xc _ _) Tm.O;obtain⟨⟨body,d5⟩,Q⟩:∃p,p=d4.take (4*x3):=⟨_,rfl⟩;rw[<-Q]at T S5 hlen;simp only at T S5 hlen;obtain⟨K,To⟩:=dH (yO pb body d5);obtain⟨TE,HT,l,P5,i,Tp,Tq,Ts⟩:=qh Q T S5 B5 To (⟨T,Tn,P,hz⟩:Sl.B v10 ⟨A,m,c⟩ body) hlen T.len;have D:=E.O;clear Q T S5 B5 To R5 u5 G4 P4 hlen;go_upto_if 30 with fail;go_cut [6] (λs W=>∃b:Sl,s=ae b.a b.n b.c/\b.B W K.1/\RS w g W K.2/\aK W r2 286 #[J bI 0,J bI 0,ae I 0 0]);case first =>
    cases pb with
    |false =>
     have e:K=(body,d5):=i.O;have HE:=au e;clear i e;go_wp2_with fail;go_meet;rw[HE.O];exact⟨⟨A,m,c⟩,rfl,Tp.O,l.O,P5.O⟩
    |true =>
     go_wp2_with fail;refine(Fu A m c body _ HT.O (by have:=Tq.O;have:=Ts.O;omega) Tn).mono ?_;cases hu:M.pg body with
     |none =>
      have e:K=([],d5.fail 2):=by rw[i.O];unfold yO;rw[hu];rfl
      have HE:=au e;clear i e hu;rintro e w9 ⟨rfl,U⟩;subst U;go_wp2_with fail;refine(mP g d5 2 _ l.O.rd).mono ?_;rintro e v11 ⟨rfl,F,u6⟩;have G:=l.O.cw P5.O aR u6;have H:=l.O.call F u6;obtain⟨r,t⟩:=bu H G;clear F u6 H G;go_wp2_with fail;go_meet;rw[HE.O];exact⟨.nil,rfl,Sl.vG,r.O,t.O⟩
     |some kept =>
      have e:K=(kept,if 0<d5.left.length then d5.fail 2 else d5):=by rw[i.O];unfold yO;rw[hu];rfl
      have HE:=au e;obtain⟨k1,k2⟩:=xO hu;have Tt:kept.length<=m:=by have:=Ts.O;omega
      have Tu:=au Tt;clear i e hu k1 k2 Tt;rintro e w9 ⟨⟨rfl,TK⟩,U⟩;subst U;have Tv:=au TK;clear TK;by_cases Tw:0<d5.left.length
      ·have X:=au Tw;go_wp2_with fail;refine(lr g d5 _ l.O.rd).mono ?_;rintro e w9 ⟨rfl,U⟩;subst U;go_wp2_with fail;refine(mP g d5 2 _ l.O.rd).mono ?_;rintro e v11 ⟨rfl,F,u6⟩;have G:=l.O.cw P5.O aR u6;have H:=l.O.call F u6;have T6:TB v11 A kept.length kept:=by
        obtain⟨cb,TF⟩:=l.O.rd.cw;exact Tv.O.one u6 TF aR
       obtain⟨r,t,TG⟩:=bU H G T6;clear F u6 H G T6;go_wp2_with fail;go_meet;rw[HE.O];simp only[if_pos X.O];exact⟨⟨A,kept.length,c⟩,rfl,⟨TG.O,by have:=Tu.O;show kept.length<=c;omega,P,hz⟩,r.O,t.O⟩
      ·have X:=au Tw;go_wp2_with fail;refine(lr g d5 _ l.O.rd).mono ?_;rintro e w9 ⟨rfl,U⟩;subst U;go_wp2_with fail;go_meet;rw[HE.O];simp only[if_neg X.O];exact⟨⟨A,kept.length,c⟩,rfl,⟨Tv.O,by have:=Tu.O;show kept.length<=c;omega,P,hz⟩,l.O,P5.O⟩
   case rest =>
    obtain⟨b,rfl,q,S,f⟩:=hcut;have o:=Tl.O;have eC:M.fJ d0=(⟨d % 32,x2,K.1⟩,K.2):=by
     unfold M.fJ;rw[<-Tf.O];simp only;rw[<-Ti.O];simp only;rw[<-Tj.O];simp only;rw[<-TD.O,<-TE.O];simp only;rw[i.O];unfold yO;have k:=Tk.O;cases pb with
     |false =>
      rw[if_neg (of_decide_eq_false k.symm)];rfl
     |true =>
      rw[if_pos (of_decide_eq_true k.symm)];cases M.pg body<;>rfl
    have j:=f;have c0:=j.cell 0;have c1:=j.cell 1;have c2:=j.cell 2;have f0:=j.frozen 0;have f1:=j.frozen 1;have f2:=j.frozen 2;have S1:=S.set f aR aR g2 0 (J bI (d % 32));have Z1:=f.bC 0 (J bI (d % 32));have S2:=S1.set Z1 aR aR g2 1 (J bI x2);have Z2:=Z1.bC 1 (J bI x2);have S3:=S2.set Z2 aR aR g2 2 (ae b.a b.n b.c);have Z3:=Z2.bC 2 (ae b.a b.n b.c);have T1:=q.tl.bC f aR 0 (J bI (d % 32));have T2:=T1.bC Z1 aR 1 (J bI x2);have T3:=T2.bC Z2 aR 2 (ae b.a b.n b.c);have z0:=Z3.cell 0;have z1:=Z3.cell 1;have z2:=Z3.cell 2;simp at c0 c1 c2 z0 z1 z2;obtain⟨HS,TH,TI⟩:=bU S3 (⟨T3,q.le,q.max,q.zero⟩:Sl.B _ b K.1) eC;clear S1 S2 S3 Z1 Z2 Z3 T1 T2 T3 S f q j eC i l P5 Tp HT Tk E;go_wp2_with fail;refine ax (v:=cg #[J bI (d % 32),J bI x2,ae b.a b.n b.c]) (by simp[aV,results272,go_sem,z0,z1,z2]) rfl ?_;rw[TI.O];exact⟨⟨b,rfl,TH.O⟩,HS.O.rd,HS.O.u⟩
end Go.Proofs.YtkfblammcilfhaaGreatDoor
open Go.Proofs.YtkfblammcilfhaaGreatDoor
namespace Go.Proofs.YtkfblammcilfhaaGreatDoor
def xq(c:UInt8):Int:=if c=115 then 65535 else if c=116 then 20 else 999999999
def Iz(c:UInt8)(x:ByteArray):Bool:=Ka x.data.toList&&(decide (1<=x.size)&&(decide (x.size<=9)&&decide (numOf x.data.toList<=xq c)))
def QA:(af.info? 3).map (λi=>(i.zero,i.size,i.bytes))=Z (Z (J V 0),1,8):=cC
def toNat_eq(y c:UInt8)(h:((y.toNat:Int)==(c.toNat:Int))=true):y=c:=by
 have:(y.toNat:Int)=c.toNat:=by simpa using h
 exact UInt8.toNat_inj.1 z
def toNat_ne(y c:UInt8)(h:((y.toNat:Int)==(c.toNat:Int))=false):y≠c:=by rintro rfl;simp at h
def Pw(y:UInt8)(h:((y.toNat:Int)==115)=true):xq y=65535:=by rw[toNat_eq y 115 h];rfl
def Pv(y:UInt8)(h1:((y.toNat:Int)==115)=false)(h:((y.toNat:Int)==116)=true):xq y=20:=by rw[toNat_eq y 116 h];rfl
def Px(y:UInt8)(h1:((y.toNat:Int)==115)=false)(h:((y.toNat:Int)==116)=false):xq y=999999999:=by
 unfold xq;rw[if_neg (toNat_ne y 115 h1),if_neg (toNat_ne y 116 h)]
def Jq{w w':aw}{base:Nat}{e:TypeId}{size n:Nat}{v:Value}{xs:List Value}(h:w.ownsRow base e size v n xs)(b:aC w w'):w'.ownsRow base e size v n xs:=by
 rcases h.2 with⟨rfl,rfl⟩ | ⟨g,cap,dx,rfl,a,hg,hr⟩
 ·exact⟨h.1,.inl ⟨rfl,rfl⟩⟩
 ·exact⟨h.1,.inr ⟨g,cap,dx,rfl,a,aK.kept (t:=e) hg b,hr⟩⟩
def xY(f:ByteArray)(bk o c:Nat)(ws:List ByteArray)(w:aw)(a:∀(j:Nat) x,ws[j]? = Z x->w.cell? ⟨bk,o+j,I⟩=Z (.string x))(Tj:bk<w.heap.size)(hf:f.size=ws.length)(hn:ws.length<=100)
  (t:∀(j:Nat) (h:j<f.size) x,ws[j]? = Z x->Iz f[j] x=true) :
  aF af 137 #[.string f,ae (Z ⟨bk,o,I⟩) ws.length c] w λe w'=>∃v,e=av v/\w'.ownsRow w.heap.size 3 1 v ws.length (ws.map λx=>J V (numOf x.data.toList))/\aC w w':=by
 obtain⟨i0,hi,A,B,C⟩:=cY QA;obtain⟨HI,P,Q,R,HC,HF,S⟩:=lV hi A B C a hf t;have b1:decide ((f.size:Int)=(ws.length:Int))=true:=dZ;have b2:((ws.length:Int)==(f.size:Int))=true:=dZ;have b3:((ws.length:Int) !=(f.size:Int))=false:=dZ;clear hi A B C a hf t;go_enter func137,ntmps137;go_wp2_with fail;clear b1 b2 b3;go_loopw [5,17] (λv i wr=>∃k:Nat,k<=ws.length/\i=J V k/\wr.ownsRow w.heap.size 3 1 v ((ws.take k).map λx=>J V (numOf x.data.toList)).length ((ws.take k).map λx=>J V (numOf x.data.toList))/\aC w wr) (λ_ i _=>ws.length-(intOf i).toNat);case atStart=>exact⟨0,Nat.zero_le _,rfl,⟨rfl,.inl ⟨rfl,rfl⟩⟩,ao _ _⟩
 case round =>
  obtain⟨k,hk,rfl,own,r⟩:=hrel;by_cases D:k<ws.length
  ·have d:ws[k]? = Z ws[k]:=ay D;have T:k<f.size:=by have:=HF.O;omega
   have n:=aM r (HC.O k _ d);have ok:=S.O k T _ d;have p:ws.take (k+1)=ws.take k++[ws[k]]:=List.take_succ_eq_append_getElem D;generalize ws[k]=x at d n ok p;clear d;have g:((ws.take k).map λx=>J V (numOf x.data.toList)).length=k:=dZ;rw[g]at own;have b:((ws.take (k+1)).map λx=>J V (numOf x.data.toList))=((ws.take k).map λx=>J V (numOf x.data.toList))++[J V (numOf x.data.toList)]:=by rw[p,List.map_append];rfl
   generalize ((ws.take k).map λx=>J V (numOf x.data.toList))=vs at own b g;obtain⟨HM,HK,N,s⟩:=cA b g own r;have U:=r;obtain⟨A5,c5,rfl⟩:=bA own;clear b g own r p;have E:∀y:UInt8,Iz y x=true->Ka x.data.toList=true/\1<=x.size/\x.size<=9/\numOf x.data.toList<=xq y:=λy hy=>by
    unfold Iz at hy;simpa[and_assoc]using hy
   obtain⟨o1,o2,o3,o4⟩:=E _ ok;obtain⟨HN,l⟩:=bu (λ(W:aw) (aT:Int) (h:numOf x.data.toList<=aT)=>xg x aT W o1 o2 o3 h) o4;clear E ok o1 o2 o3 o4;clear U;obtain⟨F,G,H⟩:=bU (Pw f[k]) (Pv f[k]) (Px f[k]);go_wp2_with fail;all_goals
    refine(HN.O _ _ (by first|(have e:=F.O ‹_›;rw[<-e];exact l.O)|(have e:=G.O ‹_› ‹_›;rw[<-e];exact l.O)|(have e:=H.O ‹_› ‹_›;rw[<-e];exact l.O))).mono ?_;rintro e w2 ⟨rfl,b2⟩;have X:aC w (w2.alloc (.cells #[J V (numOf x.data.toList)] 3)):=(s.O.trans (b2.mono s.O.size)).alloc (aP s.O.size b2.size) _;have Y:=X.size;simp at Y;have K:∀j u,[J V (numOf x.data.toList)][j]? = Z u->(w2.alloc (.cells #[J V (numOf x.data.toList)] 3)).cell? ((⟨w2.heap.size,0,I⟩:Addr).add j)=Z u:=by
     intro j u hu;have:=cell_of_row _ _ j _ _ _ (heap_alloc_new w2 (.cells #[J V (numOf x.data.toList)] 3));rw[show((⟨w2.heap.size,0,I⟩:Addr).add j)=⟨w2.heap.size,j,I⟩ from by unfold Addr.add;split<;>simp_all,this];simpa using hu
    have ky:=(Jq N.O b2).alloc (.cells #[J V (numOf x.data.toList)] 3);obtain⟨q,L,M⟩:=bU ky X K;clear ky b2 X K N s HN l F G H;go_wp2_with (at_builtin;go_loud (refine dM _ rfl _ _ 36 rfl w.heap.size 3 i0 _ 1 8 underlying36 HI.O P.O Q.O R.O rfl aR _ _ _ rfl q.O ⟨w2.heap.size,0,I⟩ 1 1 [J V (numOf x.data.toList)] rfl rfl M.O tk ?_ ?_ ?_ ?_))
    ·unfold maxLen;omega
    ·omega
    ·simp;omega
    intro v5 w5 m g5 _;have b5:=L.O.grown g5 dZ (λj hj=>(q.O.lt j hj).1);obtain⟨Tf,Tg⟩:=bu m b5;clear m g5 b5 q L M;go_wp2_with fail;go_roundw;case rel=>exact⟨k+1,z,by go_num,by rw[HM.O];simpa[HK.O]using Tf.O,Tg.O⟩
    case measure=>simp[intOf];omega
  ·have Ti:k=ws.length:=z;subst Ti;rw[List.take_length]at own;obtain⟨N,s⟩:=bu own r;clear own r;go_wp2_with fail;go_ret;exact⟨_,rfl,by simpa using N.O,s.O⟩
def vJ(p:Addr)(w:aw) :
  CallsD af 135 #[aq (Z p)] .returning w λe b w'=>e=av (aB #[])/\b=.returning/\w'=w:=by
 refine callsD_of_wpS func135 rfl λa cs hu=>?_;apply wpS_seq;apply wpS_region;simp[wpOpsS,go_sem,recoverD,hu,ntmps135,Exit.thenS];apply wpS_seq;apply wpS_region;simp[wpOpsS,go_sem,recoverD,hu,Exit.thenS];refine wpS_cond (t:=false) (by simp[Act.eval,Array.replicate]) ?_;simp only[cB,if_false];refine wpS_of_wp (wp_skip ?_);cases a;simp_all [bodyPostS,aV,results135]
def J1(w:aw):aF af 138 #[.string ⟨#[114,111,111,109]⟩] w λe w'=>e=av (.string ⟨#[110,110,110,110,110,110]⟩)/\w'=w:=by
 go_enter func138,ntmps138;go_wp2_with fail;go_ret;exact⟨rfl,rfl⟩
def CO(w:aw):aF af 138 #[.string ⟨#[112,117,98,108,105,115,104]⟩] w λe w'=>e=av (.string ⟨#[110,110,110,110]⟩)/\w'=w:=by
 go_enter func138,ntmps138;go_wp2_with fail;go_ret;exact⟨rfl,rfl⟩
def J5(w:aw):aF af 138 #[.string ⟨#[106,111,105,110]⟩] w λe w'=>e=av (.string ⟨#[110,110,115,110]⟩)/\w'=w:=by
 go_enter func138,ntmps138;go_wp2_with fail;go_ret;exact⟨rfl,rfl⟩
def J0(w:aw):aF af 138 #[.string ⟨#[116,97,107,101]⟩] w λe w'=>e=av (.string ⟨#[110,110,110]⟩)/\w'=w:=by
 go_enter func138,ntmps138;go_wp2_with fail;go_ret;exact⟨rfl,rfl⟩
def ME(w:aw):aF af 138 #[.string ⟨#[107,101,121]⟩] w λe w'=>e=av (.string ⟨#[110,115,110]⟩)/\w'=w:=by
 go_enter func138,ntmps138;go_wp2_with fail;go_ret;exact⟨rfl,rfl⟩
def JZ(w:aw):aF af 138 #[.string ⟨#[116,117,114,110]⟩] w λe w'=>e=av (.string ⟨#[116]⟩)/\w'=w:=by
 go_enter func138,ntmps138;go_wp2_with fail;go_ret;exact⟨rfl,rfl⟩
def GK(w:aw):aF af 138 #[.string ⟨#[119,114,111,116,101]⟩] w λe w'=>e=av (.string ⟨#[110]⟩)/\w'=w:=by
 go_enter func138,ntmps138;go_wp2_with fail;go_ret;exact⟨rfl,rfl⟩
end Go.Proofs.YtkfblammcilfhaaGreatDoor
