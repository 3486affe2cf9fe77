import Derived.Deep.MidRow
import Derived.Test.YtkfblammcilfhaaGreatDoorP10
import Derived.Test.YtkfblammcilfhaaGreatDoorP11
set_option linter.all false
set_option maxRecDepth 100000
set_option maxHeartbeats 100000000
open Go.ChangeShapes Go.WideShapes Go.ChangeAt Go.RowKit Go.Proofs.Tryz
open Go renaming World->aw,Calls->aF,bodyPost_ret->ax,results->aV,info_parts->cY
open Nat renaming le_trans->aP,le_refl->aj,le_succ->cZ,zero_le->gG,add_zero->iw,zero_add->cO
open Option.some renaming injEq->bf
open Go.Proofs.Tryz renaming prog->af
open Go.RowKit.Below renaming refl->ao
open Go.Instr renaming lookup->cD
open Go.Value renaming int->J,slice->ae,bool->ai,pointer->aq,tuple->aB,agg->cg
open List renaming getElem_of_mem->ed,getElem?_eq_getElem->ay,getElem?_cons_zero->nR,getElem?_cons_succ->iY,take_add_one->ee,take_length->cT,filter_append->ju,length_filter_le->eE,length_take->ix,append_nil->kE
open Go.RowKit renaming intOf->bS
open Go.IntKind renaming i64->V,u32->ar,u16->aN,u8->bI
open Go.Ending renaming returned->av
open Option renaming none->I,some->Z
namespace Go.Proofs.YtkfblammcilfhaaGreatDoor
section
abbrev RM(id:Int)(aY:Int)(key:Bool)(p:M.cR)(s e y:Sl):List Value:=[J V id,J V aY,ai key,ai p.dR,J bI p.type,J aN p.dQ,J ar p.aU,J ar p.bJ,ae s.a s.n s.c,ai p.has,J aN p.bV,ae e.a e.n e.c,ae y.a y.n y.c]
abbrev SE(id:Int)(aY:Int)(key:Bool)(p:M.cR)(s e y:Sl)(first:Bool):List Value:=[J V id,J V aY,ai key,ai p.dR,J bI p.type,J aN p.dQ,J ar p.aU,J ar p.bJ,ae s.a s.n s.c,ai p.has,J aN p.bV,ae e.a e.n e.c,ae y.a y.n y.c,ai first]
abbrev Jw(id:Int)(b:Sl):List Value:=[J V id,ae b.a b.n b.c]
def uH(w:aw)(x:M.Item)(c:List Value):Prop:=∃s e y,c=RM x.id x.aY x.key x.bW s e y/\iT w x.bW s e y/\x.id<=1000000/\(0<=x.aY/\x.aY<3)
def pK(w:aw)(x:M.Item×Bool)(c:List Value):Prop:=∃s e y,c=SE x.1.id x.1.aY x.1.key x.1.bW s e y x.2/\iT w x.1.bW s e y/\x.1.id<=1000000/\(0<=x.1.aY/\x.1.aY<3)
def mG(w:aw)(x:Nat×M.cQ)(c:List Value):Prop:=∃b:Sl,c=Jw x.1 b/\b.B w x.2/\b.n<=400/\x.1<=1000000
def uH.rows{w w':aw}{x:M.Item}{c:List Value}(h:uH w x c)(r:Rows w w'):uH w' x c:=by
 obtain⟨s,e,y,h1,h2,h3⟩:=h;exact⟨s,e,y,h1,h2.rows r,h3⟩
def pK.rows{w w':aw}{x:M.Item×Bool}{c:List Value}(h:pK w x c)(r:Rows w w'):pK w' x c:=by
 obtain⟨s,e,y,h1,h2,h3⟩:=h;exact⟨s,e,y,h1,h2.rows r,h3⟩
def mG.rows{w w':aw}{x:Nat×M.cQ}{c:List Value}(h:mG w x c)(r:Rows w w'):mG w' x c:=by
 obtain⟨b,h1,h2,h3⟩:=h;exact⟨b,h1,h2.rows (.inl rfl) r,h3⟩
structure LB where
 g:Nat
 g1:Nat
 p1:Nat
 g2:Nat
 p2:Nat
 g3:Nat
 p3:Nat
 ov:Value
def LB.own(B:LB)(i:Nat):Prop:=i=B.g\/(i=B.g1\/i=B.p1)\/(i=B.g2\/i=B.p2)\/(i=B.g3\/i=B.p3)\/B.ov.ownBlock=Z i
abbrev nP(B:LB)(aT:Int)(l:M.dP):Array Value:=#[B.ov,aq (Z ⟨B.g1,0,I⟩),aq (Z ⟨B.g2,0,I⟩),aq (Z ⟨B.g3,0,I⟩),ai l.wanted,J V l.dx,J V l.fh,J ar l.mv.bJ,J aN l.mv.dQ,J ar l.mv.aU,ai l.mv.any,J ar l.mv.fH,J ar l.mv.shift,J V aT,J V l.row,ai l.eG]
structure Nb(aT:Int)(l:M.dP):Prop where
 src:0<=l.mv.bJ/\l.mv.bJ<=4294967295
 dQ:0<=l.mv.dQ/\l.mv.dQ<=65535
 aU:0<=l.mv.aU/\l.mv.aU<=4294967295
 row:0<=l.row/\l.row<=aT
 less:l.eG=false->l.row<aT
 aT:1<=aT/\aT<=10
structure ca(w:aw)(B:LB)(aG:Nat)(aT:Int)(l:M.dP)(N:Nat):Prop where
 cw:aK w B.g 133 (nP B aT l)
 cK:∃q,km w B.g1 B.p1 aG q/\Fit (uH w) l.cK q
 bF:∃q,iA w B.g2 B.p2 aG q/\Fit (pK w) l.bF q
 ready:∃q,nU w B.g3 B.p3 aG q/\Fit (mG w) l.ready q
 fF:∃q,w.ownsRow 0 80 2 B.ov l.fF.length q.flatten/\Fit (mG w) l.fF q
 ne:B.ov.ownBlock≠Z B.p3
 et:Nb aT l
 small:l.fF.length<=N
section
variable {w w':aw} {B:LB} {aG N:Nat} {aT:Int} {l:M.dP}
def ca.mono{M':Nat}(h:ca w B aG aT l N)(a:N<=M'):ca w B aG aT l M':={ h with small:=aP h.small a }
def ca.fr{F:Nat->Prop}(h:ca w B aG aT l N)(f:Fr F w w')(hF:∀i,B.own i->¬F i):ca w' B aG aT l N:=by
 obtain⟨a,r1,f1⟩:=h.cK;obtain⟨b,r2,f2⟩:=h.bF;obtain⟨d,e,f3⟩:=h.ready;obtain⟨g,r4,f4⟩:=h.fF;exact⟨h.cw.dW f.u (hF _ (.inl rfl)),⟨a,r1.dW f.u (hF _ (.inr (.inl (.inl rfl)))) (hF _ (.inr (.inl (.inr rfl)))),f1.mono λx c q=>q.rows f.r⟩,
  ⟨b,r2.dW f.u (hF _ (.inr (.inr (.inl (.inl rfl))))) (hF _ (.inr (.inr (.inl (.inr rfl))))),f2.mono λx c q=>q.rows f.r⟩,
  ⟨d,e.dW f.u (hF _ (.inr (.inr (.inr (.inl (.inl rfl)))))) (hF _ (.inr (.inr (.inr (.inl (.inr rfl)))))),f3.mono λx c q=>q.rows f.r⟩,
  ⟨g,du r4 f.u (λi hi=>hF i (.inr (.inr (.inr (.inr hi))))),f4.mono λx c q=>q.rows f.r⟩,h.ne,h.et,h.small⟩
def ca.below(h:ca w B aG aT l N)(u:aC w w'):ca w' B aG aT l N:=h.fr (F:=cr) (.bn u) λ_ _ q=>q
def ca.lt(h:ca w B aG aT l N):∀i,B.own i->i<w.heap.size:=by
 obtain⟨b,r1,f1⟩:=h.cK;obtain⟨c,r2,f2⟩:=h.bF;obtain⟨d,a,f3⟩:=h.ready;obtain⟨e,r4,f4⟩:=h.fF;rintro i (rfl|(rfl|rfl)|(rfl|rfl)|(rfl|rfl)|hi)
 ·exact h.cw.lt
 ·exact r1.lt.1
 ·exact r1.lt.2
 ·exact r2.lt.1
 ·exact r2.lt.2
 ·exact a.lt.1
 ·exact a.lt.2
 ·exact(r4.lt i hi).2
def ca.typed(h:ca w B aG aT l N):Typed w B.own [133,309,227,312,229,314,80]:=by
 obtain⟨c,r1,f1⟩:=h.cK;obtain⟨d,r2,f2⟩:=h.bF;obtain⟨e,a,f3⟩:=h.ready;obtain⟨f,r4,f4⟩:=h.fF;obtain⟨_,_,a1,a2⟩:=r1.cw;obtain⟨_,_,b1,b2⟩:=r2.cw;obtain⟨_,_,c1,c2⟩:=a.cw;rintro i (rfl|(rfl|rfl)|(rfl|rfl)|(rfl|rfl)|hi)
 ·exact⟨_,_,dt,h.cw⟩
 ·exact⟨_,_,dt,a1⟩
 ·exact⟨_,_,dt,a2⟩
 ·exact⟨_,_,dt,b1⟩
 ·exact⟨_,_,dt,b2⟩
 ·exact⟨_,_,dt,c1⟩
 ·exact⟨_,_,dt,c2⟩
 ·obtain⟨t,cs,ht,b⟩:=ib r4 i hi;simp at ht;subst ht;exact⟨_,_,dt,b⟩
def ca.ni(h:ca w B aG aT l N):vP w B.own:=h.typed.ni aR aR
def Out.DX(h:ca w B aG aT l N){t:TypeId}{g:Nat}{cs:Array Value}(a:aK w g t cs)(ht:t≠80):B.ov.ownBlock≠Z g:=by
 obtain⟨b,r4,f4⟩:=h.fF;exactλe=>ej r4 a (Ne.symm ht) e.symm
def ca.cells{l':M.dP}(h:ca w B aG aT l N)(f:Fr (One B.g) w w')(j:aK w' B.g 133 (nP B aT l'))(k:l'.cK=l.cK)(m:l'.bF=l.bF)(n:l'.ready=l.ready)(b:l'.fF=l.fF)(o:Nb aT l'):ca w' B aG aT l' N:=by
 obtain⟨p,r1,f1⟩:=h.cK;obtain⟨s,r2,f2⟩:=h.bF;obtain⟨t,d,f3⟩:=h.ready;obtain⟨v,r4,f4⟩:=h.fF;obtain⟨_,_,a1,a2⟩:=r1.cw;obtain⟨_,_,b1,b2⟩:=r2.cw;obtain⟨_,_,c1,c2⟩:=d.cw;have a:=h.cw;refine⟨j,⟨p,r1.dW f.u (aK.jf a1 a aR) (aK.jf a2 a aR),?_⟩,⟨s,r2.dW f.u (aK.jf b1 a aR) (aK.jf b2 a aR),?_⟩,⟨t,d.dW f.u (aK.jf c1 a aR) (aK.jf c2 a aR),?_⟩,⟨v,?_,?_⟩,h.ne,o,by rw[b];exact h.small⟩
 ·rw[k];exact f1.mono λx c q=>q.rows f.r
 ·rw[m];exact f2.mono λx c q=>q.rows f.r
 ·rw[n];exact f3.mono λx c q=>q.rows f.r
 ·rw[b];exact du r4 f.u (λi hi e=>Out.DX h a aR (by rw[hi];exact congrArg Z e))
 ·rw[b];exact f4.mono λx c q=>q.rows f.r
end
end
section
def yP{w:aw}{b:Nat}{κ:Type}[DecidableEq κ]{S:Keys κ}{ds:List κ}{f:κ->Value}(h:gE S w b ds f):PY w b:=by
 obtain⟨D,h1,_⟩:=h;obtain⟨es,k,he,_⟩:=h1;exact .inl ⟨es,k,he⟩
def gA.mut{w:aw}{b N:Nat}{κ:Type}[DecidableEq κ]{S:Keys κ}{F:κ->Option Value}(h:gA S w b F N):PY w b:=by
 obtain⟨ds,f,h1,_⟩:=h;exact yP h1
def gC.ni{w:aw}{B:vi}{aG cX:Int}{b:M.mf}(h:gC w B aG cX b):vP w B.own:=by
 rintro i (rfl|hi)
 ·exact .cw h.cw aR aR
 ·obtain⟨t,cs,ht,a⟩:=ib h.row i hi;simp at ht;subst ht;exact .cw a aR aR
def fA.ni{w:aw}{T:sL}{or:Int->Option M.bN}{so:M.bN->Option Int}{su:Int->Option M.Sub}{N:Nat}(h:fA w T or so su N):vP w T.own:=by
 rintro i (rfl|rfl|rfl|rfl)
 ·exact .cw h.cw aR aR
 ·exact h.o.mut
 ·exact h.s.mut
 ·exact h.u.mut
def eD.ni{w:aw}{g m N:Nat}{bk:Bk}(h:eD w g m bk N):vP w (jK g m):=by
 obtain⟨ds,v,h1,h2,_⟩:=h;rintro i (rfl|rfl)
 ·exact .cw h1 aR aR
 ·exact yP h2
structure SB where
 g:Nat
 b:vi
def SB.own(B:SB)(i:Nat):Prop:=i=B.g\/B.b.own i
abbrev kI(B:SB)(s:M.eu):Array Value:=#[aq (Z ⟨B.b.g,0,I⟩),ai s.any,J V s.dv,ai s.dJ.wanted,ai s.dJ.any,J V s.dJ.fH,J V s.dJ.gB,ai s.jc]
structure gh(w:aw)(B:SB)(eJ cX:Int)(s:M.eu)(N:Nat):Prop where
 cw:aK w B.g 172 (kI B s)
 buf:gC w B.b eJ cX s.bQ
 uE:-100000*(N:Int)<=s.dv/\s.dv<=100000*(N:Int)+200000
 fH:0<=s.dJ.fH/\s.dJ.fH<=N
 gB:0<=s.dJ.gB/\s.dJ.gB<=N
section
variable {w w':aw} {B:SB} {eJ cX:Int} {s:M.eu} {N:Nat}
def gh.fr{F:Nat->Prop}(h:gh w B eJ cX s N)(f:Fr F w w')(hF:∀i,B.own i->¬F i):gh w' B eJ cX s N:=
 ⟨h.cw.dW f.u (hF _ (.inl rfl)),h.buf.dW f.u (λi hi=>hF i (.inr hi)),h.uE,h.fH,h.gB⟩
def gh.mono{M':Nat}(h:gh w B eJ cX s N)(a:N<=M'):gh w B eJ cX s M':=
 ⟨h.cw,h.buf,by have:=h.uE;omega,by have:=h.fH;omega,by have:=h.gB;omega⟩
def gh.lt(h:gh w B eJ cX s N):∀i,B.own i->i<w.heap.size:=by
 rintro i (rfl|hi)
 ·exact h.cw.lt
 ·exact h.buf.lt i hi
def gh.ni(h:gh w B eJ cX s N):vP w B.own:=by
 rintro i (rfl|hi)
 ·exact .cw h.cw aR aR
 ·exact h.buf.ni i hi
end
abbrev RZ(a:M.kM)(s e y:Sl):List Value:=[J V a.origin.1,J V a.origin.2,J V a.bO,ai a.bW.dR,J bI a.bW.type,J aN a.bW.dQ,J ar a.bW.aU,J ar a.bW.bJ,ae s.a s.n s.c,ai a.bW.has,J aN a.bW.bV,ae e.a e.n e.c,ae y.a y.n y.c]
def uJ(w:aw)(a:M.kM)(c:List Value):Prop:=∃s e y,c=RZ a s e y/\iT w a.bW s e y
abbrev Rl(q:M.Request)(b:Sl):List Value:=[J V q.origin.1,J V q.origin.2,J V q.at_,ae b.a b.n b.c]
def tm(w:aw)(q:M.Request)(c:List Value):Prop:=∃(b:Sl) (xs:M.cQ),c=Rl q b/\b.B w xs/\b.n<=400
def Dd(w:aw)(x:M.cQ)(c:List Value):Prop:=∃b:Sl,c=[ae b.a b.n b.c]/\b.B w x/\b.n<=400
def uJ.rows{w w':aw}{x:M.kM}{c:List Value}(h:uJ w x c)(r:Rows w w'):uJ w' x c:=by
 obtain⟨s,e,y,h1,h2⟩:=h;exact⟨s,e,y,h1,h2.rows r⟩
def tm.rows{w w':aw}{x:M.Request}{c:List Value}(h:tm w x c)(r:Rows w w'):tm w' x c:=by
 obtain⟨b,xs,h1,h2,h3⟩:=h;exact⟨b,xs,h1,h2.rows (.inl rfl) r,h3⟩
def Dd.rows{w w':aw}{x:M.cQ}{c:List Value}(h:Dd w x c)(r:Rows w w'):Dd w' x c:=by
 obtain⟨b,h1,h2,h3⟩:=h;exact⟨b,h1,h2.rows (.inl rfl) r,h3⟩
structure RB where
 g:Nat
 bg:Nat
 bm:Nat
 ret:Nat
 qg:Nat
 qp:Nat
 t:sL
 lm:Nat
 sm:Nat
 lb:Int->Option LB
 sb:M.bN->Option SB
 pv:Value
 rv:Value
inductive xN where
 |aG
 |di
 |ret
 |dm
 |table
 |aD
 |az
 |fo (s:Int)
 |fO (o:M.bN)
 |aO
 |cj
def RB.own(B:RB):xN->Nat->Prop
 | .aG,i=>i=B.g
 | .di,i=>jK B.bg B.bm i
 | .ret,i=>i=B.ret
 | .dm,i=>jK B.qg B.qp i
 | .table,i=>B.t.own i
 | .aD,i=>i=B.lm
 | .az,i=>i=B.sm
 | .fo s,i=>∃L,B.lb s=Z L/\L.own i
 | .fO o,i=>∃S,B.sb o=Z S/\S.own i
 | .aO,i=>B.pv.ownBlock=Z i
 | .cj,i=>B.rv.ownBlock=Z i
def RB.all(B:RB)(i:Nat):Prop:=∃X,B.own X i
abbrev oS(B:RB)(R:M.Room):Array Value:=#[aq (Z ⟨B.bg,0,I⟩),J V R.dA.aG,J V R.dA.eJ,J V R.dA.cX,J V R.dA.eA,J V R.dA.ek,J V R.dA.aT,ai R.cN,.map (Z B.ret),J V R.cJ,aq (Z ⟨B.qg,0,I⟩),aq (Z ⟨B.t.g,0,I⟩),.map (Z B.lm),.map (Z B.sm),B.pv,B.rv,J V R.bp.jw,J V R.bp.cI,J V R.bp.gR,J V R.bp.ff,J V R.bp.fP]
def qx(L:LB):Value:=aq (Z ⟨L.g,0,I⟩)
def tS(S:SB):Value:=aq (Z ⟨S.g,0,I⟩)
def lX{α β:Type}(P:α->β->Prop):Option α->Option β->Prop
 |some a,some b=>P a b
 |none,none=>True
 |_,_=>False
def lX.some{α β:Type}{P:α->β->Prop}{a:α}{y:Option β}(h:lX P (Option.some a) y):∃b,y=Option.some b/\P a b:=by
 cases y with
 |none=>exact h.elim
 |some b=>exact⟨b,rfl,h⟩
def lX.none{α β:Type}{P:α->β->Prop}{y:Option β}(h:lX P Option.none y):y=Option.none:=by
 cases y with
 |none=>rfl
 |some b=>exact h.elim
def lX.mono{α β:Type}{P Q:α->β->Prop}{x:Option α}{y:Option β}(h:lX P x y)(c:∀a b,x=Option.some a->y=Option.some b->P a b->Q a b):lX Q x y:=by
 cases x<;>cases y
 ·trivial
 ·exact h.elim
 ·exact h.elim
 ·exact c _ _ rfl rfl h
def lX.isSome{α β:Type}{P:α->β->Prop}{x:Option α}{y:Option β}(h:lX P x y):x.isSome=y.isSome:=by
 cases x<;>cases y
 ·rfl
 ·exact h.elim
 ·exact h.elim
 ·rfl
def ly(w:aw)(B:RB)(R:M.Room)(N:Nat):xN->Prop
 | .aG=>aK w B.g 61 (oS B R)
 | .di=>eD w B.bg B.bm R.di N
 | .ret=>gE KW w B.ret R.returned (λ_=>ai true)
 | .dm=>∃q,ko w B.qg B.qp R.dA.aG q/\Fit (Dd w) R.dm q
 | .table=>fA w B.t R.cW R.aQ R.bh N
 | .aD=>gA KI w B.lm (λs=>(B.lb s).map qx) N
 | .az=>gA KO w B.sm (λo=>(B.sb o).map tS) N
 | .fo s=>lX (λl L=>ca w L R.dA.aG R.dA.aT l N) (R.aD s) (B.lb s)
 | .fO o=>lX (λs S=>gh w S R.dA.eJ R.dA.cX s N) (R.az o) (B.sb o)
 | .aO=>∃q,w.ownsRow 0 101 13 B.pv R.aO.length q.flatten/\Fit (uJ w) R.aO q
 | .cj=>∃q,w.ownsRow 0 94 4 B.rv R.cj.length q.flatten/\Fit (tm w) R.cj q
def ly.lt{w:aw}{B:RB}{R:M.Room}{N:Nat}:∀{X:xN},ly w B R N X->∀i,B.own X i->i<w.heap.size
 | .aG,h=>λi hi=>by have h:aK _ _ _ _:=h;cases hi;exact h.lt
 | .di,h=>λi hi=>by
  have h:eD _ _ _ _ _:=h;rcases hi with rfl|rfl
  ·exact h.lt.1
  ·exact h.lt.2
 | .ret,h=>λi hi=>by have h:gE _ _ _ _ _:=h;cases hi;exact h.lt
 | .dm,h=>λi hi=>by
  obtain⟨q,h1,h2⟩:=h;rcases hi with rfl|rfl
  ·exact h1.lt.1
  ·exact h1.lt.2
 | .table,h=>λi hi=>fA.lt h i hi
 | .aD,h=>λi hi=>by have h:gA _ _ _ _ _:=h;cases hi;exact h.lt
 | .az,h=>λi hi=>by have h:gA _ _ _ _ _:=h;cases hi;exact h.lt
 | .fo s,h=>λi hi=>by
  obtain⟨L,e,hi⟩:=hi;have h:lX _ (R.aD s) (B.lb s):=h;rw[e]at h;cases q:R.aD s<;>rw[q]at h
  ·exact h.elim
  ·exact ca.lt h i hi
 | .fO o,h=>λi hi=>by
  obtain⟨L,e,hi⟩:=hi;have h:lX _ (R.az o) (B.sb o):=h;rw[e]at h;cases q:R.az o<;>rw[q]at h
  ·exact h.elim
  ·exact gh.lt h i hi
 | .aO,h=>λi hi=>by obtain⟨q,h1,h2⟩:=h;exact(h1.lt i hi).2
 | .cj,h=>λi hi=>by obtain⟨q,h1,h2⟩:=h;exact(h1.lt i hi).2
def ly.ni{w:aw}{B:RB}{R:M.Room}{N:Nat}:∀{X:xN},ly w B R N X->vP w (B.own X)
 | .aG,h=>λi hi=>by have h:aK _ _ _ _:=h;cases hi;exact .cw h aR aR
 | .di,h=>eD.ni h
 | .ret,h=>λi hi=>by have h:gE _ _ _ _ _:=h;cases hi;exact yP h
 | .dm,h=>λi hi=>by obtain⟨q,h1,h2⟩:=h;exact h1.typed.ni aR aR i hi
 | .table,h=>fA.ni h
 | .aD,h=>λi hi=>by have h:gA _ _ _ _ _:=h;cases hi;exact h.mut
 | .az,h=>λi hi=>by have h:gA _ _ _ _ _:=h;cases hi;exact h.mut
 | .fo s,h=>λi hi=>by
  obtain⟨L,e,hi⟩:=hi;have h:lX _ (R.aD s) (B.lb s):=h;rw[e]at h;cases q:R.aD s<;>rw[q]at h
  ·exact h.elim
  ·exact ca.ni h i hi
 | .fO o,h=>λi hi=>by
  obtain⟨L,e,hi⟩:=hi;have h:lX _ (R.az o) (B.sb o):=h;rw[e]at h;cases q:R.az o<;>rw[q]at h
  ·exact h.elim
  ·exact gh.ni h i hi
 | .aO,h=>λi hi=>by obtain⟨q,h1,h2⟩:=h;exact(ib h1).ni aR aR i hi
 | .cj,h=>λi hi=>by obtain⟨q,h1,h2⟩:=h;exact(ib h1).ni aR aR i hi
def ly.fr{w w':aw}{B:RB}{R:M.Room}{N:Nat}{F:Nat->Prop}(f:Fr F w w'):∀{X:xN},ly w B R N X->(∀i,B.own X i->¬F i)->ly w' B R N X
 | .aG,h,hF=>aK.dW h f.u (hF _ rfl)
 | .di,h,hF=>eD.dW h f.u (hF _ (.inl rfl)) (hF _ (.inr rfl))
 | .ret,h,hF=>gE.dW h f.u (hF _ rfl)
 | .dm,h,hF=>by obtain⟨q,h1,h2⟩:=h;exact⟨q,h1.dW f.u (hF _ (.inl rfl)) (hF _ (.inr rfl)),h2.mono λx c k=>k.rows f.r⟩
 | .table,h,hF=>fA.dW h f.u hF
 | .aD,h,hF=>gA.dW h f.u (hF _ rfl)
 | .az,h,hF=>gA.dW h f.u (hF _ rfl)
 | .fo s,h,hF=>lX.mono h λa b h1 h2 k=>k.fr f λi hi=>hF i ⟨b,h2,hi⟩
 | .fO o,h,hF=>lX.mono h λa b h1 h2 k=>k.fr f λi hi=>hF i ⟨b,h2,hi⟩
 | .aO,h,hF=>by obtain⟨q,h1,h2⟩:=h;exact⟨q,du h1 f.u hF,h2.mono λx c k=>k.rows f.r⟩
 | .cj,h,hF=>by obtain⟨q,h1,h2⟩:=h;exact⟨q,du h1 f.u hF,h2.mono λx c k=>k.rows f.r⟩
structure yz(R:M.Room)(N:Nat):Prop where
 dA:M.jr R.dA.aG R.dA.eJ R.dA.cX R.dA.eA R.dA.ek R.dA.aT=true
 cJ:0<=R.cJ/\R.cJ<=N
 aO:R.aO.length<=N
 cj:R.cj.length<=N
 jw:0<=R.bp.jw/\R.bp.jw<=N
 cI:0<=R.bp.cI/\R.bp.cI<=N
 gR:0<=R.bp.gR/\R.bp.gR<=N
 ff:0<=R.bp.ff/\R.bp.ff<=N
 fP:0<=R.bp.fP/\R.bp.fP<=N
structure aL(w:aw)(B:RB)(R:M.Room)(N:Nat):Prop where
 part:∀X,ly w B R N X
 vd:∀X Y i,B.own X i->B.own Y i->X=Y
 et:yz R N
structure fK(w w':aw)(B B':RB):Prop where
 g:B'.g=B.g
 fr:Fr B.all w w'
 own:∀i,B'.all i->B.all i\/w.heap.size<=i
def fK.refl(w:aw)(B:RB):fK w w B B:=⟨rfl,Fr.refl _ _,λi h=>.inl h⟩
def fK.trans{a b c:aw}{A B C:RB}(h:fK a b A B)(k:fK b c B C):fK a c A C:=
 ⟨k.g.trans h.g,h.fr.step k.fr h.own,λi hi=>by
  rcases k.own i hi with q|q
  ·exact h.own i q
  ·exact .inr (aP h.fr.size q)⟩
section
variable {w w':aw} {B B':RB} {R R':M.Room} {N:Nat}
def aL.fr{F:Nat->Prop}(h:aL w B R N)(f:Fr F w w')(hF:∀i,B.all i->¬F i):aL w' B R N:=
 ⟨λX=>(h.part X).fr f λi hi=>hF i ⟨X,hi⟩,h.vd,h.et⟩
def aL.below(h:aL w B R N)(u:aC w w'):aL w' B R N:=h.fr (F:=cr) (.bn u) λ_ _ q=>q
def aL.lt(h:aL w B R N):∀i,B.all i->i<w.heap.size:=λi ⟨X,hi⟩=>(h.part X).lt i hi
def aL.IW(h:aL w B R N)(S:xN->Prop)(X:xN)(f:Fr (λi=>∃Y,S Y/\B.own Y i) w w')(l:∀Y,S Y->ly w' B' R' N Y)(hg:B'.g=B.g)
  (m:∀Y,¬S Y->ly w' B R N Y->ly w' B' R' N Y) (d:∀Y i,B'.own Y i->B.own Y i\/Y=X/\w.heap.size<=i) (n:yz R' N):aL w' B' R' N/\fK w w' B B':=by
 have b:∀Y i,B.own Y i->i<w.heap.size:=λY=>(h.part Y).lt;refine⟨⟨λY=>?_,λY a i h1 h2=>?_,n⟩,hg,f.mono λi _ ⟨Y,_,q⟩=>⟨Y,q⟩,λi ⟨Y,hi⟩=>?_⟩
 ·by_cases e:S Y
  ·exact l Y e
  ·exact m Y e ((h.part Y).fr f λi hi ⟨a,o,q⟩=>e (h.vd Y a i hi q ▸ o))
 ·rcases d Y i h1 with j | ⟨p,j⟩
  ·rcases d a i h2 with c | ⟨k,c⟩
   ·exact h.vd Y a i j c
   ·have:=b Y i j;omega
  ·rcases d a i h2 with c | ⟨k,c⟩
   ·have:=b a i c;omega
   ·rw[p,k]
 ·rcases d Y i hi with q | ⟨_,q⟩
  ·exact .inl ⟨Y,q⟩
  ·exact .inr q
def aL.yZ(h:aL w B R N)(X:xN)(f:Fr (B.own X) w w')(a:ly w' B' R' N X)(hg:B'.g=B.g)
  (b:∀Y,Y≠X->ly w' B R N Y->ly w' B' R' N Y) (c:∀Y i,B'.own Y i->B.own Y i\/Y=X/\w.heap.size<=i) (d:yz R' N):aL w' B' R' N/\fK w w' B B':=
 h.IW (λY=>Y=X) X (f.mono λi _ q=>⟨X,rfl,q⟩) (λY e=>e ▸ a) hg b c d
end
def eD.mono{w:aw}{g m N M':Nat}{bk:Bk}(h:eD w g m bk N)(a:N<=M'):eD w g m bk M':=by
 obtain⟨ds,v,h1,h2,h3⟩:=h;exact⟨ds,v,h1,h2,⟨h3.at_,h3.wb,h3.sJ,aP h3.small a⟩⟩
section
variable {w w':aw} {B B':RB} {R R':M.Room} {N M':Nat}
def yz.mono(h:yz R N)(a:N<=M'):yz R M':=
 ⟨h.dA,by have:=h.cJ;omega,by have:=h.aO;omega,by have:=h.cj;omega,by have:=h.jw;omega,by have:=h.cI;omega,by have:=h.gR;omega,by have:=h.ff;omega,by have:=h.fP;omega⟩
def ly.mono(c:N<=M'):∀{X:xN},ly w B R N X->ly w B R M' X
 | .aG,h=>h
 | .di,h=>eD.mono h c
 | .ret,h=>h
 | .dm,h=>h
 | .table,h=>fA.mono h c
 | .aD,h=>gA.mono h c
 | .az,h=>gA.mono h c
 | .fo s,h=>lX.mono h λa b _ _ k=>k.mono c
 | .fO o,h=>lX.mono h λa b _ _ k=>k.mono c
 | .aO,h=>h
 | .cj,h=>h
def aL.mono(h:aL w B R N)(a:N<=M'):aL w B R M':=⟨λX=>(h.part X).mono a,h.vd,h.et.mono a⟩
def aL.qJ(h:aL w B R N){s:Int}{l l':M.dP}{L a:LB}(m:R.aD s=Z l)(b:B.lb s=Z L)(f:Fr L.own w w')(c:ca w' a R.dA.aG R.dA.aT l' N)(hg:a.g=L.g)(d:∀i,a.own i->L.own i\/w.heap.size<=i) :
  aL w' { B with lb:=M.set B.lb s (Z a) } { R with aD:=M.set R.aD s (Z l') } N/\fK w w' B { B with lb:=M.set B.lb s (Z a) }:=by
 refine h.yZ (.fo s) (f.mono λi _ q=>⟨L,b,q⟩) ?_ rfl ?_ ?_ { h.et with }
 ·show lX _ (M.set R.aD s (Z l') s) (M.set B.lb s (Z a) s);simp only[M.set,if_true];exact c
 ·intro Y j k;cases Y with
  |aD =>
   refine gA.congr k λt=>?_;show(B.lb t).map qx=(M.set B.lb s (Z a) t).map qx;unfold M.set;split
   ·rename_i e;subst e;rw[b];simp[qx,hg]
   ·rfl
  |fo t =>
   have e:t≠s:=λe=>j (e ▸ rfl);show lX _ (M.set R.aD s (Z l') t) (M.set B.lb s (Z a) t);simp only[M.set,if_neg e];exact k
  |_=>exact k
 ·intro Y i hi;cases Y with
  |fo t =>
   obtain⟨K,q,hi⟩:=hi;simp only[M.set]at q;split at q
   ·rename_i e;simp only[bf]at q;subst q e;rcases d i hi with q|q
    ·exact .inl ⟨L,b,q⟩
    ·exact .inr ⟨rfl,q⟩
   ·exact .inl ⟨K,q,hi⟩
  |_=>exact .inl hi
def aL.nL(h:aL w B R N){o:M.bN}{s s':M.eu}{S S':SB}(j:R.az o=Z s)(a:B.sb o=Z S)(f:Fr S.own w w')(b:gh w' S' R.dA.eJ R.dA.cX s' N)(hg:S'.g=S.g)(c:∀i,S'.own i->S.own i\/w.heap.size<=i) :
  aL w' { B with sb:=M.set B.sb o (Z S') } { R with az:=M.set R.az o (Z s') } N/\fK w w' B { B with sb:=M.set B.sb o (Z S') }:=by
 refine h.yZ (.fO o) (f.mono λi _ q=>⟨S,a,q⟩) ?_ rfl ?_ ?_ { h.et with }
 ·show lX _ (M.set R.az o (Z s') o) (M.set B.sb o (Z S') o);simp only[M.set,if_true];exact b
 ·intro Y d k;cases Y with
  |az =>
   refine gA.congr k λt=>?_;show(B.sb t).map tS=(M.set B.sb o (Z S') t).map tS;unfold M.set;split
   ·rename_i e;subst e;rw[a];simp[tS,hg]
   ·rfl
  |fO t =>
   have e:t≠o:=λe=>d (e ▸ rfl);show lX _ (M.set R.az o (Z s') t) (M.set B.sb o (Z S') t);simp only[M.set,if_neg e];exact k
  |_=>exact k
 ·intro Y i hi;cases Y with
  |fO t =>
   obtain⟨K,q,hi⟩:=hi;simp only[M.set]at q;split at q
   ·rename_i e;simp only[bf]at q;subst q e;rcases c i hi with q|q
    ·exact .inl ⟨S,a,q⟩
    ·exact .inr ⟨rfl,q⟩
   ·exact .inl ⟨K,q,hi⟩
  |_=>exact .inl hi
def aL.ve(h:aL w B R N){bk:Bk}(f:Fr (One B.bm) w w')(a:eD w' B.bg B.bm bk N):aL w' B { R with di:=bk } N/\fK w w' B B:=by
 refine h.yZ .di (f.mono λi _ q=>.inr q) a rfl ?_ (λY i hi=>.inl hi) { h.et with };intro Y b k;cases Y with
 |di=>exact absurd rfl b
 |_=>exact k
def aL.kS(h:aL w B R N){or:Int->Option M.bN}{so:M.bN->Option Int}{su:Int->Option M.Sub}(f:Fr B.t.own w w')(a:fA w' B.t or so su N):aL w' B { R with cW:=or,aQ:=so,bh:=su } N/\fK w w' B B:=by
 refine h.yZ .table f a rfl ?_ (λY i hi=>.inl hi) { h.et with };intro Y b k;cases Y with
 |table=>exact absurd rfl b
 |_=>exact k
def aL.vF(h:aL w B R N){l:List M.cQ}(f:Fr (jK B.qg B.qp) w w')(a:∃q,ko w' B.qg B.qp R.dA.aG q/\Fit (Dd w') l q):aL w' B { R with dm:=l } N/\fK w w' B B:=by
 refine h.yZ .dm f a rfl ?_ (λY i hi=>.inl hi) { h.et with };intro Y b k;cases Y with
 |dm=>exact absurd rfl b
 |_=>exact k
def aL.rq(h:aL w B R N){cJ:Int}{cN:Bool}{bp:M.nH}(f:Fr (One B.g) w w')(a:aK w' B.g 61 (oS B { R with cJ:=cJ,cN:=cN,bp:=bp }))(b:yz { R with cJ:=cJ,cN:=cN,bp:=bp } N) :
  aL w' B { R with cJ:=cJ,cN:=cN,bp:=bp } N/\fK w w' B B:=by
 refine h.yZ .aG f a rfl ?_ (λY i hi=>.inl hi) b;intro Y c k;cases Y with
 |aG=>exact absurd rfl c
 |_=>exact k
end
end
section
theorem nD(p:Int)(w:aw):aF af 153 #[J V p] w λe w'=>e=av (ai (M.there p))/\w'=w:=by
 unfold M.there;go_enter func153,ntmps153;by_cases h1:0<=p
 ·by_cases h2:p<3
  ·go_wp2_with fail;go_ret;exact⟨by simp[h1,h2],rfl⟩
  ·go_wp2_with fail;go_ret;exact⟨by simp[h1,h2],rfl⟩
 ·go_wp2_with fail;go_ret;exact⟨by simp[h1];try omega,rfl⟩
theorem kU(p:Int)(w:aw):aF af 88 #[J V p] w λe w'=>e=av (ai (M.there p))/\w'=w:=by
 unfold M.there;go_enter func88,ntmps88;by_cases h1:0<=p
 ·by_cases h2:p<3
  ·go_wp2_with fail;go_ret;exact⟨by simp[h1,h2],rfl⟩
  ·go_wp2_with fail;go_ret;exact⟨by simp[h1,h2],rfl⟩
 ·go_wp2_with fail;go_ret;exact⟨by simp[h1];try omega,rfl⟩
section
variable (B:LB) (aG:Nat) (aT:Int) (l:M.dP) (N:Nat) (w:aw) (h:ca w B aG aT l N)
include h
theorem qK:aF af 46 #[aq (Z ⟨B.g,0,I⟩)] w λe w'=>e=av (ai l.eG)/\w'=w:=by
 have a:=h.cw.cell 15;simp at a;clear h;go_enter func46,ntmps46;go_wp2_with fail;go_ret;exact⟨rfl,rfl⟩
theorem vH:aF af 44 #[aq (Z ⟨B.g,0,I⟩)] w λe w'=>e=av (aB #[cg #[J V l.dx,J V l.fh],ai l.wanted])/\aC w w':=by
 have b:=h.cw;clear h;go_enter func44,ntmps44;go_upto_region 1 with fail;obtain⟨r2,h2⟩:=dH w.heap.size;rw[<-h2];refine aW (λW=>aK W r2 68 #[J V 0,J V 0]/\aK W B.g 133 (nP B aT l)/\aC w W) ⟨aK.newAt _ _ _ _ h2,b.alloc _,(ao _ w).alloc (aj _) _⟩ ?_;rintro W ⟨b2,a,c⟩;have hr:w.heap.size<=r2:=z;clear h2 b;have ne:=aK.jf b2 a aR;have c4:=a.cell 4;have c5:=a.cell 5;have i:=a.cell 6;have f0:=b2.frozen 0;have f1:=b2.frozen 1;have j:=b2.cell 0;have k:=b2.cell 1;simp at c4 c5 i j k;have R:=(b2.bC 0 (J V l.dx)).bC 1 (J V l.fh);have d:=R.cell 0;have r1:=R.cell 1;simp at d r1;have f:=au c;clear b2 a c R;go_region;all_goals
  go_wp2_with fail;refine ax (v:=aB #[cg #[J V l.dx,J V l.fh],ai l.wanted]) (by simp[aV,results44,go_sem,d,r1]) rfl ⟨rfl,?_⟩;first|exact cd ((f.O.setCell (p:=⟨r2,0,I⟩) hr _).setCell (p:=⟨r2,1,I⟩) hr _) 1|exact(f.O.setCell (p:=⟨r2,0,I⟩) hr _).setCell (p:=⟨r2,1,I⟩) hr _
theorem Bp:aF af 111 #[aq (Z ⟨B.g,0,I⟩),J V 1] w λe w'=>e=av (ai (l.nO aG))/\aC w w':=by
 obtain⟨b,r1,f1⟩:=h.cK;obtain⟨f,r2,f2⟩:=h.bF;have n1:=f1.length;have d:=f2.length;have c1:=h.cw.cell 1;have c2:=h.cw.cell 2;simp at c1 c2;obtain⟨H1,i⟩:=bu (Eh B.g1 B.p1 aG b w r1) (yu B.g2 B.p2 aG f w r2);clear r1 r2 f1 f2 h;unfold M.dP.nO;rw[<-n1,<-d];clear n1 d;by_cases hp:0<b.length
 ·have d1:decide ((0:Int)<(b.length:Int))=true:=dZ;have c:decide (0<b.length)=true:=dZ;rw[c];clear c;go_enter func111,ntmps111;go_wp2_with (first
   |(refine H1.O.mono ?_;rintro e w1 ⟨rfl,hw⟩;have a:=hw.symm;subst a)
   |(refine i.O.mono ?_;rintro e w1 ⟨rfl,hw⟩;subst hw))
  go_ret;exact⟨dt,cd (ao _ w) 1⟩
 ·have d1:decide ((0:Int)<(b.length:Int))=false:=decide_eq_false z;have c:decide (0<b.length)=false:=decide_eq_false hp;rw[c];clear c;go_enter func111,ntmps111;go_wp2_with (refine H1.O.mono ?_;rintro e w1 ⟨rfl,hw⟩;have a:=hw.symm;subst a);go_ret;exact⟨dt,ao _ w⟩
theorem Bo:aF af 111 #[aq (Z ⟨B.g,0,I⟩),J V 2] w λe w'=>e=av (ai (decide (0<l.bF.length)))/\aC w w':=by
 obtain⟨a,r2,f2⟩:=h.bF;have c:=f2.length;have c2:=h.cw.cell 2;simp at c2;have i:=au (zV B.g2 B.p2 aG a w r2);clear r2 f2 h;rw[<-c];clear c;have d:decide ((0:Int)<(a.length:Int))=decide (0<a.length):=by congr 1;simp
 have f:=au d;clear d;go_enter func111,ntmps111;go_wp2_with (refine i.O.mono ?_;rintro e w1 ⟨rfl,hw⟩;have b:=hw.symm;subst b);go_ret;exact⟨by first|rw[f.O]|(rw[<-f.O];simp)|simp,ao _ w⟩
theorem xu:aF af 111 #[aq (Z ⟨B.g,0,I⟩),J V 3] w λe w'=>e=av (ai (decide (0<l.ready.length)))/\aC w w':=by
 obtain⟨a,r2,f2⟩:=h.ready;have c:=f2.length;have c3:=h.cw.cell 3;simp at c3;have i:=au (Iv B.g3 B.p3 aG a w r2);clear r2 f2 h;rw[<-c];clear c;have d:decide ((0:Int)<(a.length:Int))=decide (0<a.length):=by congr 1;simp
 have f:=au d;clear d;go_enter func111,ntmps111;go_wp2_with (refine i.O.mono ?_;rintro e w1 ⟨rfl,hw⟩;have b:=hw.symm;subst b);go_ret;exact⟨by first|rw[f.O]|(rw[<-f.O];simp)|simp,ao _ w⟩
end
end
section
abbrev QR(id:Int)(aY:Int)(key:Bool)(p:M.cR)(s e y:Sl):Value:=cg #[J V id,J V aY,ai key,ai p.dR,J bI p.type,J aN p.dQ,J ar p.aU,J ar p.bJ,ae s.a s.n s.c,ai p.has,J aN p.bV,ae e.a e.n e.c,ae y.a y.n y.c]
abbrev Sj(id:Int)(aY:Int)(key:Bool)(p:M.cR)(s e y:Sl)(first:Bool):Value:=cg #[J V id,J V aY,ai key,ai p.dR,J bI p.type,J aN p.dQ,J ar p.aU,J ar p.bJ,ae s.a s.n s.c,ai p.has,J aN p.bV,ae e.a e.n e.c,ae y.a y.n y.c,ai first]
abbrev NP(id:Int)(b:Sl):Value:=cg #[J V id,ae b.a b.n b.c]
def sj(w:aw)(g pl cap:Nat)(l:List M.Item):Prop:=∃q,km w g pl cap q/\Fit (uH w) l q
def pw(w:aw)(g pl cap:Nat)(l:List (M.Item×Bool)):Prop:=∃q,iA w g pl cap q/\Fit (pK w) l q
def pY(w:aw)(g pl cap:Nat)(l:List (Nat×M.cQ)):Prop:=∃q,nU w g pl cap q/\Fit (mG w) l q
def oa{tr te:TypeId}{k:Nat}{w w':aw}{g pl cap:Nat}{q:List (List Value)}(h:RingM tr te k w g pl cap q)(u:cS (jK g pl) w w')(h1:tr≠5)(h2:tr≠41)(h3:te≠5)(h4:te≠41):Fr (jK g pl) w w':=
 .nY u h.typed (by simp;exact⟨Ne.symm h1,Ne.symm h3⟩) (by simp;exact⟨Ne.symm h2,Ne.symm h4⟩)
section
variable {w w':aw} {g pl cap:Nat}
def Gx{l:List M.Item}(h:sj w g pl cap l)(id:Nat)(aY:Int)(key:Bool)(p:M.cR)(s e y:Sl)(hp:iT w p s e y)(hi:id<=1000000)(n:0<=aY/\aY<3) :
  aF af 187 #[aq (Z ⟨g,0,I⟩),QR id aY key p s e y] w λr w'=>∃(o ol:Int) (ok:Bool) (op:M.cR) (os j m:Sl),r=av (aB #[QR o ol ok op os j m,ai (decide (l.length=cap)),J V 0]) /\
   (l.length=cap->∃x,l.head? = Z x/\o=(x.id:Int))/\sj w' g pl cap (M.push cap l ⟨id,aY,key,p⟩)/\Fr (jK g pl) w w':=by
 obtain⟨q,hR,hF⟩:=h;have B:=hF.length;by_cases a:l.length=cap
 ·cases l with
  |nil=>have:=hR.one;simp at a;omega
  |cons x xs =>
   obtain⟨c,t,rfl,v,i⟩:=hF.cons_inv;obtain⟨os,j,m,rfl,C,_⟩:=v;refine(zK g pl cap _ _ _ _ _ _ _ _ _ _ _ _ _ _ _ _ _ _ _ _ _ _ _ _ _ _ _ _ _ _ _ _ _ _ _ _ _ _ t w hR (by have:=i.length;simp at a;omega)).mono ?_;rintro r w' ⟨rfl,b,u⟩;have f:=oa hR u aR aR aR aR;refine⟨x.id,x.aY,x.key,x.bW,os,j,m,by rw[decide_eq_true a],λ_=>⟨x,rfl,rfl⟩,⟨_,b,?_⟩,f⟩;unfold M.push;rw[if_pos a];exact(i.mono λA d k=>k.rows f.r).snoc ⟨s,e,y,rfl,hp.rows f.r,hi,n⟩
 ·have hle:=hR.le;refine(zJ g pl cap _ _ _ _ _ _ _ _ _ _ _ _ _ _ _ _ _ _ _ q w hR z).mono ?_;rintro r w' ⟨rfl,b,u⟩;have f:=oa hR u aR aR aR aR;refine⟨0,0,false,.zero,.nil,.nil,.nil,by rw[decide_eq_false a];rfl,λq=>absurd q a,⟨_,b,?_⟩,f⟩;unfold M.push;rw[if_neg a];exact(hF.mono λA d k=>k.rows f.r).snoc ⟨s,e,y,rfl,hp.rows f.r,hi,n⟩
def JP{x:M.Item}{l:List M.Item}(h:sj w g pl cap (x::l)) :
  aF af 188 #[aq (Z ⟨g,0,I⟩)] w λr w'=>∃s e y:Sl,r=av (aB #[QR x.id x.aY x.key x.bW s e y,ai true])/\iT w' x.bW s e y/\x.id<=1000000/\(0<=x.aY/\x.aY<3)/\sj w' g pl cap l/\Fr (jK g pl) w w':=by
 obtain⟨q,hR,hF⟩:=h;obtain⟨c,i,rfl,j,a⟩:=hF.cons_inv;obtain⟨s,e,y,rfl,m,hi,n⟩:=j;refine(Mo g pl cap _ _ _ _ _ _ _ _ _ _ _ _ _ _ _ _ _ _ _ i w hR).mono ?_;rintro r w' ⟨rfl,b,u⟩;have f:=oa hR u aR aR aR aR;exact⟨s,e,y,rfl,m.rows f.r,hi,n,⟨_,b,a.mono λo d k=>k.rows f.r⟩,f⟩
def CX{l:List (M.Item×Bool)}(h:pw w g pl cap l)(id:Nat)(aY:Int)(key:Bool)(p:M.cR)(s e y:Sl)(first:Bool)(hp:iT w p s e y)(hi:id<=1000000)(c:0<=aY/\aY<3)(i:l.length≠cap) :
  aF af 190 #[aq (Z ⟨g,0,I⟩),Sj id aY key p s e y first] w λr w'=>∃(v:Value) (b:Bool),r=av (aB #[v,ai b,J V 0])/\pw w' g pl cap (l++[(⟨id,aY,key,p⟩,first)])/\Fr (jK g pl) w w':=by
 obtain⟨q,hR,hF⟩:=h;have j:=hF.length;have hle:=hR.le;refine(xI g pl cap _ _ _ _ _ _ _ _ _ _ _ _ _ _ _ _ _ _ _ _ q w hR z).mono ?_;rintro r w' ⟨rfl,a,u⟩;have f:=oa hR u aR aR aR aR;exact⟨_,_,rfl,⟨_,a,(hF.mono λm d k=>k.rows f.r).snoc ⟨s,e,y,rfl,hp.rows f.r,hi,c⟩⟩,f⟩
def EK{x:M.Item×Bool}{l:List (M.Item×Bool)}(h:pw w g pl cap (x::l)) :
  aF af 191 #[aq (Z ⟨g,0,I⟩)] w λr w'=>∃s e y:Sl,r=av (aB #[Sj x.1.id x.1.aY x.1.key x.1.bW s e y x.2,ai true])/\iT w' x.1.bW s e y/\x.1.id<=1000000/\pw w' g pl cap l/\Fr (jK g pl) w w':=by
 obtain⟨q,hR,hF⟩:=h;obtain⟨c,i,rfl,j,a⟩:=hF.cons_inv;obtain⟨s,e,y,rfl,m,hi,n⟩:=j;refine(GW g pl cap _ _ _ _ _ _ _ _ _ _ _ _ _ _ _ _ _ _ _ _ i w hR).mono ?_;rintro r w' ⟨rfl,b,u⟩;have f:=oa hR u aR aR aR aR;exact⟨s,e,y,rfl,m.rows f.r,hi,⟨_,b,a.mono λo d k=>k.rows f.r⟩,f⟩
def Ju{l:List (Nat×M.cQ)}(h:pY w g pl cap l)(id:Nat)(b:Sl)(xs:M.cQ)(o:b.B w xs)(i:b.n<=400)(hi:id<=1000000) :
  aF af 194 #[aq (Z ⟨g,0,I⟩),NP id b] w λr w'=>∃(p:Int) (m:Sl),r=av (aB #[NP p m,ai (decide (l.length=cap)),J V 0]) /\
   (l.length=cap->∃x,l.head? = Z x/\p=(x.1:Int))/\pY w' g pl cap (M.push cap l (id,xs))/\Fr (jK g pl) w w':=by
 obtain⟨q,hR,hF⟩:=h;have A:=hF.length;by_cases a:l.length=cap
 ·cases l with
  |nil=>have:=hR.one;simp at a;omega
  |cons x s =>
   obtain⟨c,t,rfl,v,j⟩:=hF.cons_inv;obtain⟨m,rfl,C,_⟩:=v;refine(Aw g pl cap _ _ _ _ _ _ _ _ t w hR (by have:=j.length;simp at a;omega)).mono ?_;rintro r w' ⟨rfl,e,u⟩;have f:=oa hR u aR aR aR aR;refine⟨x.1,m,by rw[decide_eq_true a],λ_=>⟨x,rfl,rfl⟩,⟨_,e,?_⟩,f⟩;unfold M.push;rw[if_pos a];exact(j.mono λy d k=>k.rows f.r).snoc ⟨b,rfl,o.rows (.inl rfl) f.r,i,hi⟩
 ·have hle:=hR.le;refine(Av g pl cap _ _ _ _ q w hR z).mono ?_;rintro r w' ⟨rfl,e,u⟩;have f:=oa hR u aR aR aR aR;refine⟨0,.nil,by rw[decide_eq_false a];rfl,λq=>absurd q a,⟨_,e,?_⟩,f⟩;unfold M.push;rw[if_neg a];exact(hF.mono λy d k=>k.rows f.r).snoc ⟨b,rfl,o.rows (.inl rfl) f.r,i,hi⟩
def LD{x:Nat×M.cQ}{l:List (Nat×M.cQ)}(h:pY w g pl cap (x::l)) :
  aF af 165 #[aq (Z ⟨g,0,I⟩)] w λr w'=>∃b:Sl,r=av (aB #[NP x.1 b,ai true])/\b.B w' x.2/\b.n<=400/\x.1<=1000000/\pY w' g pl cap l/\Fr (jK g pl) w w':=by
 obtain⟨q,hR,hF⟩:=h;obtain⟨c,i,rfl,j,a⟩:=hF.cons_inv;obtain⟨b,rfl,m,h4,hi⟩:=j;refine(NL g pl cap _ _ _ _ i w hR).mono ?_;rintro r w' ⟨rfl,e,u⟩;have f:=oa hR u aR aR aR aR;exact⟨b,rfl,m.rows (.inl rfl) f.r,h4,hi,⟨_,e,a.mono λo d k=>k.rows f.r⟩,f⟩
def Bh{x:Nat×M.cQ}{l:List (Nat×M.cQ)}(h:pY w g pl cap (x::l)) :
  aF af 164 #[aq (Z ⟨g,0,I⟩)] w λr w'=>∃b:Sl,r=av (aB #[NP x.1 b,ai true])/\b.B w' x.2/\b.n<=400/\x.1<=1000000/\pY w' g pl cap (x::l)/\aC w w':=by
 obtain⟨q,hR,hF⟩:=h;have a:=hF;obtain⟨c,e,rfl,i,j⟩:=hF.cons_inv;obtain⟨b,rfl,m,h4,hi⟩:=i;refine(LJ g pl cap _ _ _ _ e w hR).mono ?_;rintro r w' ⟨rfl,u⟩;have f:Fr cr w w':=.jT u (vP.none w);exact⟨b,rfl,m.rows (.inl rfl) f.r,h4,hi,⟨_,hR.dW f.u id id,a.mono λo d k=>k.rows f.r⟩,u.nothing⟩
end
end
abbrev Mt(id:Int)(aY:Int)(key:Bool)(p:M.cR)(s e y:Sl):Array Value:=#[J V id,J V aY,ai key,ai p.dR,J bI p.type,J aN p.dQ,J ar p.aU,J ar p.bJ,ae s.a s.n s.c,ai p.has,J aN p.bV,ae e.a e.n e.c,ae y.a y.n y.c]
def ca.items{w:aw}{B:LB}{aG N:Nat}{aT:Int}{l:M.dP}(h:ca w B aG aT l N):sj w B.g1 B.p1 aG l.cK:=h.cK
def ca.ub{w w':aw}{B:LB}{aG N:Nat}{aT:Int}{l:M.dP}{xs:List M.Item}(h:ca w B aG aT l N)(f:Fr (jK B.g1 B.p1) w w')(hi:sj w' B.g1 B.p1 aG xs):ca w' B aG aT { l with cK:=xs } N:=by
 obtain⟨m,r1,f1⟩:=h.cK;obtain⟨d,r2,f2⟩:=h.bF;obtain⟨g,b,f3⟩:=h.ready;obtain⟨j,r4,f4⟩:=h.fF;obtain⟨_,_,a1,a2⟩:=r1.cw;obtain⟨_,_,b1,b2⟩:=r2.cw;obtain⟨_,_,c1,c2⟩:=b.cw;have a:=h.cw;refine⟨a.dW f.u ?_,hi,⟨d,r2.dW f.u ?_ ?_,f2.mono λx c k=>k.rows f.r⟩,⟨g,b.dW f.u ?_ ?_,f3.mono λx c k=>k.rows f.r⟩,⟨j,du r4 f.u ?_,f4.mono λx c k=>k.rows f.r⟩,h.ne,⟨h.et.src,h.et.dQ,h.et.aU,h.et.row,h.et.less,h.et.aT⟩,h.small⟩
 ·rintro(e|e)
  ·exact aK.jf a a1 aR e
  ·exact aK.jf a a2 aR e
 ·rintro(e|e)
  ·exact aK.jf b1 a1 aR e
  ·exact aK.jf b1 a2 aR e
 ·rintro(e|e)
  ·exact aK.jf b2 a1 aR e
  ·exact aK.jf b2 a2 aR e
 ·rintro(e|e)
  ·exact aK.jf c1 a1 aR e
  ·exact aK.jf c1 a2 aR e
 ·rintro(e|e)
  ·exact aK.jf c2 a1 aR e
  ·exact aK.jf c2 a2 aR e
 ·rintro i hi (e|e)
  ·exact Out.DX h a1 aR (by rw[hi,e])
  ·exact Out.DX h a2 aR (by rw[hi,e])
def ca.MJ{w:aw}{B:LB}{aG N:Nat}{aT:Int}{l:M.dP}(h:ca w B aG aT l N){g:Nat}{t:TypeId}{cs:Array Value}(a:aK w g t cs) :
  (t≠309->t≠227->¬jK B.g1 B.p1 g)/\(t≠312->t≠229->¬jK B.g2 B.p2 g)/\(t≠314->t≠80->¬jK B.g3 B.p3 g):=by
 obtain⟨c,r1,f1⟩:=h.cK;obtain⟨d,r2,f2⟩:=h.bF;obtain⟨f,b,f3⟩:=h.ready;obtain⟨_,_,a1,a2⟩:=r1.cw;obtain⟨_,_,b1,b2⟩:=r2.cw;obtain⟨_,_,c1,c2⟩:=b.cw;refine⟨λn m=>?_,λn m=>?_,λn m=>?_⟩
 ·rintro(e|e)
  ·exact aK.jf a a1 n e
  ·exact aK.jf a a2 m e
 ·rintro(e|e)
  ·exact aK.jf a b1 n e
  ·exact aK.jf a b2 m e
 ·rintro(e|e)
  ·exact aK.jf a c1 n e
  ·exact aK.jf a c2 m e
def ca.rO(B:LB):∀i,jK B.g1 B.p1 i->B.own i:=λi hi=>.inr (.inl hi)
def Pp{w:aw}{p:M.cR}{s e y:Sl}(h:iT w p s e y):s.n<=400/\e.n<=400/\y.n<=400:=by
 obtain⟨a,b,c⟩:=h.small;rw[h.s.tl.len]at a;rw[h.e.tl.len]at b;rw[h.y.tl.len]at c;exact⟨a,b,c⟩
def LX(aG:Nat)(aT own dQ aU:Int)(w:aw)(h1:1<=aG)(h8:aG<=8)(hm:1<=aT/\aT<=10)(F:0<=own/\own<=4294967295)(G:0<=dQ/\dQ<=65535)(ht:0<=aU/\aU<=4294967295) :
  aF af 87 #[cg #[J V aG,J V aT,J ar own,J aN dQ,J ar aU]] w λe w'=>∃B:LB,e=av (aB #[aq (Z ⟨B.g,0,I⟩),J V 0])/\ca w' B aG aT (.new own dQ aU) 0/\(∀i,B.own i->w.heap.size<=i)/\aC w w':=by
 go_enter func87,ntmps87;go_upto_region 1 with fail;obtain⟨r1,s⟩:=dH w.heap.size;rw[<-s];refine aW (λW=>aK W r1 221 #[J V aG,J V aT,J ar own,J aN dQ,J ar aU]/\aC w W) ⟨aK.newAt _ _ _ _ s,(ao _ w).alloc (aj _) _⟩ ?_;clear s;rintro W ⟨b1,d⟩;have l:=b1.cell 0;simp at l;obtain⟨h,a⟩:=bu b1 d;clear b1 d;go_upto_region 4 with(go_big_may;go_at_call 148;refine(Mq aG W h1 h8).mono ?_;rintro e w1 ⟨g1,p1,rfl,f,u1,a1,a2⟩)
 refine aW (λY=>aK Y r1 221 #[J V aG,J V aT,J ar own,J aN dQ,J ar aU]/\aC w Y/\km Y g1 p1 aG []) ⟨h.O.kept u1.nothing,a.O.trans (u1.nothing.mono a.O.size),f⟩ ?_;have n1:w.heap.size<=g1/\w.heap.size<=p1:=⟨aP a.O.size a1,aP a.O.size a2⟩;clear h a f u1 a1 a2 l W;rintro W ⟨b1,d,f⟩;have l:=b1.cell 0;simp at l;obtain⟨h,a,b⟩:=bU b1 d f;clear b1 d f;go_upto_region 7 with(go_big_may;go_at_call 149;refine(GY aG W h1 h8).mono ?_;rintro e w2 ⟨g2,p2,rfl,j,u2,a1,a2⟩)
 refine aW (λY=>aK Y r1 221 #[J V aG,J V aT,J ar own,J aN dQ,J ar aU]/\aC w Y/\km Y g1 p1 aG []/\iA Y g2 p2 aG []) ⟨h.O.kept u2.nothing,a.O.trans (u2.nothing.mono a.O.size),b.O.below u2.nothing,j⟩ ?_;have A:w.heap.size<=g2/\w.heap.size<=p2:=⟨aP a.O.size a1,aP a.O.size a2⟩;clear h a b j u2 a1 a2 l W;rintro W ⟨b1,d,f,j⟩;have l:=b1.cell 0;simp at l;obtain⟨h,a,b,c⟩:=cA b1 d f j;clear b1 d f j;go_upto_region 10 with(go_big_may;go_at_call 150;refine(NN aG W h1 h8).mono ?_;rintro e w3 ⟨g3,p3,rfl,m,u3,a1,a2⟩)
 refine aW (λY=>aK Y r1 221 #[J V aG,J V aT,J ar own,J aN dQ,J ar aU]/\aC w Y/\km Y g1 p1 aG []/\iA Y g2 p2 aG []/\nU Y g3 p3 aG []) ⟨h.O.kept u3.nothing,a.O.trans (u3.nothing.mono a.O.size),b.O.below u3.nothing,c.O.below u3.nothing,m⟩ ?_;have C:w.heap.size<=g3/\w.heap.size<=p3:=⟨aP a.O.size a1,aP a.O.size a2⟩;clear h a b c m u3 a1 a2 l W;rintro W ⟨b1,d,f,j,m⟩;have D:=b1.cell 1;simp at D;obtain⟨h,a,b,c,k⟩:=gY b1 d f j m;clear b1 d f j m;go_upto_region 13 with(go_big_may;go_at_call 151;refine(Ny aT W hm.1 hm.2).mono ?_;rintro e w4 ⟨rfl,b4⟩)
 obtain⟨r8,t⟩:=dH w4.heap.size;rw[<-t];have p:aC W (w4.alloc (.cells #[J V aT,J V 0,ai false] 131)):=b4.alloc b4.size _;refine aW (λY=>aK Y r1 221 #[J V aG,J V aT,J ar own,J aN dQ,J ar aU]/\aC w Y/\km Y g1 p1 aG []/\iA Y g2 p2 aG []/\nU Y g3 p3 aG []/\aK Y r8 131 #[J V aT,J V 0,ai false]) ⟨h.O.kept p,a.O.trans (p.mono a.O.size),b.O.below p,c.O.below p,k.O.below p,aK.newAt _ _ _ _ t⟩ ?_;clear h a b c k p b4 t D W;rintro X ⟨b1,d,f,j,m,b8⟩;have u:=b1.cell 2;have x:=b1.cell 3;have y:=b1.cell 4;have j0:=b8.cell 0;have j1:=b8.cell 1;have j2:=b8.cell 2;simp at u x y j0 j1 j2;obtain⟨a,b,c,k⟩:=cA d f j m;clear b1 d f j m b8;go_region_held3 (λW=>W.cell? ⟨r1,2,I⟩=Z (J ar own)/\W.cell? ⟨r1,3,I⟩=Z (J aN dQ)/\W.cell? ⟨r1,4,I⟩=Z (J ar aU)/\W.cell? ⟨r8,0,I⟩=Z (J V aT)/\W.cell? ⟨r8,1,I⟩=Z (J V 0)/\W.cell? ⟨r8,2,I⟩=Z (ai false)) (first|(with_reducible exact⟨cE u,cE x,cE y,cE j0,cE j1,cE j2⟩)|(with_reducible exact⟨i2,i3,i4,l0,l1,l2⟩)|(with_reducible exact⟨ea i2,ea i3,ea i4,ea l0,ea l1,ea l2⟩)) (first|(go_at_call 152;refine(FQ own dQ aU _).mono ?_;rintro e r ⟨rfl,E⟩;have n:aC X r:=(by with_reducible exact eW E);have i2:=aM n u;have i3:=aM n x;have i4:=aM n y;have l0:=aM n j0;have l1:=aM n j1;have l2:=aM n j2;have o:=au n;clear n E));all_goals
  go_wp2_with fail;refine ax (v:=aB #[aq (Z ⟨r.heap.size,0,I⟩),J V 0]) (by simp[aV,results87,go_sem]) rfl ?_;have b5:=o.O.alloc o.O.size (.cells (nP ⟨r.heap.size,g1,p1,g2,p2,g3,p3,ae I 0 0⟩ aT (.new own dQ aU)) 133);refine⟨⟨r.heap.size,g1,p1,g2,p2,g3,p3,ae I 0 0⟩,rfl,?_,?_,?_⟩
  ·exact⟨aK.new r 133 _,⟨[],b.O.below b5,trivial⟩,⟨[],c.O.below b5,trivial⟩,⟨[],k.O.below b5,trivial⟩,⟨[],⟨by simp[M.dP.new],.inl ⟨rfl,rfl⟩⟩,trivial⟩,λq=>(by cases q),⟨F,G,ht,⟨by simp[M.dP.new],by simp[M.dP.new];omega⟩,λ_=>by simp[M.dP.new];omega,hm⟩,by simp[M.dP.new]⟩
  ·have H:=a.O.size;have hy:=o.O.size;rintro i (rfl|(rfl|rfl)|(rfl|rfl)|(rfl|rfl)|hi)
   ·show w.heap.size<=r.heap.size;omega
   ·exact n1.1
   ·exact n1.2
   ·exact A.1
   ·exact A.2
   ·exact C.1
   ·exact C.2
   ·cases hi
  ·exact a.O.trans (b5.mono a.O.size)
section
section
variable (B:LB) (aG:Nat) (aT:Int) (l:M.dP) (N:Nat) (w:aw) (h:ca w B aG aT l N)
include h
theorem JM(aY:Int):aF af 90 #[aq (Z ⟨B.g,0,I⟩),J V aY] w λe w'=>e=av (J V (l.iy aY).2)/\ca w' B aG aT (l.iy aY).1 N/\Fr (One B.g) w w':=by
 have d:=qK B aG aT l N w h;obtain⟨H,r⟩:=bu h d;clear d;cases ht:M.there aY
 ·have f:l.iy aY=(l,1):=by unfold M.dP.iy;simp[ht]
  have j:=au f;clear h f;go_enter func90,ntmps90;go_wp2_with (refine(nD aY w).mono ?_;rintro e w1 ⟨rfl,hw⟩;have a:=hw.symm;subst a;rw[ht]);go_ret;rw[j.O];exact⟨rfl,H.O,Fr.refl _ _⟩
 ·obtain⟨t1,t2⟩:0<=aY/\aY<3:=by simpa[M.there]using ht
  cases hg:l.eG
  ·have k:=h.cw;have c4:=k.cell 4;have c5:=k.cell 5;have s:=k.cell 6;simp at c4 c5 s;cases hw:l.wanted
   ·have f:l.iy aY=({ l with wanted:=true,dx:=-1,fh:=aY },0):=by unfold M.dP.iy;simp[ht,hg,hw]
    have j:=au f;have n:=au k;rw[hw]at c4;clear h f k;go_enter func90,ntmps90;go_upto_region 8 with(first
     |(refine(nD aY w).mono ?_;rintro e w1 ⟨rfl,hw⟩;have a:=hw.symm;subst a;rw[ht])
     |(refine r.O.mono ?_;rintro e w1 ⟨rfl,hw⟩;have a:=hw.symm;subst a;rw[hg])
     |(refine(om.zc aY w t1 t2).mono ?_;rintro e w2 ⟨rfl,b2⟩;have c:=n.O.kept b2;have o:=c.cell 5;have p:=c.cell 6;have f5:=c.frozen 5;have f6:=c.frozen 6;simp at o p;have b:=au c;have i:=au b2;clear c b2))
    have R:=(b.O.bC 5 (J V (-1))).bC 6 (J V aY);have F:Fr (One B.g) w ((w2.setCell ⟨B.g,5,I⟩ (J V (-1))).setCell ⟨B.g,6,I⟩ (J V aY)):=((Fr.bn (F:=One B.g) i.O).setCell b.O (.inl rfl) aR aR 5 _).setCell (b.O.bC 5 _) (.inl rfl) aR aR 6 _;refine aW (λY=>aK Y B.g 133 (nP B aT { l with dx:=-1,fh:=aY })/\Fr (One B.g) w Y) ⟨by simpa using R,F⟩ ?_;clear R F b i o p f5 f6 n c4 c5 s;rintro Y ⟨R,F⟩;have t:=R.cell 4;have f4:=R.frozen 4;simp at t;obtain⟨m,q⟩:=bu R F;clear R F;go_wp2_with fail;go_ret;rw[j.O];refine⟨rfl,?_,q.O.setCell m.O (.inl rfl) aR aR 4 _⟩;exact H.O.cells (q.O.setCell m.O (.inl rfl) aR aR 4 _) (by simpa using m.O.bC 4 (ai true)) rfl rfl rfl rfl ⟨H.O.et.src,H.O.et.dQ,H.O.et.aU,H.O.et.row,H.O.et.less,H.O.et.aT⟩
   ·have f:l.iy aY=({ l with wanted:=true,fh:=aY },0):=by unfold M.dP.iy;simp[ht,hg,hw]
    have j:=au f;have n:=au k;rw[hw]at c4;clear h f k;go_enter func90,ntmps90;go_upto_region 8 with(first
     |(refine(nD aY w).mono ?_;rintro e w1 ⟨rfl,hw⟩;have a:=hw.symm;subst a;rw[ht])
     |(refine r.O.mono ?_;rintro e w1 ⟨rfl,hw⟩;have a:=hw.symm;subst a;rw[hg])
     |(refine(om.Ii l.dx l.fh aY w t1 t2).mono ?_;rintro e w2 ⟨rfl,b2⟩;have c:=n.O.kept b2;have o:=c.cell 5;have p:=c.cell 6;have f5:=c.frozen 5;have f6:=c.frozen 6;simp at o p;have b:=au c;have i:=au b2;clear c b2))
    have R:=(b.O.bC 5 (J V l.dx)).bC 6 (J V aY);have F:Fr (One B.g) w ((w2.setCell ⟨B.g,5,I⟩ (J V l.dx)).setCell ⟨B.g,6,I⟩ (J V aY)):=((Fr.bn (F:=One B.g) i.O).setCell b.O (.inl rfl) aR aR 5 _).setCell (b.O.bC 5 _) (.inl rfl) aR aR 6 _;refine aW (λY=>aK Y B.g 133 (nP B aT { l with fh:=aY })/\Fr (One B.g) w Y) ⟨by simpa using R,F⟩ ?_;clear R F b i o p f5 f6 n c4 c5 s;rintro Y ⟨R,F⟩;have t:=R.cell 4;have f4:=R.frozen 4;simp at t;obtain⟨m,q⟩:=bu R F;clear R F;go_wp2_with fail;go_ret;rw[j.O];refine⟨rfl,?_,q.O.setCell m.O (.inl rfl) aR aR 4 _⟩;exact H.O.cells (q.O.setCell m.O (.inl rfl) aR aR 4 _) (by simpa using m.O.bC 4 (ai true)) rfl rfl rfl rfl ⟨H.O.et.src,H.O.et.dQ,H.O.et.aU,H.O.et.row,H.O.et.less,H.O.et.aT⟩
  ·have f:l.iy aY=(l,7):=by unfold M.dP.iy;simp[ht,hg]
   have j:=au f;clear h f;go_enter func90,ntmps90;go_wp2_with (first
    |(refine(nD aY w).mono ?_;rintro e w1 ⟨rfl,hw⟩;have a:=hw.symm;subst a;rw[ht])
    |(refine r.O.mono ?_;rintro e w1 ⟨rfl,hw⟩;have a:=hw.symm;subst a;rw[hg]))
   go_ret;rw[j.O];exact⟨rfl,H.O,Fr.refl _ _⟩
end
end
section
theorem vT:af.underlying 54=Z (.map KI.k 120):=underlying54
theorem BY:af.underlying 55=Z (.map KO.k 173):=underlying55
theorem BS(w:aw):(zeroValue 120).run af w=.ok (aq I) w:=cC
theorem Ic(w:aw):(zeroValue 173).run af w=.ok (aq I) w:=cC
def kk(B:RB)(w:aw)(v:Value)(R':M.Room)(N':Nat)(e:Ending)(w':aw):Prop:=∃B',e=av v/\aL w' B' R' N'/\fK w w' B B'
theorem gA.fr{κ:Type}[DecidableEq κ]{S:Keys κ}{w w':aw}{b N:Nat}{F:κ->Option Value}(h:gA S w b F N)(u:cS (One b) w w'):Fr (One b) w w':=.jT u (λi hi=>by cases hi;exact h.mut)
section
variable {B:RB} {R:M.Room} {N:Nat} {w:aw} (h:aL w B R N)
include h
theorem aL.cw:aK w B.g 61 (oS B R):=h.part .aG
theorem tN:aF af 20 #[aq (Z ⟨B.g,0,I⟩)] w λe w'=>e=av (J V R.cJ)/\w'=w:=by
 have a:=h.cw.cell 9;simp at a;clear h;go_enter func20,ntmps20;go_wp2_with fail;go_ret;exact⟨rfl,rfl⟩
theorem An:aF af 43 #[aq (Z ⟨B.g,0,I⟩)] w λe w'=>e=av (J V R.fU.2)/\aL w' B R.fU.1 N/\fK w w' B B:=by
 have c:=h.cw.cell 7;have f7:=h.cw.frozen 7;simp at c;have H:=au h;clear h;cases a:R.cN
 ·have b:R.fU=({ R with cN:=true },0):=by unfold M.Room.fU;simp[a]
  have d:=au b;rw[a]at c;clear b a;go_enter func43,ntmps43;go_wp2_with fail;go_ret;rw[d.O];have f:=H.O.rq (cJ:=R.cJ) (cN:=true) (bp:=R.bp) (w':=w.setCell ⟨B.g,7,I⟩ (ai true)) ((Fr.refl (One B.g) w).setCell H.O.cw (.inl rfl) aR aR 7 _) (by simpa using H.O.cw.bC 7 (ai true)) { H.O.et with };exact⟨rfl,f.1,f.2⟩
 ·have b:R.fU=(R,7):=by unfold M.Room.fU;simp[a]
  have d:=au b;rw[a]at c;clear b a;go_enter func43,ntmps43;go_wp2_with fail;go_ret;rw[d.O];exact⟨rfl,H.O,fK.refl _ _⟩
theorem aL.zI{w1 w2:aw}{s:Int}{L:LB}{l:M.dP}(b1:aC w w1)(f:ca w1 L R.dA.aG R.dA.aT l N)(a:∀i,L.own i->w.heap.size<=i)(u:cS (One B.lm) w1 w2)
  (g:gA KI w2 B.lm (M.set (λs=>(B.lb s).map qx) s (Z (qx L))) N) :
  aL w2 { B with lb:=M.set B.lb s (Z L) } { R with aD:=M.set R.aD s (Z l) } N/\fK w w2 B { B with lb:=M.set B.lb s (Z L) }:=by
 have b:gA KI w B.lm (λs=>(B.lb s).map qx) N:=h.part .aD;have j:=b.lt;have c:=(b.below b1).fr u;refine h.IW (λY=>Y=.aD\/Y=.fo s) (.fo s) ?_ ?_ rfl ?_ ?_ { h.et with }
 ·exact(Fr.bn b1).step c (λi hi=>.inl ⟨.aD,.inl rfl,hi⟩)
 ·rintro Y (rfl|rfl)
  ·refine gA.congr g λt=>?_;show M.set (λs=>(B.lb s).map qx) s (Z (qx L)) t=(M.set B.lb s (Z L) t).map qx;unfold M.set;split<;>rfl
  ·show lX _ (M.set R.aD s (Z l) s) (M.set B.lb s (Z L) s);simp only[M.set,if_true];exact f.fr c (λi hi q=>by have:=a i hi;rw[show i=B.lm from q]at this;omega)
 ·intro Y d k;cases Y with
  |fo t =>
   have e:t≠s:=λe=>d (.inr (e ▸ rfl));show lX _ (M.set R.aD s (Z l) t) (M.set B.lb s (Z L) t);simp only[M.set,if_neg e];exact k
  |aD=>exact absurd (.inl rfl) d
  |_=>exact k
 ·intro Y i hi;cases Y with
  |fo t =>
   obtain⟨K,q,hi⟩:=hi;simp only[M.set]at q;split at q
   ·rename_i e;simp only[bf]at q;subst q e;exact .inr ⟨rfl,a i hi⟩
   ·exact .inl ⟨K,q,hi⟩
  |_=>exact .inl hi
theorem Ba(s own dQ aU:Int)(hN:N<=900000)(ho:0<=own/\own<=4294967295)(hs:0<=dQ/\dQ<=65535)(ht:0<=aU/\aU<=4294967295) :
  aF af 39 #[aq (Z ⟨B.g,0,I⟩),J V s,J ar own,J aN dQ,J ar aU] w (kk B w (J V (R.iJ s own dQ aU).2) (R.iJ s own dQ aU).1 (N+2)):=by
 have Q:=h.cw.cell 7;have v:=h.cw.cell 11;simp at Q v;obtain⟨res,c⟩:=dH (R.iJ s own dQ aU);rw[<-c];have j:fA w B.t R.cW R.aQ R.bh N:=h.part .table;have k:(1<=R.dA.aG/\R.dA.aG<=8)/\1<=R.dA.aT/\R.dA.aT<=10:=by
  have:=h.et.dA;simp[M.jr]at this;omega
 have C:=au (Mm B.t R.cW R.aQ R.bh N w j s own z);have D:=j.ni;obtain⟨U,H⟩:=bu D h;clear j D;cases o:R.cN
 ·rw[o]at Q;by_cases f:vv R.bh s=0
  ·have p:R.iJ s own dQ aU=({ R with bh:=M.set R.bh s (Z ⟨own,false,0⟩),aD:=M.set R.aD s (Z (.new own dQ aU)) },0):=by
    unfold M.Room.iJ;unfold vv at f;rw[o];by_cases a:M.fY s=true
    ·by_cases b:(R.bh s).isSome=true
     ·simp[a,b]at f
     ·simp[a,b]
    ·simp[a]at f
   have hm:M.fY s=true:=by
    unfold vv at f;cases a:M.fY s
    ·simp[a]at f
    ·rfl
   have F:=vC hm;rw[p]at c;subst c;have m:Bu R.bh s own=M.set R.bh s (Z ⟨own,false,0⟩):=by unfold Bu;rw[if_pos f]
   rw[f,m]at C;have HW:=au F;clear p f m F hm o h;go_enter func39,ntmps39;go_upto_region 6 with(go_big_may;go_at_call 86;refine C.O.mono ?_;rintro e w1 ⟨rfl,S,u1⟩)
   have G:=(H.O.mono (cZ N)).kS (Fr.jT u1 U.O) (or:=R.cW) (so:=R.aQ) S;have n:=au G;clear G S u1 Q v;have d:=n.O.1.cw;have x:=d.cell 12;have c1:=d.cell 1;have X:=d.cell 6;simp at x c1 X;have Tm:=au d;have y:gA KI w1 B.lm (λs=>(B.lb s).map qx) (N+1):=n.O.1.part .aD;have Y:B.lm≠B.g:=y.ki d;have Tn:=d.lt;have K:=au y;clear d y;have Tf:=au (λW=>LX R.dA.aG R.dA.aT own dQ aU W k.1.1 k.1.2 k.2 ho hs ht);go_region_held3 (λW=>W.cell? ⟨B.g,12,I⟩=Z (.map (Z B.lm))/\W.cell? ⟨B.g,1,I⟩=Z (J V R.dA.aG)/\W.cell? ⟨B.g,6,I⟩=Z (J V R.dA.aT)) (first|(with_reducible exact⟨cE x,cE c1,cE X⟩)|(with_reducible exact⟨d12,d1,d6⟩)|(with_reducible exact⟨a12,a1,a6⟩)) (first|(go_at_call 87;refine(Tf.O _).mono ?_;rintro e w9 ⟨L,rfl,hL,r,b9⟩;have A:aC w1 w9:=(by with_reducible exact eW b9);have d12:=aM A x;have d1:=aM A c1;have d6:=aM A X;obtain⟨w2,u,hM,u2⟩:=(K.O.below A).nX rB vT z s (qx L) HW.O;have u:(Instr.mapUpdate 54 (.map (Z B.lm)) (J V s) (aq (Z ⟨L.g,0,I⟩))).run af w9=.ok () w2:=u;have f2:=((K.O.below A).fr u2);have T:¬One B.lm B.g:=(λq=>Y (show B.g=B.lm from q).symm);have a12:=dD f2 T d12;have a1:=dD f2 T d1;have a6:=dD f2 T d6;have Tg:=au A;have HL:=au hL;have P:=au r;have Ti:=au hM;have Tj:=au u2;clear A hL r hM u2 f2 T b9));all_goals
    go_wp2_with fail;go_ret;have Tl:=(n.O.1.mono (cZ (N+1))).zI (s:=s) (l:=.new own dQ aU) Tg.O (HL.O.mono (gG _)) (λi hi=>by have a:=P.O i hi;exact a) Tj.O Ti.O;exact⟨_,rfl,Tl.1,n.O.2.trans Tl.2⟩
  ·have p:R.iJ s own dQ aU=(R,vv R.bh s):=by
    unfold M.Room.iJ;unfold vv at f ⊢;rw[o];by_cases a:M.fY s=true
    ·by_cases b:(R.bh s).isSome=true
     ·simp[a,b]
     ·simp[a,b]at f
    ·simp[a]
   rw[p]at c;subst c;have m:Bu R.bh s own=R.bh:=by unfold Bu;rw[if_neg f]
   rw[m]at C;have Tk:(vv R.bh s !=0)=true:=by simpa using f
   clear p m o h;generalize vv R.bh s=E at C Tk f;go_enter func39,ntmps39;go_wp2_with (go_at_call 86;refine C.O.mono ?_;rintro e w1 ⟨rfl,S,u1⟩);go_ret;have G:=(H.O.mono (cZ N)).kS (Fr.jT u1 U.O) (or:=R.cW) (so:=R.aQ) (su:=R.bh) S;exact⟨B,rfl,G.1.mono (cZ _),G.2⟩
 ·have p:R.iJ s own dQ aU=(R,7):=by unfold M.Room.iJ;simp[o]
  rw[p]at c;subst c;rw[o]at Q;clear p o h C U v;go_enter func39,ntmps39;go_wp2_with fail;go_ret;exact⟨B,rfl,H.O.mono z,fK.refl _ _⟩
end
end
section
section
variable {B:RB} {R:M.Room} {N:Nat} {w:aw} (h:aL w B R N)
include h
theorem aL.jq{s:Int}{l:M.dP}(b:R.aD s=Z l):∃L,B.lb s=Z L/\ca w L R.dA.aG R.dA.aT l N:=by
 have a:lX _ (R.aD s) (B.lb s):=h.part (.fo s);rw[b]at a;exact a.some
theorem aL.CG{s:Int}(b:R.aD s=I):B.lb s=I:=by
 have a:lX _ (R.aD s) (B.lb s):=h.part (.fo s);rw[b]at a;exact a.none
theorem aL.uS(s:Int)(b:(Lit.int V s).wf=true):(cD 54 (.map (Z B.lm)) (J V s) true).run af w=.ok (aB #[((B.lb s).map qx).getD (aq I),ai (R.aD s).isSome]) w:=by
 have a:gA KI w B.lm (λs=>(B.lb s).map qx) N:=h.part .aD;have c:lX _ (R.aD s) (B.lb s):=h.part (.fo s);refine(a.my rB vT s b (BS w)).trans ?_;rw[c.isSome];cases B.lb s<;>rfl
theorem aL.kW(s:Int)(b:(Lit.int V s).wf=true):(cD 54 (.map (Z B.lm)) (J V s) false).run af w=.ok (((B.lb s).map qx).getD (aq I)) w:=by
 have a:gA KI w B.lm (λs=>(B.lb s).map qx) N:=h.part .aD;exact a.sW rB vT s b (BS w)
theorem aL.JO{w2:aw}{s:Int}(u:cS (One B.lm) w w2)(c:gA KI w2 B.lm (M.set (λs=>(B.lb s).map qx) s I) N) :
  aL w2 { B with lb:=M.set B.lb s I } { R with aD:=M.set R.aD s I } N/\fK w w2 B { B with lb:=M.set B.lb s I }:=by
 have a:gA KI w B.lm (λs=>(B.lb s).map qx) N:=h.part .aD;have d:=a.fr u;refine h.IW (λY=>Y=.aD\/Y=.fo s) .aD (d.mono λi _ q=>⟨.aD,.inl rfl,q⟩) ?_ rfl ?_ ?_ { h.et with }
 ·rintro Y (rfl|rfl)
  ·refine gA.congr c λt=>?_;show M.set (λs=>(B.lb s).map qx) s I t=(M.set B.lb s I t).map qx;unfold M.set;split<;>rfl
  ·show lX _ (M.set R.aD s I s) (M.set B.lb s I s);simp only[M.set,if_true];trivial
 ·intro Y b k;cases Y with
  |fo t =>
   have e:t≠s:=λe=>b (.inr (e ▸ rfl));show lX _ (M.set R.aD s I t) (M.set B.lb s I t);simp only[M.set,if_neg e];exact k
  |aD=>exact absurd (.inl rfl) b
  |_=>exact k
 ·intro Y i hi;cases Y with
  |fo t =>
   obtain⟨K,q,hi⟩:=hi;simp only[M.set]at q;split at q
   ·cases q
   ·exact .inl ⟨K,q,hi⟩
  |_=>exact .inl hi
theorem FP(s:Int)(W:N<1000000):aF af 42 #[aq (Z ⟨B.g,0,I⟩),J V s] w (kk B w (J V (R.jE s).2) (R.jE s).1 N):=by
 have D:=h.cw.cell 7;have p:=h.cw.cell 11;simp at D p;obtain⟨res,c⟩:=dH (R.jE s);rw[<-c];have f:fA w B.t R.cW R.aQ R.bh N:=h.part .table;obtain⟨r,G,H⟩:=bU (Cc B.t R.cW R.aQ R.bh N w f s) f.ni h;clear f;cases m:R.cN
 ·rw[m]at D;by_cases d:sI R.bh s=0
  ·have hm:M.fY s=true:=by
    unfold sI at d;cases a:M.fY s
    ·simp[a]at d
    ·rfl
   have n:R.jE s=({ R with bh:=M.set R.bh s I,di:=BN R.di s 7,aD:=M.set R.aD s I },0):=by
    unfold M.Room.jE;unfold sI at d;by_cases b:(R.bh s).isNone=true
    ·rw[hm,b]at d;simp at d
    ·rw[if_neg (by rw[m];simp),if_neg (by rw[hm];simp),if_neg b];rfl
   have u:=vC hm;rw[n]at c;subst c;have j:xr R.bh s=M.set R.bh s I:=by unfold xr;rw[if_pos d]
   rw[d,j]at r;have X:=au u;clear n d j u hm m h;go_enter func42,ntmps42;go_upto_region 6 with(go_big_may;go_at_call 92;refine r.O.mono ?_;rintro e w1 ⟨rfl,F,u1⟩)
   have k:=au (H.O.kS (Fr.jT u1 G.O) (or:=R.cW) (so:=R.aQ) F);clear F u1 D p;have x:=k.O.1.cw;have Q:=x.cell 0;simp at Q;clear x;have q:eD w1 B.bg B.bm R.di N:=k.O.1.part .di;obtain⟨Y,K⟩:=bu (yx B.bg B.bm N R.di s 7 w1 q z W) q.ni;clear q;go_upto_region 7 with(go_big_may;go_at_call 93;refine Y.O.mono ?_;rintro e w2 ⟨⟨v,rfl⟩,S,u2⟩)
   have l:=au (k.O.1.ve (Fr.jT u2 (λi hi=>K.O i (.inr hi))) S);clear S u2 Q;have y:=l.O.1.cw;have L:=y.cell 12;simp at L;clear y;have A:gA KI w2 B.lm (λs=>(B.lb s).map qx) N:=l.O.1.part .aD;obtain⟨w3,o,T,u3⟩:=A.Dw rB vT s X.O 0;have o:(Builtin.delete_ #[54,3] 0 #[.map (Z B.lm),J V s]).run af w2=.ok (aB #[]) w3:=o;have C:=au (l.O.1.JO u3 T);clear A T u3;go_wp2_with fail;go_ret;exact⟨_,rfl,C.O.1,(k.O.2.trans l.O.2).trans C.O.2⟩
  ·have n:R.jE s=(R,sI R.bh s):=by
    unfold M.Room.jE;unfold sI at d ⊢;rw[m];cases a:M.fY s
    ·simp[a]
    ·cases b:(R.bh s).isNone
     ·rw[a,b]at d;simp at d
     ·simp
   rw[n]at c;subst c;have j:xr R.bh s=R.bh:=by unfold xr;rw[if_neg d]
   rw[j]at r;have P:(sI R.bh s !=0)=true:=by simpa using d
   clear n j m h;generalize sI R.bh s=E at r P d;go_enter func42,ntmps42;go_wp2_with (go_at_call 92;refine r.O.mono ?_;rintro e w1 ⟨rfl,F,u1⟩);go_ret;have U:=H.O.kS (Fr.jT u1 G.O) (or:=R.cW) (so:=R.aQ) (su:=R.bh) F;exact⟨B,rfl,U.1,U.2⟩
 ·have n:R.jE s=(R,7):=by unfold M.Room.jE;simp[m]
  rw[n]at c;subst c;rw[m]at D;clear n m h r G p;go_enter func42,ntmps42;go_wp2_with fail;go_ret;exact⟨B,rfl,H.O,fK.refl _ _⟩
theorem vq{s aY:Int}{l:M.dP}{L:LB}(a:R.aD s=Z l)(b:B.lb s=Z L):aF af 90 #[aq (Z ⟨L.g,0,I⟩),J V aY] w (kk B w (J V (R.fj s aY).2) (R.fj s aY).1 N):=by
 obtain⟨k,e,d⟩:=h.jq a;rw[b]at e;cases e;have j:R.fj s aY=({ R with aD:=M.set R.aD s (Z (l.iy aY).1) },(l.iy aY).2):=by unfold M.Room.fj;rw[a]
 rw[j];refine(JM L R.dA.aG R.dA.aT l N w d aY).mono ?_;rintro e w1 ⟨rfl,hA1,f⟩;have c:=h.qJ a b (f.mono λi _ q=>.inl q) hA1 rfl (λi q=>.inl q);exact⟨_,rfl,c.1,c.2⟩
theorem Jb(s aY:Int)(v:(R.bh s).isSome=true->(R.aD s).isSome=true):aF af 41 #[aq (Z ⟨B.g,0,I⟩),J V s,J V aY] w (kk B w (J V (R.iy s aY).2) (R.iy s aY).1 N):=by
 have G:=h.cw.cell 7;have k:=h.cw.cell 11;have c:=h.cw.cell 12;simp at G k c;obtain⟨res,a⟩:=dH (R.iy s aY);rw[<-a];have H:=au h;cases r:R.cN
 ·rw[r]at G;have m:R.iy s aY=if(!M.fY s || !M.there aY)=true then(R,1) else if(R.of s).isNone=true then(R,5) else R.fj s aY:=by
   unfold M.Room.iy;rw[if_neg (by rw[r];simp)]
  by_cases h0:s<0
  ·have d:R.iy s aY=(R,1):=by rw[m,if_pos (by simp[M.fY];left;omega)]
   rw[d]at a;subst a;clear m d r h v k c;go_enter func41,ntmps41;go_wp2_with fail;go_ret;exact⟨B,rfl,H.O,fK.refl _ _⟩
  by_cases h6:6<=s
  ·have d:R.iy s aY=(R,1):=by rw[m,if_pos (by simp[M.fY];left;omega)]
   rw[d]at a;subst a;have d0:decide (s<0)=false:=decide_eq_false h0;clear m d r h v k c;go_enter func41,ntmps41;go_wp2_with fail;go_ret;exact⟨B,rfl,H.O,fK.refl _ _⟩
  have d0:decide (s<0)=false:=decide_eq_false h0;have d6:decide (6<=s)=false:=decide_eq_false h6;have hm:M.fY s=true:=by simp[M.fY];omega
  have n:=vC hm;cases ht:M.there aY
  ·have d:R.iy s aY=(R,1):=by rw[m,if_pos (by simp[ht])]
   rw[d]at a;subst a;clear m d r h v k c hm n;go_enter func41,ntmps41;go_wp2_with (go_at_call 88;refine(kU aY w).mono ?_;rintro e w1 ⟨rfl,hw⟩;have o:=hw.symm;subst o;rw[ht]);go_ret;exact⟨B,rfl,H.O,fK.refl _ _⟩
  rw[if_neg (by rw[hm,ht];simp)]at m;have p:fA w B.t R.cW R.aQ R.bh N:=h.part .table;have A:=LO B.t R.cW R.aQ R.bh N w p s n;have f:R.of s=if((R.bh s).getD ⟨0,false,0⟩).cL then Z ((R.bh s).getD ⟨0,false,0⟩).jo else I:=by
   unfold M.Room.of;cases R.bh s with
   |none=>rfl
   |some x=>rfl
  cases j:((R.bh s).getD ⟨0,false,0⟩).cL
  ·rw[j]at f A;have d:R.iy s aY=(R,5):=by rw[m,f];rfl
   rw[d]at a;subst a;have y:=au A;clear m d r h v c hm n p A f j;go_enter func41,ntmps41;go_wp2_with (first
    |(go_at_call 88;refine(kU aY w).mono ?_;rintro e w1 ⟨rfl,hw⟩;have o:=hw.symm;subst o;rw[ht])
    |(go_at_call 91;refine y.O.mono ?_;rintro e w1 ⟨rfl,b1⟩))
   go_ret;exact⟨B,rfl,H.O.below b1,⟨rfl,.bn b1,λi q=>.inl q⟩⟩
  ·rw[j]at f A;have S:(R.bh s).isSome=true:=by
    cases q:R.bh s with
    |none=>rw[q]at j;cases j
    |some x=>rfl
   obtain⟨l,K⟩:=Option.isSome_iff_exists.1 (v S);obtain⟨L,P,_⟩:=h.jq K;have d:R.iy s aY=R.fj s aY:=by rw[m,f];rfl
   rw[d]at a;subst a;obtain⟨y,C⟩:=bu A (And.intro K P);have D:∀W,aC w W->(cD 54 (.map (Z B.lm)) (J V s) false).run af W=.ok (aq (Z ⟨L.g,0,I⟩)) W:=λW b=>by
    have T:=(h.below b).kW s n;rw[P]at T;exact T
   have Q:=au D;have Y:=h.cw.lt;have u:∀W,aC w W->W.cell? ⟨B.g,12,I⟩=Z (.map (Z B.lm)):=λW b=>aM b c;have E:=au u;clear m d r h v hm n p A f j S K P D c u;go_enter func41,ntmps41;go_wp2_with (first
    |(go_at_call 88;refine(kU aY w).mono ?_;rintro e w1 ⟨rfl,hw⟩;have o:=hw.symm;subst o;rw[ht])
    |(go_at_call 91;refine y.O.mono ?_;rintro e w1 ⟨rfl,b1⟩;have U:=Q.O w1 b1;have c:=E.O w1 b1;have F:=au b1;clear b1)
    |(go_at_call 90;refine(vq (H.O.below F.O) C.O.1 C.O.2).mono ?_;rintro e w2 ⟨B',rfl,hR,X⟩))
   go_ret;exact⟨B',rfl,hR,(⟨rfl,.bn F.O,λi q=>.inl q⟩:fK w w1 B B).trans X⟩
 ·have d:R.iy s aY=(R,7):=by unfold M.Room.iy;simp[r]
  rw[d]at a;subst a;rw[r]at G;clear d r h k c v;go_enter func41,ntmps41;go_wp2_with fail;go_ret;exact⟨B,rfl,H.O,fK.refl _ _⟩
end
end
def uU:(af.info? 3).map (λi=>(i.zero,i.size,i.bytes))=Z (Z (J V 0),1,8):=cC
def N0(a0:Int)(a1:Int)(b2:Bool)(b3:Bool)(a4:Int)(a5:Int)(k:Int)(l:Int)(m:Option Addr)(f g:Nat)(n:Bool)(h:Int)(i:Option Addr)(a b:Nat)(j:Option Addr)(c d:Nat)(w:aw):aF af 171 #[cg #[J V a0,J V a1,ai b2,ai b3,J bI a4,J aN a5,J ar k,J ar l,ae m f g,ai n,J aN h,ae i a b,ae j c d]] w λe w'=>e=av (J V a0)/\aC w w':=by
 go_enter func171,ntmps171;go_wp2_with fail;go_ret;exact⟨rfl,(ao _ w).alloc (aj _) _⟩
def Mr(q:List (List Value))(xs:List Int)(v:Value)(base:Nat)(w:aw)(h:w.ownsRow base 227 13 v q.length q.flatten)(b:xs.length=q.length)
  (P:∀(i:Nat) (c:List Value),q[i]? = Z c->∃(a0:Int) (a1:Int) (b2:Bool) (b3:Bool) (a4:Int) (a5:Int) (H:Int) (K:Int) (L:Option Addr) (o p:Nat) (M:Bool) (r:Int) (s:Option Addr) (k l:Nat) (t:Option Addr) (m n:Nat),c=[J V a0,J V a1,ai b2,ai b3,J bI a4,J aN a5,J ar H,J ar K,ae L o p,ai M,J aN r,ae s k l,ae t m n]/\xs[i]? = Z a0) (hn:q.length<=1000) :
  aF af 169 #[v,.func (.func 171) #[] #[]] w λe w'=>∃v',e=av v'/\w'.ownsRow w.heap.size 3 1 v' q.length (xs.map (J V))/\aC w w':=by
 obtain⟨i0,hi,B,C,D⟩:=cY uU;obtain⟨HI,Q,R,S⟩:=cA hi B C D;have hk:∀c∈q,c.length=13:=λc f=>by
  obtain⟨i,T,e⟩:=ed f;obtain⟨a0,a1,b2,b3,a4,a5,H,K,L,o,p,M,r,s,k,l,t,m,n,_⟩:=P i c (by rw[ay T,e]);rename_i q;rw[q.1];rfl
 obtain⟨HO,HX,HS,HK⟩:=cA h b P hk;obtain⟨A,c,rfl⟩:=bA h;have u:w.ownsRow w.heap.size 3 1 (ae I 0 0) 0 []:=⟨dt,.inl ⟨rfl,rfl⟩⟩;have b0:=ao w.heap.size w;clear h b P hk hi B C D;go_enter func169,ntmps169;go_wp2_with fail;go_loopw [5,10] (λa i wr=>∃j:Nat,i=J V j/\j<=q.length/\wr.ownsRow w.heap.size 3 1 a j ((xs.take j).map (J V))/\aC w wr) (λa i _=>q.length-(bS i).toNat);case atStart=>exact⟨0,rfl,z,u,b0⟩
 case round =>
  clear u b0;obtain⟨j,rfl,hj,own,d⟩:=hrel;have Tj:=d.size;by_cases U:j<q.length
  ·obtain⟨x,b⟩:∃x,q[j]? = Z x:=⟨_,ay U⟩;obtain⟨g,cap,hv,Tk,f⟩:=jZ HO.O HK.O z;injection hv with W Tl X
   subst W X;obtain⟨a0,a1,b2,b3,a4,a5,H,K,L,o,p,M,r,s,k,l,t,m,n,rfl,E⟩:=HS.O j x b;have d0:=f j _ b 0 z;have d1:=f j _ b 1 z;have d2:=f j _ b 2 z;have d3:=f j _ b 3 z;have d4:=f j _ b 4 z;have d5:=f j _ b 5 z;have d6:=f j _ b 6 z;have d7:=f j _ b 7 z;have d8:=f j _ b 8 z;have d9:=f j _ b 9 z;have d10:=f j _ b 10 z;have d11:=f j _ b 11 z;have d12:=f j _ b 12 z;simp only[nR,iY,iw]at d0 d1 d2 d3 d4 d5 d6 d7 d8 d9 d10 d11 d12;have e0:=aM d d0;have e1:=aM d d1;have e2:=aM d d2;have e3:=aM d d3;have e4:=aM d d4;have e5:=aM d d5;have e6:=aM d d6;have e7:=aM d d7;have e8:=aM d d8;have e9:=aM d d9;have Tm:=aM d d10;have Tn:=aM d d11;have To:=aM d d12;have ht:(xs.take (j+1)).map (J V)=(xs.take j).map (J V)++[J V a0]:=by rw[ee,E];simp
   obtain⟨A',c',rfl⟩:=bA own;have HT:=au ht;have Y:=au own;have N:=au d;clear ht own d E b f d0 d1 d2 d3 d4 d5 d6 d7 d8 d9 d10 d11 d12;have Tp:((j:Int)<(q.length:Int)):=z;go_wp2_with (first
    |(refine(N0 a0 a1 b2 b3 a4 a5 H K L o p M r s k l t m n _).mono ?_;rintro e w3 ⟨rfl,b3⟩;have b4:=wR (ao _ wr) b3;have o3:=du Y.O (cS.bn (F:=cr) b4) (λ_ _ q=>q);have Tq:=b4.size;have G:=au b4;clear b3 b4)
    |(at_builtin;go_loud (refine dV _ rfl _ _ 36 rfl w.heap.size 3 i0 (J V 0) 1 8 underlying36 HI.O Q.O R.O S.O rfl aR _ _ _ rfl (o3.alloc _) ⟨w3.heap.size,0,I⟩ 1 1 [J V a0] rfl rfl (fB w3 3 #[J V a0]) tk ?c3 ?c4 ?c5 ?_)))
   case c3=>unfold maxLen;omega
   case c4=>omega
   case c5=>simp;omega
   intro v5 w5 y g5 _;have u5:=eT g5;have bb:aC w w5:=((N.O.trans (G.O.mono N.O.size)).alloc (lE G.O.size) (.cells #[J V a0] 3)).trans (u5.below dZ (λi hi=>((o3.alloc (.cells #[J V a0] 3)).lt i hi).1));obtain⟨Tf,Tg⟩:=bu y bb;clear y g5 u5 bb o3;go_wp2_with fail;go_roundw;case rel=>exact⟨j+1,by go_num,z,by rw[HT.O,List.map_take];exact Tf.O,Tg.O⟩
   case measure=>simp[bS];omega
  ·have Ti:j=q.length:=z;subst Ti;have ht:xs.take q.length=xs:=by rw[<-HX.O,cT]
   rw[ht]at own;obtain⟨A',c',rfl⟩:=bA own;obtain⟨Y,N⟩:=bu own d;clear own d ht;go_wp2_with fail;go_ret;exact⟨_,rfl,Y.O,N.O⟩
def Ke(a0:Int)(a1:Int)(b2:Bool)(b3:Bool)(a4:Int)(a5:Int)(l:Int)(m:Int)(n:Option Addr)(f g:Nat)(o:Bool)(h:Int)(i:Option Addr)(a b:Nat)(j:Option Addr)(c d:Nat)(k:Bool)(w:aw):aF af 174 #[cg #[J V a0,J V a1,ai b2,ai b3,J bI a4,J aN a5,J ar l,J ar m,ae n f g,ai o,J aN h,ae i a b,ae j c d,ai k]] w λe w'=>e=av (J V a0)/\aC w w':=by
 go_enter func174,ntmps174;go_wp2_with fail;go_ret;exact⟨rfl,(ao _ w).alloc (aj _) _⟩
def GZ(q:List (List Value))(xs:List Int)(v:Value)(base:Nat)(w:aw)(h:w.ownsRow base 229 14 v q.length q.flatten)(b:xs.length=q.length)
  (Q:∀(i:Nat) (c:List Value),q[i]? = Z c->∃(a0:Int) (a1:Int) (b2:Bool) (b3:Bool) (a4:Int) (a5:Int) (K:Int) (L:Int) (M:Option Addr) (o p:Nat) (N:Bool) (r:Int) (s:Option Addr) (k l:Nat) (t:Option Addr) (m n:Nat) (u:Bool),c=[J V a0,J V a1,ai b2,ai b3,J bI a4,J aN a5,J ar K,J ar L,ae M o p,ai N,J aN r,ae s k l,ae t m n,ai u]/\xs[i]? = Z a0) (hn:q.length<=1000) :
  aF af 172 #[v,.func (.func 174) #[] #[]] w λe w'=>∃v',e=av v'/\w'.ownsRow w.heap.size 3 1 v' q.length (xs.map (J V))/\aC w w':=by
 obtain⟨i0,hi,C,D,E⟩:=cY uU;obtain⟨HI,R,S,T⟩:=cA hi C D E;have hk:∀c∈q,c.length=14:=λc f=>by
  obtain⟨i,U,e⟩:=ed f;obtain⟨a0,a1,b2,b3,a4,a5,K,L,M,o,p,N,r,s,k,l,t,m,n,u,_⟩:=Q i c (by rw[ay U,e]);rename_i q;rw[q.1];rfl
 obtain⟨HO,HX,HS,HK⟩:=cA h b Q hk;obtain⟨A,c,rfl⟩:=bA h;have y:w.ownsRow w.heap.size 3 1 (ae I 0 0) 0 []:=⟨dt,.inl ⟨rfl,rfl⟩⟩;have b0:=ao w.heap.size w;clear h b Q hk hi C D E;go_enter func172,ntmps172;go_wp2_with fail;go_loopw [5,10] (λa i wr=>∃j:Nat,i=J V j/\j<=q.length/\wr.ownsRow w.heap.size 3 1 a j ((xs.take j).map (J V))/\aC w wr) (λa i _=>q.length-(bS i).toNat);case atStart=>exact⟨0,rfl,z,y,b0⟩
 case round =>
  clear y b0;obtain⟨j,rfl,hj,own,d⟩:=hrel;have Tj:=d.size;by_cases W:j<q.length
  ·obtain⟨x,b⟩:∃x,q[j]? = Z x:=⟨_,ay W⟩;obtain⟨g,cap,hv,Tk,f⟩:=jZ HO.O HK.O z;injection hv with X Tl Y
   subst X Y;obtain⟨a0,a1,b2,b3,a4,a5,K,L,M,o,p,N,r,s,k,l,t,m,n,u,rfl,G⟩:=HS.O j x b;have d0:=f j _ b 0 z;have d1:=f j _ b 1 z;have d2:=f j _ b 2 z;have d3:=f j _ b 3 z;have d4:=f j _ b 4 z;have d5:=f j _ b 5 z;have d6:=f j _ b 6 z;have d7:=f j _ b 7 z;have d8:=f j _ b 8 z;have d9:=f j _ b 9 z;have d10:=f j _ b 10 z;have d11:=f j _ b 11 z;have d12:=f j _ b 12 z;have d13:=f j _ b 13 z;simp only[nR,iY,iw]at d0 d1 d2 d3 d4 d5 d6 d7 d8 d9 d10 d11 d12 d13;have e0:=aM d d0;have e1:=aM d d1;have e2:=aM d d2;have e3:=aM d d3;have e4:=aM d d4;have e5:=aM d d5;have e6:=aM d d6;have e7:=aM d d7;have e8:=aM d d8;have e9:=aM d d9;have Tm:=aM d d10;have Tn:=aM d d11;have To:=aM d d12;have Tp:=aM d d13;have ht:(xs.take (j+1)).map (J V)=(xs.take j).map (J V)++[J V a0]:=by rw[ee,G];simp
   obtain⟨A',c',rfl⟩:=bA own;have HT:=au ht;have HW:=au own;have P:=au d;clear ht own d G b f d0 d1 d2 d3 d4 d5 d6 d7 d8 d9 d10 d11 d12 d13;have Tq:((j:Int)<(q.length:Int)):=z;go_wp2_with (first
    |(refine(Ke a0 a1 b2 b3 a4 a5 K L M o p N r s k l t m n u _).mono ?_;rintro e w3 ⟨rfl,b3⟩;have b4:=wR (ao _ wr) b3;have o3:=du HW.O (cS.bn (F:=cr) b4) (λ_ _ q=>q);have Ts:=b4.size;have H:=au b4;clear b3 b4)
    |(at_builtin;go_loud (refine dV _ rfl _ _ 36 rfl w.heap.size 3 i0 (J V 0) 1 8 underlying36 HI.O R.O S.O T.O rfl aR _ _ _ rfl (o3.alloc _) ⟨w3.heap.size,0,I⟩ 1 1 [J V a0] rfl rfl (fB w3 3 #[J V a0]) tk ?c3 ?c4 ?c5 ?_)))
   case c3=>unfold maxLen;omega
   case c4=>omega
   case c5=>simp;omega
   intro v5 w5 B g5 _;have u5:=eT g5;have bb:aC w w5:=((P.O.trans (H.O.mono P.O.size)).alloc (lE H.O.size) (.cells #[J V a0] 3)).trans (u5.below dZ (λi hi=>((o3.alloc (.cells #[J V a0] 3)).lt i hi).1));obtain⟨Tf,Tg⟩:=bu B bb;clear B g5 u5 bb o3;go_wp2_with fail;go_roundw;case rel=>exact⟨j+1,by go_num,z,by rw[HT.O,List.map_take];exact Tf.O,Tg.O⟩
   case measure=>simp[bS];omega
  ·have Ti:j=q.length:=z;subst Ti;have ht:xs.take q.length=xs:=by rw[<-HX.O,cT]
   rw[ht]at own;obtain⟨A',c',rfl⟩:=bA own;obtain⟨HW,P⟩:=bu own d;clear own d ht;go_wp2_with fail;go_ret;exact⟨_,rfl,HW.O,P.O⟩
def Pu(a0:Int)(c:Option Addr)(a b:Nat)(w:aw):aF af 177 #[cg #[J V a0,ae c a b]] w λe w'=>e=av (J V a0)/\aC w w':=by
 go_enter func177,ntmps177;go_wp2_with fail;go_ret;exact⟨rfl,(ao _ w).alloc (aj _) _⟩
def NO(q:List (List Value))(xs:List Int)(v:Value)(base:Nat)(w:aw)(h:w.ownsRow base 80 2 v q.length q.flatten)(l:xs.length=q.length)
  (B:∀(i:Nat) (c:List Value),q[i]? = Z c->∃(a0:Int) (u:Option Addr) (b d:Nat),c=[J V a0,ae u b d]/\xs[i]? = Z a0) (hn:q.length<=1000) :
  aF af 175 #[v,.func (.func 177) #[] #[]] w λe w'=>∃S,e=av S/\w'.ownsRow w.heap.size 3 1 S q.length (xs.map (J V))/\aC w w':=by
 obtain⟨i0,hi,n,o,p⟩:=cY uU;obtain⟨X,C,D,E⟩:=cA hi n o p;have T:∀c∈q,c.length=2:=λc r=>by
  obtain⟨i,G,e⟩:=ed r;obtain⟨a0,u,b,d,_⟩:=B i c (by rw[ay G,e]);rename_i q;rw[q.1];rfl
 obtain⟨Y,HX,HS,HK⟩:=cA h l B T;obtain⟨A,c,rfl⟩:=bA h;have f:w.ownsRow w.heap.size 3 1 (ae I 0 0) 0 []:=⟨dt,.inl ⟨rfl,rfl⟩⟩;have U:=ao w.heap.size w;clear h l B T hi n o p;go_enter func175,ntmps175;go_wp2_with fail;go_loopw [5,10] (λa i wr=>∃j:Nat,i=J V j/\j<=q.length/\wr.ownsRow w.heap.size 3 1 a j ((xs.take j).map (J V))/\aC w wr) (λa i _=>q.length-(bS i).toNat);case atStart=>exact⟨0,rfl,z,f,U⟩
 case round =>
  clear f U;obtain⟨j,rfl,hj,own,m⟩:=hrel;have Tf:=m.size;by_cases H:j<q.length
  ·obtain⟨x,l⟩:∃x,q[j]? = Z x:=⟨_,ay H⟩;obtain⟨g,cap,hv,Tg,r⟩:=jZ Y.O HK.O z;injection hv with K Ti L
   subst K L;obtain⟨a0,u,b,d,rfl,s⟩:=HS.O j x l;have d0:=r j _ l 0 z;have d1:=r j _ l 1 z;simp only[nR,iY,iw]at d0 d1;have e0:=aM m d0;have e1:=aM m d1;have ht:(xs.take (j+1)).map (J V)=(xs.take j).map (J V)++[J V a0]:=by rw[ee,s];simp
   obtain⟨A',c',rfl⟩:=bA own;have HT:=au ht;have M:=au own;have y:=au m;clear ht own m s l r d0 d1;have Tj:((j:Int)<(q.length:Int)):=z;go_wp2_with (first
    |(refine(Pu a0 u b d _).mono ?_;rintro e w3 ⟨rfl,b3⟩;have b4:=wR (ao _ wr) b3;have N:=du M.O (cS.bn (F:=cr) b4) (λ_ _ q=>q);have Tk:=b4.size;have t:=au b4;clear b3 b4)
    |(at_builtin;go_loud (refine dV _ rfl _ _ 36 rfl w.heap.size 3 i0 (J V 0) 1 8 underlying36 X.O C.O D.O E.O rfl aR _ _ _ rfl (N.alloc _) ⟨w3.heap.size,0,I⟩ 1 1 [J V a0] rfl rfl (fB w3 3 #[J V a0]) tk ?c3 ?c4 ?c5 ?_)))
   case c3=>unfold maxLen;omega
   case c4=>omega
   case c5=>simp;omega
   intro v5 w5 k g5 _;have u5:=eT g5;have W:aC w w5:=((y.O.trans (t.O.mono y.O.size)).alloc (lE t.O.size) (.cells #[J V a0] 3)).trans (u5.below dZ (λi hi=>((N.alloc (.cells #[J V a0] 3)).lt i hi).1));obtain⟨P,Q⟩:=bu k W;clear k g5 u5 W N;go_wp2_with fail;go_roundw;case rel=>exact⟨j+1,by go_num,z,by rw[HT.O,List.map_take];exact P.O,Q.O⟩
   case measure=>simp[bS];omega
  ·have R:j=q.length:=z;subst R;have ht:xs.take q.length=xs:=by rw[<-HX.O,cT]
   rw[ht]at own;obtain⟨A',c',rfl⟩:=bA own;obtain⟨M,y⟩:=bu own m;clear own m ht;go_wp2_with fail;go_ret;exact⟨_,rfl,M.O,y.O⟩
section
theorem AV(k:Nat)(h:k<6):M.gF[k]? = Z (k:Int):=by
 rcases(z:k=0\/k=1\/k=2\/k=3\/k=4\/k=5) with rfl|rfl|rfl|rfl|rfl|rfl<;>rfl
theorem I2(p:Int->Bool)(k:Nat)(h:k<6):(M.gF.take (k+1)).filter p=(M.gF.take k).filter p++if p k then[(k:Int)] else[]:=by
 rw[ee,AV k h,ju];simp only[Option.toList_some];cases hp:p (k:Int)<;>simp[hp]
theorem Fo(R:M.Room):Fair.wl (Fair.yj (M.gF.filter λs=>(R.aD s).isSome)) 6=R.dF:=by
 have key:∀k:Nat,k<6->Fair.yj (M.gF.filter λs=>(R.aD s).isSome) k=(R.aD (k:Int)).isSome:=by
  intro k a;have hm:((k:Int))∈M.gF:=List.mem_of_getElem? (AV k a);unfold Fair.yj;simp[List.mem_filter,hm]
 generalize (M.gF.filter λs=>(R.aD s).isSome)=l at key ⊢;unfold M.Room.dF;have b:Fair.yj l 0=(R.aD 0).isSome:=key 0 z;have c:Fair.yj l 1=(R.aD 1).isSome:=key 1 z;have d:Fair.yj l 2=(R.aD 2).isSome:=key 2 z;have e:Fair.yj l 3=(R.aD 3).isSome:=key 3 z;have f:Fair.yj l 4=(R.aD 4).isSome:=key 4 z;have g:Fair.yj l 5=(R.aD 5).isSome:=key 5 z;unfold Fair.wl Fair.wl Fair.wl Fair.wl Fair.wl Fair.wl Fair.wl;simp only[b,c,d,e,f,g,M.gF,List.flatMap_cons,List.flatMap_nil,Fair.three];simp
theorem DM{w:aw}{base n c:Nat}{A:Option Addr}{l:List Int}(h:w.ownsRow base 3 1 (ae A n c) n (l.map (J V))):Fair.sk w w.heap.size A n l:=by
 refine⟨by simpa using h.1,λh0=>?_⟩;have o:l.length=n:=by simpa using h.1
 rcases h.2 with⟨_,e⟩ | ⟨g,cap,dx,e,p,a,f,j,k,b⟩
 ·omega
 ·injection e with m r s
  subst m;have a:aK w g 3 dx:=a;refine⟨g,0,rfl,a.lt,λi hi=>?_⟩;rw[cO,a.cell i];have d:=congrArg (λq:List Value=>q[i]?) b;simp only[Nat.mul_one]at d;rw[List.getElem?_take_of_lt hi,Array.getElem?_toList,List.getElem?_map,ay z]at d;rw[d,List.getD_eq_getElem?_getD,ay z];rfl
section
variable {B:RB} {R:M.Room} {N:Nat} {w:aw} (h:aL w B R N)
include h
theorem vo:aF af 74 #[aq (Z ⟨B.g,0,I⟩)] w λe w'=>(∃A m c,e=av (ae A m c)/\m<=c/\c<=maxLen/\Fair.rP w' w'.heap.size A m R.dF/\(∀a,A=Z a->w.heap.size<=a.block))/\aC w w':=by
 obtain⟨i0,hi,t,u,v⟩:=cY uU;obtain⟨HI,D,E,F⟩:=cA hi t u v;have d:=h.cw.cell 12;simp at d;have H:=au h;have j:w.ownsRow w.heap.size 3 1 (ae I 0 0) 0 []:=⟨dt,.inl ⟨rfl,rfl⟩⟩;have U:=ao w.heap.size w;have G:=au (Fo R);have l:∀W,aC w W->W.cell? ⟨B.g,12,I⟩=Z (.map (Z B.lm)):=λW b=>aM b d;have HC:=au l;clear h hi t u v l d;go_enter func74,ntmps74;go_wp2_with fail;go_loopw [3,7] (λa i wr=>∃k:Nat,i=J V k/\k<=6/\wr.ownsRow w.heap.size 3 1 a ((M.gF.take k).filter λs=>(R.aD s).isSome).length (((M.gF.take k).filter λs=>(R.aD s).isSome).map (J V))/\aC w wr) (λa i _=>6-(bS i).toNat);case atStart=>exact⟨0,rfl,z,j,U⟩
 case round =>
  clear j U;obtain⟨k,rfl,hk,own,f⟩:=hrel;have Tf:=f.size;by_cases K:k<6
  ·have n:=I2 (λs=>(R.aD s).isSome) k K;have r:=(H.O.below f).uS (k:Int) (Ig z z);have d:=HC.O wr f;obtain⟨N,X,rfl⟩:=bA own;have Tg:((k:Int)<6):=z;have hlen:((M.gF.take k).filter λs=>(R.aD s).isSome).length<=6:=aP (eE _ _) (by rw[ix];have:M.gF.length=6:=rfl;omega);generalize ((B.lb (k:Int)).map qx).getD (aq I)=lv at r;cases hp:(R.aD (k:Int)).isSome
   ·rw[hp]at r n;simp only[Bool.false_eq_true,if_false,kE]at n;obtain⟨x,o,C⟩:=bU own f n;clear own f n hp;go_wp2_with fail;go_roundw;case rel=>exact⟨k+1,by go_num,z,by rw[C.O];exact x.O,o.O⟩
    case measure=>simp[bS];omega
   ·rw[hp]at r n;simp only[if_true]at n;obtain⟨x,o,C⟩:=bU own f n;clear own f n hp;generalize ((M.gF.take k).filter λs=>(R.aD s).isSome)=L at x C hlen ⊢;go_wp2_with (at_builtin;go_loud (refine dV _ rfl _ _ 36 rfl w.heap.size 3 i0 (J V 0) 1 8 underlying36 HI.O D.O E.O F.O rfl aR _ _ _ rfl (x.O.alloc _) ⟨wr.heap.size,0,I⟩ 1 1 [J V k] rfl rfl (fB wr 3 #[J V k]) tk ?c3 ?c4 ?c5 ?_));case c3=>unfold maxLen;omega
    case c4=>omega
    case c5=>simp;omega
    intro v5 w5 p g5 _;have u5:=eT g5;have Y:aC w w5:=(o.O.alloc o.O.size (.cells #[J V k] 3)).trans (u5.below dZ (λi hi=>((x.O.alloc (.cells #[J V k] 3)).lt i hi).1));obtain⟨P,Q⟩:=bu p Y;clear p g5 u5 Y;go_wp2_with fail;go_roundw;case rel=>exact⟨k+1,by go_num,z,by rw[C.O];simpa using P.O,Q.O⟩
    case measure=>simp[bS];omega
  ·have S:k=6:=z;subst S;have q:M.gF.take 6=M.gF:=rfl;rw[q]at own;obtain⟨N,X,rfl⟩:=bA own;have y:Fair.sk wr wr.heap.size N ((M.gF.filter λs=>(R.aD s).isSome).length) (M.gF.filter λs=>(R.aD s).isSome):=DM own;have hlen:(M.gF.filter λs=>(R.aD s).isSome).length<=6:=eE _ _;obtain⟨T,o⟩:=bu (Fair.Dk N _ X _ wr y z) f;clear own f y q hlen;go_wp2_with (go_at_call 132;refine T.O.mono ?_;rintro e w9 ⟨⟨A9,m9,c9,rfl,hm,hx,hw⟩,b9⟩);go_ret;exact⟨⟨_,_,_,rfl,hm,hx,by rw[<-G.O];exact hw.1,λa e=>aP o.O.size (hw.2 a e)⟩,o.O.trans (b9.mono o.O.size)⟩
theorem vY:aF af 74 #[aq (Z ⟨B.g,0,I⟩)] w λe w'=>(∃A m c,e=av (ae A m c)/\m<=c/\c<=maxLen/\Fair.rP w' w'.heap.size A m R.dF)/\aC w w':=(vo h).mono λe w' ⟨⟨A,m,c,a,d,f,i,_⟩,b⟩=>⟨⟨A,m,c,a,d,f,i⟩,b⟩
end
end
section
theorem Jx:(af.info? 91).map (λi=>(i.zero,i.size,i.bytes))=Z (Z (pv (0,0)),2,16):=cC
abbrev zw(o:M.bN):List Value:=[J V o.1,J V o.2]
def ei(R:M.Room)(m:Nat):List M.bN:=(M.eX.take m).filter λo=>(R.az o).isSome
theorem DT(k j:Nat)(a:k<3)(b:j<3):M.eX[3*k+j]? = Z ((k:Int),(j:Int)):=by
 rcases(z:k=0\/k=1\/k=2) with rfl|rfl|rfl<;>rcases(z:j=0\/j=1\/j=2) with rfl|rfl|rfl<;>rfl
theorem Et(R:M.Room)(k j:Nat)(a:k<3)(b:j<3):ei R (3*k+(j+1))=ei R (3*k+j)++if(R.az ((k:Int),(j:Int))).isSome then[((k:Int),(j:Int))] else[]:=by
 unfold ei;rw[show 3*k+(j+1)=(3*k+j)+1 from z,ee,DT k j a b,ju];simp only[Option.toList_some];cases hp:(R.az ((k:Int),(j:Int))).isSome<;>simp[hp]
theorem re(R:M.Room)(m:Nat):(ei R m).length<=9:=aP (eE _ _) (by rw[ix];have:M.eX.length=9:=rfl;omega)
section
variable {B:RB} {R:M.Room} {N:Nat} {w:aw} (h:aL w B R N)
include h
theorem aL.Ea(o:M.bN)(b:Gi o):(cD 55 (.map (Z B.sm)) (pv o) true).run af w=.ok (aB #[((B.sb o).map tS).getD (aq I),ai (R.az o).isSome]) w:=by
 have a:gA KO w B.sm (λs=>(B.sb s).map tS) N:=h.part .az;have c:lX _ (R.az o) (B.sb o):=h.part (.fO o);refine(a.my xM BY o b (Ic w)).trans ?_;rw[c.isSome];cases B.sb o<;>rfl
theorem aL.jU(o:M.bN)(b:Gi o):(cD 55 (.map (Z B.sm)) (pv o) false).run af w=.ok (((B.sb o).map tS).getD (aq I)) w:=by
 have a:gA KO w B.sm (λs=>(B.sb s).map tS) N:=h.part .az;exact a.sW xM BY o b (Ic w)
theorem aL.iB{o:M.bN}{s:M.eu}(b:R.az o=Z s):∃S,B.sb o=Z S/\gh w S R.dA.eJ R.dA.cX s N:=by
 have a:lX _ (R.az o) (B.sb o):=h.part (.fO o);rw[b]at a;exact a.some
theorem qw:aF af 71 #[aq (Z ⟨B.g,0,I⟩)] w λe w'=>∃v,e=av v/\w'.ownsRow w.heap.size 91 2 v (ei R 9).length ((ei R 9).flatMap zw)/\aC w w':=by
 obtain⟨i0,hi,r,t,u⟩:=cY Jx;obtain⟨HI,y,A,C⟩:=cA hi r t u;have m:=h.cw.cell 13;simp at m;have H:=au h;have n:w.ownsRow w.heap.size 91 2 (ae I 0 0) (ei R 0).length ((ei R 0).flatMap zw):=⟨by simp[ei],.inl ⟨rfl,rfl⟩⟩;have T:=ao w.heap.size w;have o:∀W,aC w W->W.cell? ⟨B.g,13,I⟩=Z (.map (Z B.sm)):=λW b=>aM b m;have HC:=au o;have lg:=h.cw.lt;have lm:B.sm<w.heap.size:=(show gA KO w B.sm (λs=>(B.sb s).map tS) N from h.part .az).lt;clear h hi r t u o m;go_enter func71,ntmps71;go_wp2_with fail;go_loopw [3,9] (λa i wr=>∃k:Nat,i=J V k/\k<=3/\wr.ownsRow w.heap.size 91 2 a (ei R (3*k)).length ((ei R (3*k)).flatMap zw)/\aC w wr) (λa i _=>3-(bS i).toNat);case atStart=>exact⟨0,rfl,z,n,T⟩
 case round =>
  clear n T;obtain⟨k,rfl,hk,own,c⟩:=hrel;by_cases D:k<3
  ·have Tf:((k:Int)<3):=z;obtain⟨A',c',rfl⟩:=bA own;obtain⟨d,f⟩:=bu own c;clear own c;go_wp2_with fail;go_loopw [3,12] (λa i wr=>∃j:Nat,i=J V j/\j<=3/\wr.ownsRow w.heap.size 91 2 a (ei R (3*k+j)).length ((ei R (3*k+j)).flatMap zw)/\aC w wr) (λa i _=>3-(bS i).toNat);case atStart=>exact⟨0,rfl,z,d.O,f.O⟩
   case round =>
    clear d f;obtain⟨j,rfl,hj,own,c⟩:=hrel;have Tg:=c.size;by_cases E:j<3
    ·have Ti:((j:Int)<3):=z;have U:=Et R k j D E;have F:=re R (3*k+j);obtain⟨X,c5,rfl⟩:=bA own;have x:aC w (wr.alloc (.cells #[J V k,J V j] 91)):=c.alloc c.size _;have m:=HC.O _ x;have l:=((H.O.below x).below (cd (ao _ _) 1)).Ea ((k:Int),(j:Int)) (ir ⟨by show(-1000000000000:Int)<=k;omega,by show(k:Int)<=1000000000000;omega⟩ ⟨by show(-1000000000000:Int)<=j;omega,by show(j:Int)<=1000000000000;omega⟩);have l:(cD 55 (.map (Z B.sm)) (cg #[J V k,J V j]) true).run af (wr.alloc (.cells #[J V k,J V j] 91)).drew=.ok (aB #[((B.sb ((k:Int),(j:Int))).map tS).getD (aq I),ai (R.az ((k:Int),(j:Int))).isSome]) (wr.alloc (.cells #[J V k,J V j] 91)).drew:=l;generalize ((B.sb ((k:Int),(j:Int))).map tS).getD (aq I)=lv at l;obtain⟨d,f,q⟩:=bU own x U;clear own c x U;cases hp:(R.az ((k:Int),(j:Int))).isSome
     ·rw[hp]at l q;simp only[Bool.false_eq_true,if_false,kE]at q;go_wp2_with fail;go_region;all_goals
       go_wp2_with fail;go_roundw;case rel=>exact⟨j+1,by go_num,z,by rw[q.O];exact d.O.alloc _,by first|exact f.O|exact cd f.O 1⟩
       case measure=>simp[bS];omega
     ·rw[hp]at l q;simp only[if_true]at q;go_wp2_with fail;go_region;all_goals
       obtain⟨r6,G⟩:=dH wr.heap.size;rw[<-G];refine gN (λY=>aK Y r6 91 #[J V k,J V j]/\Y.ownsRow w.heap.size 91 2 (ae X (ei R (3*k+j)).length c5) (ei R (3*k+j)).length ((ei R (3*k+j)).flatMap zw)/\aC w Y) ⟨(aK.newAt _ _ _ _ G).drew,d.O.alloc _,cd f.O 1⟩ ?_;clear G d f l m;rintro Y ⟨K,own,c⟩;have k0:=K.cell 0;have k1:=K.cell 1;simp at k0 k1;have Tj:=c.size;obtain⟨d,f⟩:=bu own c;clear own c K;generalize ei R (3*k+j)=L at d q F ⊢;go_wp2_with (at_builtin;go_loud (refine dV _ rfl _ _ 167 rfl w.heap.size 91 i0 (pv (0,0)) 2 16 underlying167 HI.O y.O A.O C.O rfl aR _ _ _ rfl (d.O.alloc _) ⟨Y.heap.size,0,I⟩ 1 1 (zw ((k:Int),(j:Int))) rfl rfl (fB Y 91 #[J V k,J V j]) tk ?_ ?_ ?_ ?_))
       ·unfold maxLen;omega
       ·omega
       ·simp;omega
       intro v5 w5 p g5 _;have u5:=eT g5;have bb:aC w w5:=(f.O.alloc f.O.size (.cells #[J V k,J V j] 91)).trans (u5.below dZ (λi hi=>((d.O.alloc (.cells #[J V k,J V j] 91)).lt i hi).1));obtain⟨M,P⟩:=bu p bb;clear p g5 u5 bb;go_wp2_with fail;go_roundw;case rel=>exact⟨j+1,by go_num,z,by rw[q.O];simpa using M.O,P.O⟩
       case measure=>simp[bS];omega
    ·have Q:j=3:=z;subst Q;have e3:3*k+3=3*(k+1):=z;rw[e3]at own;obtain⟨X,c5,rfl⟩:=bA own;obtain⟨d,f⟩:=bu own c;clear own c e3;go_wp2_with fail;go_roundw;case rel=>exact⟨k+1,by go_num,z,d.O,f.O⟩
     case measure=>simp[bS];omega
  ·have S:k=3:=z;subst S;obtain⟨A',c',rfl⟩:=bA own;obtain⟨d,f⟩:=bu own c;clear own c;go_wp2_with fail;go_ret;exact⟨_,rfl,d.O,f.O⟩
end
end
def NA:(af.info? 284).map (·.size)=Z 8:=cC
def NB:(af.info? 277).map (·.size)=Z 5:=cC
def Nz:(af.info? 286).map (·.size)=Z 3:=cC
def qv:(af.info? 288).map (·.size)=Z 17:=cC
def ux{fn:Func}{c s:Tmp}{t:TypeId}(h:fn.results=#[.cell c t,.tmp s])(tmps:Array Value)(P:Program)(w:aw){g:Nat}{te:TypeId}{dx:Array Value}{d:TypeDesc}(b:aK w g te dx)(f:tmps[c]?.getD undef=aq (Z ⟨g,0,I⟩))(hu:P.underlying t=Z d)(i:d.isRow=true)(a:(P.info? t).map (·.size)=Z dx.size){v:Value}(k:tmps[s]?.getD undef=v) :
  (aV fn tmps).run P w=.ok (aB #[cg dx,v]) w:=by
 have e:=run_loadVar_mid (P:=P) w g 0 t dx.toList d (λj u l=>by rw[cO,b.cell];simpa using l) hu i (by simpa using a);simp only[Array.toArray_toList]at e;subst k;simp[aV,h,f,asAddr,e]
def mH(w:aw)(v:Value)(l:List Int):Prop:=∃(A:Option Addr) (c:Nat),v=ae A l.length c/\l.length<=c/\c<=maxLen/\l.length<=30/\(0<l.length->∃g dx,A=Z ⟨g,0,I⟩/\aK w g 396 dx/\∀(i:Nat) (x:Int),l[i]? = Z x->dx[i*2]? = Z (J ar x)/\∃y,dx[i*2+1]? = Z (J bI y))
def mH.map{w w':aw}{v:Value}{l:List Int}(h:mH w v l)(hm:∀g dx,aK w g 396 dx->aK w' g 396 dx):mH w' v l:=by
 obtain⟨A,c,h1,h2,h3,h4,h5⟩:=h;exact⟨A,c,h1,h2,h3,h4,λq=>by obtain⟨g,dx,e,a,k⟩:=h5 q;exact⟨g,dx,e,hm g dx a,k⟩⟩
def mH.nil(w:aw):mH w (ae I 0 0) []:=⟨I,0,rfl,aj _,gG _,gG _,λh=>absurd h dt⟩
def mH.own{w:aw}{base:Nat}{v:Value}{l:List Int}{q:List (List Value)}(own:w.ownsRow base 396 2 v l.length q.flatten)(fit:Fit BQ l q)(a:l.length<=30):mH w v l:=by
 have d:∀c∈q,c.length=2:=fit.len (R:=BQ) (λx c h=>by obtain⟨_,y,rfl⟩:=h;rfl);by_cases h0:0<l.length
 ·obtain⟨g,cap,dx,e,_,h2,h3,f,_,h4⟩:=Cz own d h0;refine⟨_,cap,e,h2,h3,a,λ_=>⟨g,dx,rfl,f,λi x j=>?_⟩⟩;obtain⟨c,b,_,y,rfl⟩:=fit.get j;exact⟨(h4 i _ b 0 z).trans rfl,y,(h4 i _ b 1 z).trans rfl⟩
 ·rcases own.2 with⟨e,_⟩ | ⟨g,cap,dx,e,_,_,h2,h3,_⟩
  ·have:l.length=0:=z;subst e;exact⟨I,0,by rw[this],z,ui,a,λq=>absurd q h0⟩
  ·exact⟨_,cap,e,h2,h3,a,λq=>absurd q h0⟩
abbrev qY(e:Int)(f:Bool)(g h i j k l:Int)(rv:Sl)(m o p:Int)(q:Value)(b:Sl)(r s:Int)(d:Sl):List Value:=[J V e,ai f,J ar g,J ar h,J ar i,J ar j,J ar k,J ar l,ae rv.a rv.n rv.c,J V m,J ar o,J ar p,q,ae b.a b.n b.c,J bI r,J bI s,ae d.a d.n d.c]
def mE(w:aw)(l:List Int)(c:List Value):Prop:=∃(d:Int) (f:Bool) (g h i j k m:Int) (rv:Sl) (a n b:Int) (e:Value) (o:Sl) (p q:Int) (r:Sl) (dJ:List Int),c=qY d f g h i j k m rv a n b e o p q r/\mH w e dJ/\l=(if d=2 then(if a=1 then[b] else if a=2 then dJ else[]) else[])/\(Lit.int ar b).wf=true
def mE.map{w w':aw}{l:List Int}{c:List Value}(h:mE w l c)(hm:∀g dx,aK w g 396 dx->aK w' g 396 dx):mE w' l c:=by
 obtain⟨a,b,d,e,f,i,j,k,rv,m,n,o,p,q,r,s,t,dJ,h1,h2,h3⟩:=h;exact⟨a,b,d,e,f,i,j,k,rv,m,n,o,p,q,r,s,t,dJ,h1,h2.map hm,h3⟩
def mE.one{w:aw}{l:List Int}{c:List Value}(h:mE w l c):∀u∈c,u.oneCell'=true:=by
 obtain⟨a,b,d,e,f,g,i,j,rv,k,m,o,p,q,r,s,t,dJ,rfl,⟨A,n,rfl,_⟩,_⟩:=h;intro u hu;simp at hu;repeat (first|(subst hu;rfl)|(rcases hu with rfl|hu;rfl))
def mE.len{w:aw}{l:List Int}{c:List Value}(h:mE w l c):c.length=17:=by
 obtain⟨a,b,d,e,f,g,i,j,rv,k,m,n,o,p,q,r,s,dJ,rfl,_⟩:=h;rfl
def mE.SD{w:aw}{l:List Int}{c:List Value}(h:mE w l c):l.length<=30:=by
 obtain⟨a,b,d,e,f,g,i,j,rv,k,m,n,o,p,q,r,s,dJ,_,⟨_,_,_,_,_,h4,_⟩,rfl,_⟩:=h;split
 ·split
  ·simp
  ·split
   ·exact h4
   ·simp
 ·simp
def Nd(w:aw)(it:List Int×Int)(e:Ending)(w':aw):Prop:=(∃cs:List Value,e=av (aB #[cg cs.toArray,J V it.2])/\mE w' it.1 cs)/\aC w w'
def Gz(count type:Int)(b:Sl)(xs:M.cQ)(w:aw)(hb:b.B w xs)(hn:b.n<=200)(hc:0<=count/\count<=31) :
  aF af 226 #[cg #[J bI count,J bI type,ae b.a b.n b.c]] w (Nd w (M.jO ⟨count,type,xs⟩)):=by
 obtain⟨it,hit⟩:=dH (M.jO ⟨count,type,xs⟩);rw[<-hit];obtain⟨Tg,o,HN,HC⟩:=cA hit hb hn hc;clear hb hit hn hc;go_enter func226,ntmps226;go_upto_region 1 with fail;obtain⟨r1,e1⟩:=dH w.heap.size;obtain⟨r2,e2⟩:=dH (w.heap.size+1);rw[<-e2,<-e1];have g2:w.heap.size<=r2:=z;have s:aC w ((w.alloc (.cells #[J bI count,J bI type,ae b.a b.n b.c] 286)).alloc (.cells #[J V 0,ai false,J ar 0,J ar 0,J ar 0,J ar 0,J ar 0,J ar 0,ae I 0 0,J V 0,J ar 0,J ar 0,ae I 0 0,ae I 0 0,J bI 0,J bI 0,ae I 0 0] 288)):=((ao _ w).alloc (aj _) _).alloc dt _;refine aW (λX=>aK X r1 286 #[J bI count,J bI type,ae b.a b.n b.c]/\aK X r2 288 #[J V 0,ai false,J ar 0,J ar 0,J ar 0,J ar 0,J ar 0,J ar 0,ae I 0 0,J V 0,J ar 0,J ar 0,ae I 0 0,ae I 0 0,J bI 0,J bI 0,ae I 0 0]/\b.B X xs/\aC w X) ⟨(aK.newAt _ _ _ _ e1).alloc _,aK.newAt _ _ _ _ (by simp[e2]),o.O.below s,s⟩ ?_;clear e1 e2 s o;rintro X ⟨b1,b2,hb,fN⟩;have k0:=b1.cell 0;have k1:=b1.cell 1;have k2:=b1.cell 2;simp at k0 k1 k2;obtain⟨p,k,o,d⟩:=cA b1 b2 hb fN;clear b1 b2 hb fN;obtain⟨rp,Ti⟩:=dH ((type==200||type==201):Bool);have E:=au Ti;clear Ti;go_cut [15] (λv wc=>v=ai rp/\wc=X);case first =>
  cases h2:(type==200) with
  |true =>
   have hz:rp=true:=by rw[E.O,h2];rfl
   have HZ:=au hz;clear hz;go_wp2_with fail;go_meet;exact⟨by rw[HZ.O],rfl⟩
  |false =>
   have hz:rp=(type==201):=by rw[E.O,h2];rfl
   have HZ:=au hz;clear hz;go_wp2_with fail;go_meet;exact⟨by rw[HZ.O],rfl⟩
 case rest =>
 obtain⟨rfl,rfl⟩:=hcut;cases rp with
 |true =>
  have ht:type=200\/type=201:=by have:=E.O;simpa using this.symm
  have he:it=([],M.nN ⟨count,type,xs⟩):=by rw[Tg.O];unfold M.jO;rw[if_pos ht]
  obtain⟨t,HE⟩:=bu (FT count type b xs wc o.O HN.O HC.O ht) he;clear he ht;go_upto_region 3 with(go_big_may;go_at_call 273;refine t.O.mono ?_;rintro e w1 ⟨⟨F,G,H,K,L,N,P,v,rfl⟩,bw⟩;have r:=au bw;clear bw)
  obtain⟨r4,e4⟩:=dH w1.heap.size;rw[<-e4];have s:aC wc (w1.alloc (.cells #[ai F,J ar G,J ar H,J ar K,J ar L,J ar N,J ar P,ae v.a v.n v.c] 284)):=r.O.alloc r.O.size _;refine aW (λY=>aK Y r4 284 #[ai F,J ar G,J ar H,J ar K,J ar L,J ar N,J ar P,ae v.a v.n v.c]/\aK Y r1 286 #[J bI count,J bI type,ae b.a b.n b.c]/\aK Y r2 288 #[J V 0,ai false,J ar 0,J ar 0,J ar 0,J ar 0,J ar 0,J ar 0,ae I 0 0,J V 0,J ar 0,J ar 0,ae I 0 0,ae I 0 0,J bI 0,J bI 0,ae I 0 0]/\aC w Y) ⟨aK.newAt _ _ _ _ e4,p.O.kept s,k.O.kept s,d.O.trans (s.mono d.O.size)⟩ ?_;clear e4 s p k o d r t k0 k1 k2 wc;rintro Y ⟨b4,b1,b2,fN⟩;obtain⟨Tl,p,k,d⟩:=cA b4 b1 b2 fN;clear b4 b1 b2 fN;have f:∀l∈(#[J V 1,ai F,J ar G,J ar H,J ar K,J ar L,J ar N,J ar P,ae v.a v.n v.c,J V 0,J ar 0,J ar 0,ae I 0 0,ae I 0 0,J bI 0,J bI 0,ae I 0 0]:Array Value).toList,l.oneCell'=true:=by intro u hu;simp at hu;repeat (first|(subst hu;rfl)|(rcases hu with rfl|hu;rfl))
  have m:=au f;clear f;go_wp2_with (first|(refine lI _ rfl (.tmp 4) 284 rfl r4 0 284 _ rfl #[ai F,J ar G,J ar H,J ar K,J ar L,J ar N,J ar P,ae v.a v.n v.c] _ underlying284 NA Tl.O (λj _=>by rw[cO]) ?_)|(refine jb _ rfl (.tmp 2) (.tmp 22) 288 rfl r2 0 288 #[J V 0,ai false,J ar 0,J ar 0,J ar 0,J ar 0,J ar 0,J ar 0,ae I 0 0,J V 0,J ar 0,J ar 0,ae I 0 0,ae I 0 0,J bI 0,J bI 0,ae I 0 0] rfl #[J V 1,ai F,J ar G,J ar H,J ar K,J ar L,J ar N,J ar P,ae v.a v.n v.c,J V 0,J ar 0,J ar 0,ae I 0 0,ae I 0 0,J bI 0,J bI 0,ae I 0 0] rfl qv k.O (aj _) m.O ?_;intro x y u16));go_wp2_with fail;have A:aK x r2 288 #[J V 1,ai F,J ar G,J ar H,J ar K,J ar L,J ar N,J ar P,ae v.a v.n v.c,J V 0,J ar 0,J ar 0,ae I 0 0,ae I 0 0,J bI 0,J bI 0,ae I 0 0]:=y;refine ax (v:=aB #[cg #[J V 1,ai F,J ar G,J ar H,J ar K,J ar L,J ar N,J ar P,ae v.a v.n v.c,J V 0,J ar 0,J ar 0,ae I 0 0,ae I 0 0,J bI 0,J bI 0,ae I 0 0],J V (M.nN ⟨count,type,xs⟩)]) (ux results226 _ _ _ A rfl underlying288 rfl qv rfl) rfl ?_;have d16:=d.O.trans (u16.below d.O.size (λi q=>by cases q;exact g2));exact⟨⟨#[J V 1,ai F,J ar G,J ar H,J ar K,J ar L,J ar N,J ar P,ae v.a v.n v.c,J V 0,J ar 0,J ar 0,ae I 0 0,ae I 0 0,J bI 0,J bI 0,ae I 0 0].toList,by have l:=HE.O;subst l;rfl,⟨1,F,G,H,K,L,N,P,v,0,0,0,_,.nil,0,0,.nil,[],rfl,mH.nil _,by have l:=HE.O;subst l;first|rfl|simp,by rfl⟩⟩,d16⟩
 |false =>
  have ht:¬(type=200\/type=201):=by have:=E.O;simpa using this.symm
  obtain⟨W,Tf⟩:=dH (M.nu ⟨count,type,xs⟩);have he:it=if W.2=5 then([],0) else(if W.1.kind=1 then[W.1.zA] else if W.1.kind=2 then W.1.dJ else[],W.2):=by rw[Tg.O,Tf];unfold M.jO;rw[if_neg ht]
  have hf:=MI count type b xs wc o.O HN.O HC.O;rw[<-Tf]at hf;obtain⟨t,HE⟩:=bu hf he;clear he ht hf Tf;obtain⟨⟨Q,R,C⟩,er⟩:=W;go_upto_region 5 with(go_big_may;go_at_call 274;refine t.O.mono ?_;rintro e w1 ⟨⟨S,fa,u,q,rfl,own,fit,Tj,wf⟩,bw⟩;have r:=au bw;have T:=au (mH.own own fit Tj);have Tm:=au wf;obtain⟨U,c5,rfl⟩:=bA own;clear bw own fit Tj wf)
  obtain⟨r6,e6⟩:=dH w1.heap.size;rw[<-e6];have s:aC wc (w1.alloc (.cells #[J V Q,J ar S,J ar R,ae U C.length c5,ae u.a u.n u.c] 277)):=r.O.alloc r.O.size _;refine aW (λY=>aK Y r6 277 #[J V Q,J ar S,J ar R,ae U C.length c5,ae u.a u.n u.c]/\aK Y r1 286 #[J bI count,J bI type,ae b.a b.n b.c]/\aK Y r2 288 #[J V 0,ai false,J ar 0,J ar 0,J ar 0,J ar 0,J ar 0,J ar 0,ae I 0 0,J V 0,J ar 0,J ar 0,ae I 0 0,ae I 0 0,J bI 0,J bI 0,ae I 0 0]/\aC w Y/\mH Y (ae U C.length c5) C) ⟨aK.newAt _ _ _ _ e6,p.O.kept s,k.O.kept s,d.O.trans (s.mono d.O.size),T.O.map (λg dx h=>h.alloc _)⟩ ?_;clear e6 s p k o d r t k0 k1 k2 T wc;rintro Y ⟨b6,b1,b2,fN,Tk⟩;obtain⟨Tn,p,k,d,T⟩:=gY b6 b1 b2 fN Tk;clear b6 b1 b2 fN Tk;by_cases h5:er=5
  ·subst h5;have he:it=([],0):=HE.O;have D:=au he;clear he;have f:∀l∈(#[J V 3,ai false,J ar 0,J ar 0,J ar 0,J ar 0,J ar 0,J ar 0,ae I 0 0,J V 0,J ar 0,J ar 0,ae I 0 0,ae I 0 0,J bI count,J bI type,ae b.a b.n b.c]:Array Value).toList,l.oneCell'=true:=by intro u hu;simp at hu;repeat (first|(subst hu;rfl)|(rcases hu with rfl|hu;rfl))
   have m:=au f;clear f;go_wp2_with (first|(refine lI _ rfl (.tmp 1) 286 rfl r1 0 286 _ rfl #[J bI count,J bI type,ae b.a b.n b.c] _ underlying286 Nz p.O (λj _=>by rw[cO]) ?_)|(refine jb _ rfl (.tmp 2) (.tmp 32) 288 rfl r2 0 288 #[J V 0,ai false,J ar 0,J ar 0,J ar 0,J ar 0,J ar 0,J ar 0,ae I 0 0,J V 0,J ar 0,J ar 0,ae I 0 0,ae I 0 0,J bI 0,J bI 0,ae I 0 0] rfl #[J V 3,ai false,J ar 0,J ar 0,J ar 0,J ar 0,J ar 0,J ar 0,ae I 0 0,J V 0,J ar 0,J ar 0,ae I 0 0,ae I 0 0,J bI count,J bI type,ae b.a b.n b.c] rfl qv k.O (aj _) m.O ?_;intro x y u16));go_wp2_with fail;have A:aK x r2 288 #[J V 3,ai false,J ar 0,J ar 0,J ar 0,J ar 0,J ar 0,J ar 0,ae I 0 0,J V 0,J ar 0,J ar 0,ae I 0 0,ae I 0 0,J bI count,J bI type,ae b.a b.n b.c]:=y;refine ax (v:=aB #[cg #[J V 3,ai false,J ar 0,J ar 0,J ar 0,J ar 0,J ar 0,J ar 0,ae I 0 0,J V 0,J ar 0,J ar 0,ae I 0 0,ae I 0 0,J bI count,J bI type,ae b.a b.n b.c],J V 0]) (ux results226 _ _ _ A rfl underlying288 rfl qv rfl) rfl ?_;have d16:=d.O.trans (u16.below d.O.size (λi q=>by cases q;exact g2));exact⟨⟨#[J V 3,ai false,J ar 0,J ar 0,J ar 0,J ar 0,J ar 0,J ar 0,ae I 0 0,J V 0,J ar 0,J ar 0,ae I 0 0,ae I 0 0,J bI count,J bI type,ae b.a b.n b.c].toList,by have l:=D.O;subst l;rfl,⟨3,false,0,0,0,0,0,0,.nil,0,0,0,_,.nil,count,type,b,[],rfl,mH.nil _,by have l:=D.O;subst l;first|rfl|simp,by rfl⟩⟩,d16⟩
  ·have To:(er==5)=false:=by simpa using h5
   have he:=HE.O;rw[if_neg h5]at he;have D:=au he;clear he h5;have f:∀l∈(#[J V 2,ai false,J ar 0,J ar 0,J ar 0,J ar 0,J ar 0,J ar 0,ae I 0 0,J V Q,J ar S,J ar R,ae U C.length c5,ae u.a u.n u.c,J bI 0,J bI 0,ae I 0 0]:Array Value).toList,l.oneCell'=true:=by intro u hu;simp at hu;repeat (first|(subst hu;rfl)|(rcases hu with rfl|hu;rfl))
   have m:=au f;clear f;go_wp2_with (first|(refine lI _ rfl (.tmp 6) 277 rfl r6 0 277 _ rfl #[J V Q,J ar S,J ar R,ae U C.length c5,ae u.a u.n u.c] _ underlying277 NB Tn.O (λj _=>by rw[cO]) ?_)|(refine jb _ rfl (.tmp 2) (.tmp 34) 288 rfl r2 0 288 #[J V 0,ai false,J ar 0,J ar 0,J ar 0,J ar 0,J ar 0,J ar 0,ae I 0 0,J V 0,J ar 0,J ar 0,ae I 0 0,ae I 0 0,J bI 0,J bI 0,ae I 0 0] rfl #[J V 2,ai false,J ar 0,J ar 0,J ar 0,J ar 0,J ar 0,J ar 0,ae I 0 0,J V Q,J ar S,J ar R,ae U C.length c5,ae u.a u.n u.c,J bI 0,J bI 0,ae I 0 0] rfl qv k.O (aj _) m.O ?_;intro x y u16));go_wp2_with fail;have A:aK x r2 288 #[J V 2,ai false,J ar 0,J ar 0,J ar 0,J ar 0,J ar 0,J ar 0,ae I 0 0,J V Q,J ar S,J ar R,ae U C.length c5,ae u.a u.n u.c,J bI 0,J bI 0,ae I 0 0]:=y;refine ax (v:=aB #[cg #[J V 2,ai false,J ar 0,J ar 0,J ar 0,J ar 0,J ar 0,J ar 0,ae I 0 0,J V Q,J ar S,J ar R,ae U C.length c5,ae u.a u.n u.c,J bI 0,J bI 0,ae I 0 0],J V er]) (ux results226 _ _ _ A rfl underlying288 rfl qv rfl) rfl ?_;have d16:=d.O.trans (u16.below d.O.size (λi q=>by cases q;exact g2));exact⟨⟨#[J V 2,ai false,J ar 0,J ar 0,J ar 0,J ar 0,J ar 0,J ar 0,ae I 0 0,J V Q,J ar S,J ar R,ae U C.length c5,ae u.a u.n u.c,J bI 0,J bI 0,ae I 0 0].toList,by have l:=D.O;subst l;rfl,⟨2,false,0,0,0,0,0,0,.nil,Q,S,R,_,u,0,0,.nil,C,rfl,T.O.map (λg dx h=>(h.dW u16 (aK.jf h k.O aR))),by have l:=D.O;subst l;first|rfl|simp,Tm.O⟩⟩,d16⟩
end Go.Proofs.YtkfblammcilfhaaGreatDoor
