import Derived.Shelf.Strings.Builder1
import Derived.Shelf.Strings.Builder2
import Derived.Shelf.Strings.OnBuilder
import Derived.Shelf.Small.Bits
import Derived.Shelf.Small.Wraps
import Derived.Shelf.Strings.BuilderF
import Derived.Shelf.Strings.BuilderK
import Derived.Shelf.Utf8.RuneCount
import Derived.Shelf.Strings.Builder2Cap
import Derived.Shelf.Strconv.Itoa0
import Derived.Shelf.Strconv.Itoa1
import Derived.Shelf.LaysM
import Derived.Shelf.Strconv.Itoa2
import Derived.Shelf.Strconv.Itoa3
import Derived.Shelf.Strings.Search1
import Derived.Shelf.Strings.Search2
import Derived.Shelf.Strings.Search3
import Derived.Shelf.Strings.Count
import Derived.Shelf.Strings.Shaped
import Derived.Shelf.Sort.Plain
import Derived.Shelf.Strings.Split
import Derived.Shelf.Strings.SplitShaped
import Derived.Shelf.Unicode.Decode
import Derived.Shelf.Strings.RuneCount
import Derived.Shelf.Strings.Explode
import Derived.Shelf.Unicode.DecodeSlow
import Derived.Shelf.Unicode.DecodeAny
import Derived.Shelf.Slices.Turned
import Derived.Shelf.Slices.SearchI
import Derived.Shelf.Slices.In.SortNone
import Derived.Shelf.SlicesE.Clone
import Derived.Laws.StructEq
import Derived.Laws.IdiomStrings
import Derived.Defers
import Derived.Recover
import Derived.Test.YtkfblammcilfhaaGreatDoorP0
set_option linter.all false
set_option maxRecDepth 100000
set_option maxHeartbeats 100000000
open Go.ChangeShapes Go.WideShapes Go.ChangeAt Go.RowKit Go.Proofs.Tryz
open Go.IntKind renaming u64->nS,i64->V,u8->bI
open Go.Shelf renaming Ren->oG
open Go.Proofs.Tryz renaming prog->af,isAgg0->pS,sizeOf0->oL,zeroValue0->ma,isAgg3->pR,sizeOf3->oK,zeroValue3->l8,isAgg9->pP,sizeOf9->oI,zeroValue9->lY,sizeOf38->sP,zeroValue38->pB,isAgg5->pQ,sizeOf5->oJ,zeroValue5->lZ,isAgg4->sE,sizeOf4->qF,zeroValue4->nz,zeroValue20->tC,isAgg370->sQ,sizeOf370->rI,zeroValue370->oH,sizeOf41->sO,zeroValue41->pA,zeroValue197->sD
open Go renaming World->aw,Calls->aF,run_underlying->oE
open Go.Lib renaming join->mb,byteCells->gD,countB->gz
open Go.Value renaming int->J,slice->ae,pointer->aq,tuple->aB,agg->cg
open Nat renaming le_refl->aj,zero_le->gG
open List renaming foldl_cons->eN,mem_append->bt,getElem_mem->dy,take_succ_eq_append_getElem->dK
open Bool renaming false_eq_true->cB
open Go.Op renaming equalIn->pC
open Go.Result renaming andThen_ok->kR
open Go.Ending renaming returned->av
open Or renaming inl->aJ,inr->aZ
open Option renaming none->I,some->Z
namespace Go.Proofs.YtkfblammcilfhaaGreatDoor
namespace M
structure yy where
 high:Int
 bits:Int
 deriving DecidableEq
def CL(n:Int)(k:Nat):Int:=Go.bits .or .u64 (Go.bits .andNot .u64 n (nS.wrap (2 ^ k))) (Go.bits .and .u64 (nS.wrap (2 ^ k)) (nS.wrap (2 ^ k)))
def yy.mark(w:yy)(n:Int):yy:=
 if 63<n-w.high then⟨n,1⟩ else if 0<n-w.high then⟨n,Go.bits .or .u64 (nS.wrap (w.bits*2 ^ (n-w.high).toNat)) 1⟩
 else if -63<=n-w.high then⟨w.high,CL w.bits (-(n-w.high)).toNat⟩ else w
def yy.has(w:yy)(n:Int):Bool:=decide (w.high-63<=n)&&decide (w.mark n=w)
structure js where
 bO:Int
 jv:Int
 id:Nat
structure mf where
 bD:List js
 begun:Bool
 out:yy
def mf.new:mf:=⟨[],false,⟨0,0⟩⟩
def mf.push(b:mf)(aG n now:Int)(id:Nat):mf×Int:=
 if b.bD.any (λh=>h.bO==n)||(b.begun&&b.out.has n) then(b,10)
 else if b.begun&&decide (n<b.out.high+1) then(b,9)
 else if aG<=b.bD.length then(b,8)
 else({ b with bD:=b.bD.takeWhile (λh=>decide (h.bO<=n))++⟨n,now,id⟩::b.bD.dropWhile (λh=>decide (h.bO<=n)) },0)
def mf.ready(b:mf)(aG cX now:Int):Bool:=
 match b.bD with
 |[]=>false
 |h::_=>!b.begun||h.bO==b.out.high+1||decide (aG<=b.bD.length)||b.bD.any (λh=>decide (cX<=now-h.jv))
def mf.least(b:mf):mf:=
 match b.bD with
 |[]=>b
 |h::r=>⟨r,true,if b.begun then b.out.mark h.bO else⟨h.bO,1⟩⟩
def mf.iu:Nat->mf->mf
 |0,b=>b
 |k+1,b=>mf.iu k b.least
structure Item where
 id:Nat
 aY:Int
 key:Bool
 bW:cR
structure Qd where
 bJ:Int
 dQ:Int
 aU:Int
 any:Bool
 fH:Int
 shift:Int
structure dP where
 cK:List Item
 bF:List (Item×Bool)
 ready:List (Nat×cQ)
 fF:List (Nat×cQ)
 wanted:Bool
 dx:Int
 fh:Int
 mv:Qd
 row:Int
 eG:Bool
def dP.new(own dQ aU:Int):dP:=⟨[],[],[],[],false,0,0,⟨own,dQ,aU,false,0,0⟩,0,false⟩
def there(aY:Int):Bool:=decide (0<=aY)&&decide (aY<3)
def push{α:Type}(aG:Nat)(q:List α)(x:α):List α:=if q.length=aG then q.tail++[x] else q++[x]
def dP.iy(l:dP)(aY:Int):dP×Int:=
 if !there aY then(l,1) else if l.eG then(l,7)
 else({ l with wanted:=true,dx:=if l.wanted then l.dx else -1,fh:=aY },0)
def dP.pending(l:dP):Bool:=l.dx !=l.fh
def dP.put(l:dP)(aG:Nat)(x:Item):dP×Option Nat:=
 if !(there x.aY&&x.bW.right)||l.eG || !l.wanted then(l,I)
 else({ l with cK:=push aG l.cK x },if l.cK.length=aG then l.cK.head?.map (·.id) else I)
def dP.nO(l:dP)(aG:Nat):Bool:=decide (0<l.cK.length) && !decide (l.bF.length=aG)
def take(dx fh aY:Int)(key:Bool):Int×Int×Bool:=
 if aY≠dx/\aY=fh/\key=true then(aY,0,true)
 else if aY=dx then(dx,0,false)
 else if aY=fh then(dx,5,false)
 else(dx,4,false)
def dP.gJ(l:dP):dP×Nat×Int:=
 match l.cK with
 |[]=>(l,0,0)
 |x::r =>
  let (dx,sJ,first):=take l.dx l.fh x.aY x.key
  ({ l with cK:=r,dx:=dx,bF:=if sJ=0 then l.bF++[(x,first)] else l.bF },x.id,sJ)
def dO(s:Qd)(p:cR)(first:Bool):Qd×cR:=
 let shift:=if !s.any then(s.aU-p.aU) % 4294967296 else if first then(s.fH+3000-p.aU) % 4294967296 else s.shift
 let aU:=(p.aU+shift) % 4294967296
 (⟨s.bJ,(s.dQ+1) % 65536,s.aU,true,aU,shift⟩,{ p with bJ:=s.bJ,dQ:=s.dQ,aU:=aU })
def dP.eO(l:dP)(aG:Nat):dP×Option Nat:=
 match l.bF with
 |[]=>(l,I)
 |(x,first)::r =>
  let (mv,p):=dO l.mv x.bW first
  ({ l with bF:=r,mv:=mv,ready:=push aG l.ready (x.id,(ic p).1) },if l.ready.length=aG then l.ready.head?.map (·.1) else I)
def dP.write(l:dP)(aT:Int)(fq:Bool):dP×Nat×Int:=
 match l.ready with
 |[]=>(l,0,0)
 |x::r =>
  let l1:=if fq then { l with ready:=r,fF:=l.fF++[x] } else l
  if l.eG then(l1,x.1,if fq then 1 else 0)
  else if fq then({ l1 with row:=0 },x.1,1)
  else if l.row+1=aT then({ l1 with row:=l.row+1,eG:=true,cK:=[],bF:=[],ready:=[] },x.1,7)
  else({ l1 with row:=l.row+1 },x.1,0)
structure Ask where
 wanted:Bool
 any:Bool
 fH:Int
 gB:Int
def En(ek:Int):Nat->Int->Int
 |0,g=>g
 |k+1,g=>if g<1\/ek<=g then g else En ek k (g*2)
def QT(eA ek gB:Int):Int:=min (En ek (gB-1).toNat eA) ek
def iK(eA ek:Int)(s:Ask)(wanted:Bool)(now:Int):Ask×Bool:=
 let gB:=if !wanted || !s.wanted then 0 else s.gB
 if !wanted||(s.any&&decide (now-s.fH<QT eA ek gB)) then(⟨wanted,s.any,s.fH,gB⟩,false)
 else(⟨wanted,true,now,gB+1⟩,true)
abbrev bN:=Int×Int
abbrev eK:=Int×Int
structure Ou where
 aG:Nat
 eJ:Int
 cX:Int
 eA:Int
 ek:Int
 aT:Int
structure eu where
 bQ:mf
 any:Bool
 dv:Int
 dJ:Ask
 jc:Bool
structure Sub where
 own:Int
 cL:Bool
 jo:Int
structure kM where
 origin:bN
 bO:Int
 bW:cR
structure Request where
 origin:bN
 at_:Int
 body:cQ
structure nH where
 jw:Int
 cI:Int
 gR:Int
 ff:Int
 fP:Int
 deriving DecidableEq
structure Room where
 dA:Ou
 cN:Bool
 returned:List eK
 cJ:Int
 dm:List cQ
 cW:Int->Option bN
 aQ:bN->Option Int
 bh:Int->Option Sub
 aD:Int->Option dP
 az:bN->Option eu
 aO:List kM
 cj:List Request
 bp:nH
 di:Int->Nat->Option Int
def set{α β:Type}[DecidableEq α](f:α->β)(k:α)(v:β):α->β:=λx=>if x=k then v else f x
def eu.new:eu:=⟨.new,false,0,⟨false,false,0,0⟩,false⟩
def Room.new(c:Ou):Room:=⟨c,false,[],0,[],λ_=>I,λ_=>I,λ_=>I,λ_=>I,λ_=>I,[],[],⟨0,0,0,0,0⟩,λ_ _=>I⟩
def jr(aG eJ cX eA ek aT:Int):Bool:=
 (decide (1<=aG)&&decide (aG<=8))&&((decide (1<=eJ)&&decide (eJ<=8))&&(decide (0<=cX)&&decide (cX<=1000))) &&
  ((decide (1<=eA)&&(decide (eA<=ek)&&decide (ek<=1000)))&&(decide (1<=aT)&&decide (aT<=10)))
def mB(p:Int):Bool:=decide (0<=p)&&decide (p<3)
def fY(p:Int):Bool:=decide (0<=p)&&decide (p<6)
def gF:List Int:=[0,1,2,3,4,5]
def eX:List bN:=[(0,0),(0,1),(0,2),(1,0),(1,1),(1,2),(2,0),(2,1),(2,2)]
def Room.gg(r:Room)(jo s0 s1 s2:Int):Room×Int:=
 if r.cN then(r,7) else if !mB jo then(r,1)
 else if s1=s0\/s2=s0\/s2=s1 then(r,1)
 else if(r.aQ (jo,0)).isSome then(r,6)
 else if(r.cW s0).isSome\/(r.cW s1).isSome\/(r.cW s2).isSome then(r,6)
 else({ r with
  cW:=set (set (set r.cW s0 (Z (jo,0))) s1 (Z (jo,1))) s2 (Z (jo,2))
  aQ:=set (set (set r.aQ (jo,0) (Z s0)) (jo,1) (Z s1)) (jo,2) (Z s2)
  az:=set (set (set r.az (jo,0) (Z .new)) (jo,1) (Z .new)) (jo,2) (Z .new) },0)
def Room.iJ(r:Room)(sub own dQ aU:Int):Room×Int:=
 if r.cN then(r,7) else if !fY sub then(r,1) else if(r.bh sub).isSome then(r,6)
 else({ r with bh:=set r.bh sub (Z ⟨own,false,0⟩),aD:=set r.aD sub (Z (.new own dQ aU)) },0)
def Room.eG(r:Room)(sub:Int):Bool:=match r.aD sub with | some l=>l.eG | none=>false
def Room.of(r:Room)(sub:Int):Option Int:=match r.bh sub with | some s=>if s.cL then Z s.jo else I | none=>I
def Room.fj(r:Room)(sub aY:Int):Room×Int:=
 match r.aD sub with
 |some l=>({ r with aD:=set r.aD sub (Z (l.iy aY).1) },(l.iy aY).2)
 |none=>(r,0)
def Room.dN(r:Room)(sub jo aY:Int):Room×Int:=
 if r.cN then(r,7) else if !there aY then(r,1) else if r.eG sub then(r,5)
 else if !fY sub || !mB jo then(r,1)
 else match r.bh sub with
  |none=>(r,5)
  |some s=>if !(r.aQ (jo,0)).isSome then(r,5) else if s.cL then(r,6)
   else Room.fj { r with bh:=set r.bh sub (Z ⟨s.own,true,jo⟩) } sub aY
def Room.iy(r:Room)(sub aY:Int):Room×Int:=
 if r.cN then(r,7) else if !fY sub || !there aY then(r,1)
 else if(r.of sub).isNone then(r,5) else r.fj sub aY
def Room.ji(r:Room)(sub sJ:Int):Room:={ r with di:=set r.di sub λid=>if r.di sub id=Z 0 then Z sJ else r.di sub id }
def Room.jE(r:Room)(sub:Int):Room×Int:=
 if r.cN then(r,7) else if !fY sub then(r,1) else if(r.bh sub).isNone then(r,5)
 else({ (r.ji sub 7) with bh:=set r.bh sub I,aD:=set r.aD sub I },0)
def Room.fT(r:Room)(b:cQ):Room×Int:=
 if r.cN then(r,7)
 else({ r with dm:=push r.dA.aG r.dm b,bp:=if r.dm.length=r.dA.aG then { r.bp with jw:=r.bp.jw+1 } else r.bp },0)
def Room.fU(r:Room):Room×Int:=if r.cN then(r,7) else({ r with cN:=true },0)
def Room.ik(r:Room)(jo:Int):List Int:=gF.filter λs=>match r.bh s with | some x=>x.cL&&decide (x.jo=jo) | none=>false
def Room.pj(r:Room)(own:Int):List Int:=gF.filter λs=>match r.bh s with | some x=>decide (x.own=own) | none=>false
def Room.bR(r:Room)(sub:Int)(id:Nat)(sJ:Int):Room:=
 if r.di sub id=Z 0 then { r with di:=set r.di sub (set (r.di sub) id (Z sJ)) } else r
def Room.fG(r:Room)(o:bN)(f:eu->eu):Room:=
 match r.az o with
 |some s=>{ r with az:=set r.az o (Z (f s)) }
 |none=>r
def Room.wanted(r:Room)(o:bN):Bool:=
 (match r.az o with | some s=>s.jc | none=>false) ||
 (r.ik o.1).any λs=>match r.aD s with | some l=>l.wanted&&(!l.eG&&(l.pending&&decide (l.fh=o.2))) | none=>false
def tU(bJ:Int):cQ:=[129,206,0,2,0,0,0,0]++bK 4 bJ
def Room.fg(r:Room)(o:bN):Room:=
 match r.az o with
 |none=>r
 |some s =>
  let (dJ,now):=iK r.dA.eA r.dA.ek s.dJ (r.wanted o) r.cJ
  let r:={ r with az:=set r.az o (Z { s with dJ:=dJ }) }
  if now then { r with cj:=r.cj++[⟨o,r.cJ,tU ((r.aQ o).getD 0)⟩] } else r
def Room.tick(r:Room):Room×Int:=
 if r.cN then(r,7) else(eX.foldl Room.fg { r with cJ:=r.cJ+1 },0)
def Room.ready(r:Room):Option bN:=eX.find? λo=>match r.az o with | some s=>s.bQ.ready r.dA.eJ r.dA.cX r.cJ | none=>false
def Room.dF(r:Room):List eK:=[(0,0),(1,0)]++gF.flatMap λs=>if(r.aD s).isSome then[(2,s),(3,s),(4,s)] else[]
def Room.may(r:Room)(w:eK):Bool:=
 decide (w∈r.dF) &&
 if r.cN then !decide (w∈r.returned)
 else if w.1=0 then decide (0<r.dm.length)
 else if w.1=1 then r.ready.isSome
 else match r.aD w.2 with
  |none=>false
  |some l=>if w.1=2 then l.nO r.dA.aG else if w.1=3 then decide (0<l.bF.length) else decide (0<l.ready.length)
def Room.ask(r:Room)(bJ:Int):Room:=
 (r.pj bJ).foldl (λr s =>
  match r.of s,r.aD s with
  |some jo,some l=>if l.wanted&&there l.dx then r.fG (jo,l.dx) (λx=>{ x with jc:=true }) else r
  |_,_=>r) r
def Room.count(r:Room)(f:nH->nH):Room:={ r with bp:=f r.bp }
def lx(b:cQ):Bool:=
 let (first,r):=Rd.num ⟨b,0⟩ 1
 let more:=first / 128 % 2=1
 let (ff,r):=if more then r.num 1 else(0,r)
 let r:=if ff / 128 % 2=1 then(let (n,r):=r.num 1;if n<128 then r else(r.num 1).2) else r
 let r:=if ff / 64 % 2=1 then(r.num 1).2 else r
 let r:=if ff / 32 % 2=1\/ff / 16 % 2=1 then(r.num 1).2 else r
 let n:=b.length-r.left.length
 if r.end_=3 then false
 else if¬(first / 16 % 2=1)\/first % 8≠0\/b.length<=n then false
 else decide (b.getD n 0 % 2=0)
def Room.je(r:Room)(o:bN)(p:cR):Room:=
 match r.az o with
 |none=>r
 |some s =>
  let n:=if s.any then jL s.dv p.dQ else nE p.dQ
  let dv:=if !s.any||decide (s.dv<n) then n else s.dv
  let id:=r.aO.length
  let bh:=r.ik o.1
  let (buf,e):=s.bQ.push r.dA.eJ n r.cJ id
  let r:={ r with
   aO:=r.aO++[⟨o,n,p⟩]
   bp:={ r.bp with fP:=r.bp.fP+1 }
   di:=λsub=>if sub∈bh then set (r.di sub) id (Z 0) else r.di sub
   az:=set r.az o (Z { s with bQ:=buf,any:=true,dv:=dv,jc:=s.jc && !lx p.cF }) }
  if e=10 then bh.foldl (λr s=>r.bR s id 3) r
  else if e=9 then bh.foldl (λr s=>r.bR s id 2) r
  else if e=8 then bh.foldl (λr s=>r.bR s id 6) r
  else r
def Room.read(r:Room):Room:=
 match r.dm with
 |[]=>r
 |b::q =>
  let r:={ r with dm:=q }
  if control b then
   match ff b with
   |none=>r.count λc=>{ c with cI:=c.cI+1 }
   |some l=>l.foldl Room.ask (r.count λc=>{ c with ff:=c.ff+1 })
  else if(eP b).2≠0 then r.count λc=>{ c with cI:=c.cI+1 }
  else match r.cW (eP b).1.bJ with
   |none=>r.count λc=>{ c with gR:=c.gR+1 }
   |some o=>r.je o (eP b).1
def Room.iW(x:Item)(r:Room)(s:Int):Room:=
 if r.di s x.id=Z 0 then
  match r.aD s with
  |none=>r
  |some l =>
   let r:={ r with aD:=set r.aD s (Z (l.put r.dA.aG x).1) }
   match(l.put r.dA.aG x).2 with
   |some a=>r.bR s a 6
   |none=>r
 else r
def Room.order(r:Room):Room:=
 match r.ready with
 |none=>r
 |some o =>
  match r.az o with
  |none=>r
  |some s =>
   match s.bQ.bD with
   |[]=>r
   |h::_ =>
    let p:=(r.aO.getD h.id ⟨(0,0),0,.zero⟩).bW
    gF.foldl (Room.iW ⟨h.id,o.2,lx p.cF,p⟩) { r with az:=set r.az o (Z { s with bQ:=s.bQ.least }) }
def Room.gq(r:Room)(sub:Int):Room:=
 match r.aD sub with
 |none=>r
 |some l =>
  let (a,id,sJ):=l.gJ
  let r:={ r with aD:=set r.aD sub (Z a) }
  if sJ≠0 then r.bR sub id sJ else r
def Room.fD(r:Room)(sub:Int):Room:=
 match r.aD sub with
 |none=>r
 |some l =>
  let r':={ r with aD:=set r.aD sub (Z (l.eO r.dA.aG).1) }
  match(l.eO r.dA.aG).2 with
  |some a=>r'.bR sub a 6
  |none=>r'
def Room.jS(r:Room)(sub:Int)(fq:Bool):Room:=
 match r.aD sub with
 |none=>r
 |some l =>
  let (a,id,sJ):=l.write r.dA.aT fq
  let r:={ r with aD:=set r.aD sub (Z a) }
  let r:=if sJ=1 then r.bR sub id 1 else r
  if a.eG then
   { (r.ji sub 7) with bh:=match r.bh sub with | some s=>if s.cL then set r.bh sub (Z ⟨s.own,false,0⟩) else r.bh | none=>r.bh }
  else r
def ka(r:Room)(o:bN)(s:eu)(p:cR)(n:Int)(buf:mf)(bh:List Int):Room:={ r with
   aO:=r.aO++[⟨o,n,p⟩]
   bp:={ r.bp with fP:=r.bp.fP+1 }
   di:=λsub=>if sub∈bh then set (r.di sub) r.aO.length (Z 0) else r.di sub
   az:=set r.az o (Z { s with bQ:=buf,any:=true,dv:=if !s.any||decide (s.dv<n) then n else s.dv,jc:=s.jc && !lx p.cF }) }
def fE(r:Room)(id:Nat)(bh:List Int)(e:Int):Room:=
 if e=10 then bh.foldl (λr s=>r.bR s id 3) r
 else if e=9 then bh.foldl (λr s=>r.bR s id 2) r
 else if e=8 then bh.foldl (λr s=>r.bR s id 6) r
 else r
def mS(r:Room)(o:bN)(p:cR):r.je o p=match r.az o with
  |none=>r
  |some s=>fE (ka r o s p (if s.any then jL s.dv p.dQ else nE p.dQ) (s.bQ.push r.dA.eJ (if s.any then jL s.dv p.dQ else nE p.dQ) r.cJ r.aO.length).1 (r.ik o.1)) r.aO.length (r.ik o.1) (s.bQ.push r.dA.eJ (if s.any then jL s.dv p.dQ else nE p.dQ) r.cJ r.aO.length).2:=rfl
def kg(r:Room)(sub:Int)(a:dP)(id:Nat)(sJ:Int):Room:=if sJ=1 then Room.bR { r with aD:=set r.aD sub (Z a) } sub id 1 else { r with aD:=set r.aD sub (Z a) }
def nA(r:Room)(sub:Int)(eG:Bool):Room:=
 if eG then { (r.ji sub 7) with bh:=match r.bh sub with | some s=>if s.cL then set r.bh sub (Z ⟨s.own,false,0⟩) else r.bh | none=>r.bh } else r
def kh(r:Room)(sub:Int)(fq:Bool):r.jS sub fq=match r.aD sub with
  |none=>r
  |some l=>nA (kg r sub (l.write r.dA.aT fq).1 (l.write r.dA.aT fq).2.1 (l.write r.dA.aT fq).2.2) sub (l.write r.dA.aT fq).1.eG:=rfl
def Room.fI(r:Room)(sub:Int)(ids:List Nat):Room:=ids.foldl (λr id=>r.bR sub id 8) r
def Room.cP(r:Room)(o:bN):Room:=
 match r.az o with
 |none=>r
 |some s =>
  (s.bQ.bD.map (·.id)).foldl (λr id=>gF.foldl (λr sub=>r.bR sub id 8) r) { r with az:=set r.az o (Z { s with bQ:=mf.iu s.bQ.bD.length s.bQ }) }
def ahead(w:eK):Option eK:=
 if w.1=0 then I else if w.1=1 then Z (0,0) else if w.1=2 then Z (1,0) else Z (w.1-1,w.2)
def Room.ku(r:Room)(w:eK):Room:=
 let r:Room:=if w.1=0 then { r with dm:=[],bp:={ r.bp with jw:=r.bp.jw+r.dm.length } }
  else if w.1=1 then eX.foldl Room.cP r
  else match r.aD w.2 with
   |none=>r
   |some l =>
    if w.1=2 then({ r with aD:=set r.aD w.2 (Z { l with cK:=[] }) }).fI w.2 (l.cK.map Item.id)
    else if w.1=3 then({ r with aD:=set r.aD w.2 (Z { l with bF:=[] }) }).fI w.2 (l.bF.map λ(y:Item×Bool)=>y.1.id)
    else({ r with aD:=set r.aD w.2 (Z { l with ready:=[] }) }).fI w.2 (l.ready.map Prod.fst)
 if(match ahead w with | none=>true | some b=>decide (b∈r.returned)) then { r with returned:=r.returned++[w] } else r
def qz(r:Room)(w:eK):Bool:=match ahead w with | none=>true | some b=>decide (b∈r.returned)
def back(r:Room)(w:eK):Room:=if qz r w then { r with returned:=r.returned++[w] } else r
def jd(r:Room)(w:eK):Room:=
 if w.1=0 then { r with dm:=[],bp:={ r.bp with jw:=r.bp.jw+r.dm.length } }
  else if w.1=1 then eX.foldl Room.cP r
  else match r.aD w.2 with
   |none=>r
   |some l =>
    if w.1=2 then({ r with aD:=set r.aD w.2 (Z { l with cK:=[] }) }).fI w.2 (l.cK.map Item.id)
    else if w.1=3 then({ r with aD:=set r.aD w.2 (Z { l with bF:=[] }) }).fI w.2 (l.bF.map λ(y:Item×Bool)=>y.1.id)
    else({ r with aD:=set r.aD w.2 (Z { l with ready:=[] }) }).fI w.2 (l.ready.map Prod.fst)
def rf(r:Room)(w:eK):r.ku w=back (jd r w) w:=rfl
def Room.pick(r:Room)(w:eK)(fq:Bool):Room×Bool:=
 if !r.may w then(r,false)
 else(if r.cN then r.ku w
  else if w.1=0 then r.read
  else if w.1=1 then r.order
  else if w.1=2 then r.gq w.2
  else if w.1=3 then r.fD w.2
  else r.jS w.2 fq,true)
def Room.ended(r:Room):Bool:=r.cN&&decide (r.returned.length=r.dF.length)
def Room.waits(r:Room):Nat×Nat:=(r.dm.length,(eX.map λo=>match r.az o with | some s=>s.bQ.bD.length | none=>0).sum)
structure Act where
 nv:Int
 sub:Int
 jo:Int
 aY:Int
 b:cQ
 w:eK
 fq:Bool
 own:Int
 aU:Int
 dQ:Int
 s0:Int
 s1:Int
 s2:Int
def Room.act(r:Room)(x:Act):Room×Int×Bool:=
 if x.nv=0 then((r.fT x.b).1,(r.fT x.b).2,false)
 else if x.nv=1 then((r.pick x.w x.fq).1,0,(r.pick x.w x.fq).2)
 else if x.nv=2 then(r.tick.1,r.tick.2,false)
 else if x.nv=3 then((r.gg x.jo x.s0 x.s1 x.s2).1,(r.gg x.jo x.s0 x.s1 x.s2).2,false)
 else if x.nv=4 then((r.iJ x.sub x.own x.dQ x.aU).1,(r.iJ x.sub x.own x.dQ x.aU).2,false)
 else if x.nv=5 then((r.dN x.sub x.jo x.aY).1,(r.dN x.sub x.jo x.aY).2,false)
 else if x.nv=6 then((r.iy x.sub x.aY).1,(r.iy x.sub x.aY).2,false)
 else if x.nv=7 then((r.jE x.sub).1,(r.jE x.sub).2,false)
 else if x.nv=8 then(r.fU.1,r.fU.2,false)
 else(r,0,false)
end M
end Go.Proofs.YtkfblammcilfhaaGreatDoor
open Go.Proofs.YtkfblammcilfhaaGreatDoor
namespace Go.Proofs
open Go.Shelf
def Tryz.yc:oG:=⟨fun | 169=>80 | n=>n,fun | 70=>176 | 9=>9 | 0=>0 | 72=>178 | 37=>38 | 127=>270 | 3=>3 | 5=>5 | n=>n,fun | n=>n⟩
def Tryz.NU:Go.Proofs.Lays.n169 af Tryz.yc:={
 mixed:=cC
 f169:=func80.trans (congrArg Z cC)
 t0:=underlying0
 a0:=pS
 z0:=oL
 v0:=ma
 t3:=underlying3
 a3:=pR
 z3:=oK
 v3:=l8
 t9:=underlying9
 a9:=pP
 z9:=oI
 v9:=lY
 t37:=underlying38
 a37:=Tryz.isAgg38
 z37:=sP
 v37:=pB
 t70:=underlying176
 a70:=Tryz.isAgg176
 z70:=Tryz.sizeOf176
 v70:=Tryz.zeroValue176
 t72:=underlying178
 a72:=Tryz.isAgg178
 z72:=Tryz.sizeOf178
 v72:=Tryz.zeroValue178
 t127:=underlying270
 a127:=Tryz.isAgg270
 z127:=Tryz.sizeOf270
 v127:=Tryz.zeroValue270 }
def Tryz.wV:Builder.Extra af Tryz.yc:={
 sizeBuilder:=cC
 liesBuilder:=cC
 t5:=underlying5
 a5:=pQ
 z5:=oJ
 v5:=lZ
 infoByte:=cC
 cellsByte:=cC
 sizeByte:=cC
 neB5:=by decide }
def Tryz.yd:oG:=⟨fun | 156=>288 | 165=>313 | 166=>77 | 169=>80 | 240=>134 | 241=>331 | 276=>199 | 277=>333 | n=>n,fun | 31=>181 | 9=>9 | 3=>3 | 4=>4 | 0=>0 | 20=>20 | 72=>178 | 76=>186 | 70=>176 | 37=>38 | 75=>185 | 127=>270 | 164=>365 | 5=>5 | 80=>190 | n=>n,fun | n=>n⟩
def Tryz.NV:Go.Proofs.Lays.n156 af Tryz.yd:={
 mixed:=cC
 f156:=func288.trans (congrArg Z cC)
 f165:=func313.trans (congrArg Z cC)
 f166:=func77.trans (congrArg Z cC)
 f169:=func80.trans (congrArg Z cC)
 f240:=func134.trans (congrArg Z cC)
 f241:=func331.trans (congrArg Z cC)
 f276:=func199.trans (congrArg Z cC)
 f277:=func333.trans (congrArg Z cC)
 t0:=underlying0
 a0:=pS
 z0:=oL
 v0:=ma
 t3:=underlying3
 a3:=pR
 z3:=oK
 v3:=l8
 t4:=underlying4
 a4:=sE
 z4:=qF
 v4:=nz
 t9:=underlying9
 a9:=pP
 z9:=oI
 v9:=lY
 t20:=underlying20
 a20:=Tryz.isAgg20
 z20:=Tryz.sizeOf20
 v20:=tC
 t31:=underlying181
 a31:=Tryz.isAgg181
 z31:=Tryz.sizeOf181
 v31:=Tryz.zeroValue181
 t37:=underlying38
 a37:=Tryz.isAgg38
 z37:=sP
 v37:=pB
 t70:=underlying176
 a70:=Tryz.isAgg176
 z70:=Tryz.sizeOf176
 v70:=Tryz.zeroValue176
 t72:=underlying178
 a72:=Tryz.isAgg178
 z72:=Tryz.sizeOf178
 v72:=Tryz.zeroValue178
 t75:=underlying185
 a75:=Tryz.isAgg185
 z75:=Tryz.sizeOf185
 v75:=Tryz.zeroValue185
 t76:=underlying186
 a76:=Tryz.isAgg186
 z76:=Tryz.sizeOf186
 v76:=Tryz.zeroValue186
 t127:=underlying270
 a127:=Tryz.isAgg270
 z127:=Tryz.sizeOf270
 v127:=Tryz.zeroValue270
 t164:=underlying365
 a164:=Tryz.isAgg365
 z164:=Tryz.sizeOf365
 v164:=Tryz.zeroValue365 }
def Tryz.wW:Builder.Extra af Tryz.yd:={
 sizeBuilder:=cC
 liesBuilder:=cC
 t5:=underlying5
 a5:=pQ
 z5:=oJ
 v5:=lZ
 infoByte:=cC
 cellsByte:=cC
 sizeByte:=cC
 neB5:=by decide }
open Go.RowKit in
theorem Tryz.strings_Join (bk o c:Nat) (xs:List ByteArray) (sep:ByteArray) (w:aw) (a:∀(j:Nat) x,xs[j]? = Z x->w.cell? ⟨bk,o+j,I⟩=Z (.string x)) (d:bk<w.heap.size) (f:xs.length<=140737488355328) (b:xs.length<=c) (hlen:(mb (xs.map (·.data.toList)) sep.data.toList).length<=140737488355328) :
  aF af 288 #[ae (Z ⟨bk,o,I⟩) xs.length c,.string sep] w λe w'=>e=av (.string ⟨(mb (xs.map (·.data.toList)) sep.data.toList).toArray⟩)/\aC w w':=Any.strings_Join Tryz.NV Tryz.wW bk o c xs sep w a d f b hlen
open Go.RowKit in
theorem Tryz.Builder_String_any_k (B b:Nat) (l:List UInt8) (w:aw) (h:Lib.IsBuilderF 178 5 B b (gD l) w) (a:B<=w.heap.size) :
  aF af 80 #[aq (Z ⟨b,0,I⟩)] w λe w'=>e=av (.string ⟨l.toArray⟩)/\(Lib.IsBuilderF 178 5 B b (gD l) w'/\Below B w w'/\Lib.OthersKept 5 (Z b) w w'):=Any.Builder_String_any_k Tryz.NU Tryz.wV B b l w h a
def Tryz.Ee:oG:=⟨fun | 171=>136 | 243=>200 | 246=>251 | 283=>284 | 284=>285 | 285=>286 | 286=>287 | 129=>270 | 317=>309 | 318=>310 | 319=>311 | 320=>312 | 337=>329 | 338=>330 | n=>n,fun | 3=>3 | 9=>9 | 2=>2 | 4=>4 | 171=>446 | 0=>0 | 53=>197 | 37=>38 | 5=>5 | 173=>448 | 212=>475 | 51=>41 | 20=>20 | 213=>476 | 46=>370 | 232=>494 | 233=>495 | n=>n,fun | 17=>3 | 18=>4 | 19=>5 | n=>n⟩
def Tryz.NT:Go.Proofs.Lays.n171 af Tryz.Ee:={
 mixed:=cC
 f129:=func270.trans (congrArg Z cC)
 f171:=func136.trans (congrArg Z cC)
 f243:=func200.trans (congrArg Z cC)
 f246:=func251.trans (congrArg Z cC)
 f283:=func284.trans (congrArg Z cC)
 f284:=func285.trans (congrArg Z cC)
 f285:=func286.trans (congrArg Z cC)
 f286:=func287.trans (congrArg Z cC)
 f317:=func309.trans (congrArg Z cC)
 f318:=func310.trans (congrArg Z cC)
 f319:=func311.trans (congrArg Z cC)
 f320:=func312.trans (congrArg Z cC)
 f337:=func329.trans (congrArg Z cC)
 f338:=func330.trans (congrArg Z cC)
 t0:=underlying0
 a0:=pS
 z0:=oL
 v0:=ma
 t2:=underlying2
 a2:=Tryz.isAgg2
 z2:=Tryz.sizeOf2
 v2:=Tryz.zeroValue2
 t3:=underlying3
 a3:=pR
 z3:=oK
 v3:=l8
 t4:=underlying4
 a4:=sE
 z4:=qF
 v4:=nz
 t5:=underlying5
 a5:=pQ
 z5:=oJ
 v5:=lZ
 t9:=underlying9
 a9:=pP
 z9:=oI
 v9:=lY
 t20:=underlying20
 a20:=Tryz.isAgg20
 z20:=Tryz.sizeOf20
 v20:=tC
 t37:=underlying38
 a37:=Tryz.isAgg38
 z37:=sP
 v37:=pB
 t46:=underlying370
 a46:=sQ
 z46:=rI
 v46:=oH
 t51:=underlying41
 a51:=Tryz.isAgg41
 z51:=sO
 v51:=pA
 t53:=underlying197
 a53:=Tryz.isAgg197
 z53:=Tryz.sizeOf197
 v53:=sD
 t171:=underlying446
 a171:=Tryz.isAgg446
 z171:=Tryz.sizeOf446
 v171:=Tryz.zeroValue446
 t173:=underlying448
 a173:=Tryz.isAgg448
 z173:=Tryz.sizeOf448
 v173:=Tryz.zeroValue448
 t212:=underlying475
 a212:=Tryz.isAgg475
 z212:=Tryz.sizeOf475
 v212:=Tryz.zeroValue475
 t213:=underlying476
 a213:=Tryz.isAgg476
 z213:=Tryz.sizeOf476
 t232:=underlying494
 a232:=Tryz.isAgg494
 z232:=Tryz.sizeOf494
 v232:=Tryz.zeroValue494
 t233:=underlying495
 a233:=Tryz.isAgg495
 z233:=Tryz.sizeOf495
 v233:=Tryz.zeroValue495
 g17:=cC
 g18:=cC
 g19:=by kernel_rfl }
open Go.RowKit Go.Sort Go.Lib in
theorem Tryz.strconv_Itoa_small (i:Nat) (a:i<100) (w:aw) :
  aF af 136 #[J V i] w λe w'=>e=av (.string ⟨(Lib.decDigits i).toArray⟩)/\w'=w:=Any.strconv_Itoa_small Tryz.NT i a w
def Tryz.Ed:oG:=⟨fun | 189=>158 | 125=>213 | 257=>212 | 128=>269 | 129=>270 | 294=>260 | 295=>261 | 296=>262 | 297=>263 | 298=>264 | 299=>265 | 216=>266 | 300=>267 | 301=>268 | 328=>293 | 329=>294 | 330=>295 | 331=>296 | 332=>297 | 215=>298 | 343=>323 | n=>n,fun | 28=>36 | 3=>3 | 46=>370 | 0=>0 | 51=>41 | 53=>197 | 4=>4 | 183=>427 | 182=>426 | 131=>223 | 5=>5 | 9=>9 | 218=>454 | 222=>458 | 228=>486 | 229=>107 | n=>n,fun | n=>n⟩
def Tryz.IA:Go.Proofs.Lays.n189 af Tryz.Ed:={
 mixed:=cC
 f125:=func213.trans (congrArg Z cC)
 f128:=func269.trans (congrArg Z cC)
 f129:=func270.trans (congrArg Z cC)
 f189:=func158.trans (congrArg Z cC)
 f215:=func298.trans (congrArg Z cC)
 f216:=func266.trans (congrArg Z cC)
 f257:=func212.trans (congrArg Z cC)
 f294:=func260.trans (congrArg Z cC)
 f295:=func261.trans (congrArg Z cC)
 f296:=func262.trans (congrArg Z cC)
 f297:=func263.trans (congrArg Z cC)
 f298:=func264.trans (congrArg Z cC)
 f299:=func265.trans (congrArg Z cC)
 f300:=func267.trans (congrArg Z cC)
 f301:=func268.trans (congrArg Z cC)
 f328:=func293.trans (congrArg Z cC)
 f329:=func294.trans (congrArg Z cC)
 f330:=func295.trans (congrArg Z cC)
 f331:=func296.trans (congrArg Z cC)
 f332:=func297.trans (congrArg Z cC)
 f343:=func323.trans (congrArg Z cC)
 t0:=underlying0
 a0:=pS
 z0:=oL
 v0:=ma
 t3:=underlying3
 a3:=pR
 z3:=oK
 v3:=l8
 t4:=underlying4
 a4:=sE
 z4:=qF
 v4:=nz
 t5:=underlying5
 a5:=pQ
 z5:=oJ
 v5:=lZ
 t9:=underlying9
 a9:=pP
 z9:=oI
 v9:=lY
 t28:=underlying36
 a28:=Tryz.isAgg36
 z28:=Tryz.sizeOf36
 v28:=Tryz.zeroValue36
 t46:=underlying370
 a46:=sQ
 z46:=rI
 v46:=oH
 t51:=underlying41
 a51:=Tryz.isAgg41
 z51:=sO
 v51:=pA
 t53:=underlying197
 a53:=Tryz.isAgg197
 z53:=Tryz.sizeOf197
 v53:=sD
 t131:=underlying223
 a131:=Tryz.isAgg223
 z131:=Tryz.sizeOf223
 v131:=Tryz.zeroValue223
 t182:=underlying426
 a182:=Tryz.isAgg426
 z182:=Tryz.sizeOf426
 v182:=Tryz.zeroValue426
 t183:=underlying427
 a183:=Tryz.isAgg427
 z183:=Tryz.sizeOf427
 v183:=Tryz.zeroValue427
 t218:=underlying454
 a218:=Tryz.isAgg454
 z218:=Tryz.sizeOf454
 v218:=Tryz.zeroValue454
 t222:=underlying458
 a222:=Tryz.isAgg458
 z222:=Tryz.sizeOf458
 v222:=Tryz.zeroValue458
 t228:=underlying486
 a228:=Tryz.isAgg486
 z228:=Tryz.sizeOf486
 v228:=Tryz.zeroValue486
 t229:=underlying107
 a229:=Tryz.isAgg107
 z229:=Tryz.sizeOf107
 v229:=Tryz.zeroValue107 }
open Go.Sort Go.RowKit in
theorem Tryz.slices_Sort_int (cw off cap:Nat) (zs:List Int) (w:aw) (c:Holds (J V) w cw off zs.toArray) (a:cw<w.heap.size) (b:zs.length<4611686018427387904) :
  aF af 158 #[ae (Z ⟨cw,off,I⟩) zs.length cap] w λe w' =>
   e=av (aB #[])/\∃n os,w'=grow (putRow (J V) (Sort.ahead w n) cw off (zs.mergeSort λx y=>decide (x<=y)).toArray) os:=Any.slices_Sort_int Tryz.IA cw off cap zs w c a b
def Tryz.Ef:oG:=⟨fun | 146=>75 | 221=>133 | 268=>196 | 138=>197 | 143=>198 | 195=>247 | 197=>248 | 218=>249 | 219=>250 | 260=>279 | 217=>280 | 225=>281 | 224=>282 | 267=>283 | 266=>307 | 314=>308 | n=>n,fun | 9=>9 | 31=>181 | 3=>3 | 4=>4 | 0=>0 | 105=>414 | 21=>21 | 5=>5 | 46=>370 | 119=>468 | 139=>471 | 138=>470 | 146=>472 | 51=>41 | n=>n,fun | 1=>0 | 3=>1 | 4=>2 | n=>n⟩
def Tryz.NX:Go.Proofs.Lays.n146 af Tryz.Ef:={
 mixed:=cC
 f138:=func197.trans (congrArg Z cC)
 f143:=func198.trans (congrArg Z cC)
 f146:=func75.trans (congrArg Z cC)
 f195:=func247.trans (congrArg Z cC)
 f197:=func248.trans (congrArg Z cC)
 f217:=func280.trans (congrArg Z cC)
 f218:=func249.trans (congrArg Z cC)
 f219:=func250.trans (congrArg Z cC)
 f221:=func133.trans (congrArg Z cC)
 f224:=func282.trans (congrArg Z cC)
 f225:=func281.trans (congrArg Z cC)
 f260:=func279.trans (congrArg Z cC)
 f266:=func307.trans (congrArg Z cC)
 f267:=func283.trans (congrArg Z cC)
 f268:=func196.trans (congrArg Z cC)
 f314:=func308.trans (congrArg Z cC)
 t0:=underlying0
 a0:=pS
 z0:=oL
 v0:=ma
 t3:=underlying3
 a3:=pR
 z3:=oK
 v3:=l8
 t4:=underlying4
 a4:=sE
 z4:=qF
 v4:=nz
 t5:=underlying5
 a5:=pQ
 z5:=oJ
 v5:=lZ
 t9:=underlying9
 a9:=pP
 z9:=oI
 v9:=lY
 t21:=underlying21
 a21:=Tryz.isAgg21
 z21:=Tryz.sizeOf21
 v21:=Tryz.zeroValue21
 t31:=underlying181
 a31:=Tryz.isAgg181
 z31:=Tryz.sizeOf181
 v31:=Tryz.zeroValue181
 t46:=underlying370
 a46:=sQ
 z46:=rI
 v46:=oH
 t51:=underlying41
 a51:=Tryz.isAgg41
 z51:=sO
 v51:=pA
 t105:=underlying414
 a105:=Tryz.isAgg414
 z105:=Tryz.sizeOf414
 v105:=Tryz.zeroValue414
 t119:=underlying468
 a119:=Tryz.isAgg468
 z119:=Tryz.sizeOf468
 t138:=underlying470
 a138:=Tryz.isAgg470
 z138:=Tryz.sizeOf470
 v138:=Tryz.zeroValue470
 t139:=underlying471
 a139:=Tryz.isAgg471
 z139:=Tryz.sizeOf471
 v139:=Tryz.zeroValue471
 t146:=underlying472
 a146:=Tryz.isAgg472
 z146:=Tryz.sizeOf472
 v146:=Tryz.zeroValue472
 g1:=cC
 g3:=cC
 g4:=by kernel_rfl }
open Go.RowKit Go.Lib in
theorem Tryz.strings_Split (s sep:ByteArray) (m:Int) (w:aw) (a:s.size<4294967281) (hm:w.cell? ⟨0,0,I⟩=Z (J V m)) (h1:1<=sep.size) :
  aF af 75 #[.string s,.string sep] w λe w' =>
   e=av (ae (Z ⟨w.heap.size,0,I⟩) (gz s sep+1) (gz s sep+1))/\w'=w.alloc (.cells ((Lib.splitB sep 0 (gz s sep) s).map Value.string).toArray 9):=Any.strings_Split Tryz.NX cC s sep m w a hm h1
open Go.RowKit Go.Sort in
theorem Tryz.slices_Sort_int_none (p:Option Addr) (cap:Nat) (w:aw) :
  aF af 158 #[ae p 0 cap] w λe w'=>e=av (aB #[])/\w'=w:=Any.slices_Sort_int_none Tryz.IA p cap w
end Go.Proofs
namespace Go.Proofs.YtkfblammcilfhaaGreatDoor
namespace M
def Rd.Ok(r:Rd):Prop:=r.nc≠0->r.left=[]
def Rd.Ok.new(b:cQ):Rd.Ok ⟨b,0⟩:=λh=>absurd rfl h
def Rd.Ok.fail{r:Rd}(h:r.Ok)(e:Int):(r.fail e).Ok:=by
 unfold Rd.fail;split
 ·exact h
 ·exactλ_=>rfl
def Rd.Ok.take{r:Rd}(h:r.Ok)(n:Int):(r.take n).2.Ok:=by
 unfold Rd.take;split
 ·exact h
 ·split
  ·exact h.fail 3
  ·intro q;show r.left.drop n.toNat=[];rw[h q];simp
def Rd.Ok.num{r:Rd}(h:r.Ok)(s:Nat):(r.num s).2.Ok:=h.take s
def GN{r:Rd}(h:r.Ok){e:Int}(he:e≠0):(r.fail e).left=[]:=by
 unfold Rd.fail;split
 ·rename_i q;exact h (q.resolve_left he)
 ·rfl
def se(r:Rd)(e:Int):(r.fail e).left.length<=r.left.length:=by
 unfold Rd.fail;split
 ·exact aj _
 ·exact gG _
def Cb{r:Rd}(h:r.Ok){n:Nat}(a:0<n):(r.take n).2.left.length<=r.left.length-n:=by
 unfold Rd.take;rw[if_neg z];split
 ·rw[GN h aR];simp
 ·simp
def Dp(r:Rd)(n:Int):(r.take n).2.left.length<=r.left.length:=by
 unfold Rd.take;split
 ·exact aj _
 ·split
  ·exact se _ _
  ·simp
def jn{r:Rd}(h:r.Ok){s:Nat}(a:0<s):(r.num s).2.left.length<=r.left.length-s:=Cb h a
def uR(r:Rd)(s:Nat):(r.num s).2.left.length<=r.left.length:=Dp r s
def Im:∀(l:List Nat) {r:Rd},r.Ok->(iD l r).Ok
 |[],_,h=>h
 |s::l,_,h=>Im l (h.num s)
def tR(r:Rd):∃(a b c:Int) (d1 d2 d3 d5:Rd) (body:cQ),r.num 1=(a,d1)/\d1.num 1=(b,d2)/\d2.num 2=(c,d3) /\
  (if a<128\/191<a then d3.fail 2 else d3).take (4*c)=(body,d5) /\
  fJ r=(⟨a % 32,b,(if a / 32 % 2=1 then(match pg body with | some kept=>(kept,if 0<d5.left.length then d5.fail 2 else d5) | none=>([],d5.fail 2)) else(body,d5)).1⟩,
   (if a / 32 % 2=1 then(match pg body with | some kept=>(kept,if 0<d5.left.length then d5.fail 2 else d5) | none=>([],d5.fail 2)) else(body,d5)).2):=by
 refine⟨(r.num 1).1,((r.num 1).2.num 1).1,(((r.num 1).2.num 1).2.num 2).1,(r.num 1).2,((r.num 1).2.num 1).2,(((r.num 1).2.num 1).2.num 2).2,_,_,rfl,rfl,rfl,rfl,?_⟩;rfl
def Cs{r:Rd}(h:r.Ok):(fJ r).2.Ok/\(fJ r).2.left.length<=r.left.length-4:=by
 obtain⟨a,j,b,d1,d2,d3,d5,body,c,f,g,i,e⟩:=tR r;rw[e];have h1:d1.Ok:=by have:=h.num 1;rw[c]at this;exact this
 have h2:d2.Ok:=by have:=h1.num 1;rw[f]at this;exact this
 have h3:d3.Ok:=by have:=h2.num 2;rw[g]at this;exact this
 have l1:d1.left.length<=r.left.length-1:=by have:=jn h (s:=1) z;rw[c]at this;exact this
 have l2:d2.left.length<=d1.left.length-1:=by have:=jn h1 (s:=1) z;rw[f]at this;exact this
 have l3:d3.left.length<=d2.left.length-2:=by have:=jn h2 (s:=2) z;rw[g]at this;exact this
 have h4:(if a<128\/191<a then d3.fail 2 else d3).Ok:=by split;exact h3.fail 2;exact h3
 have l4:(if a<128\/191<a then d3.fail 2 else d3).left.length<=d3.left.length:=by split;exact se _ _;exact aj _
 have h5:d5.Ok:=by have:=h4.take (4*b);rw[i]at this;exact this
 have l5:d5.left.length<=d3.left.length:=by have:=Dp (if a<128\/191<a then d3.fail 2 else d3) (4*b);rw[i]at this;exact Nat.le_trans this l4
 have key:∀d:Rd,(d=d5\/d=d5.fail 2)->d.Ok/\d.left.length<=r.left.length-4:=by
  rintro d (rfl|rfl)
  ·exact⟨h5,z⟩
  ·exact⟨h5.fail 2,by have:=se d5 2;omega⟩
 refine key _ ?_;split
 ·split
  ·split
   ·exact aZ rfl
   ·exact aJ rfl
  ·exact aZ rfl
 ·exact aJ rfl
end M
section
namespace M
def SA:Option eu->Option eu->Prop
 |none,none=>True
 |some a,some b=>a.bQ=b.bQ/\a.any=b.any/\a.dv=b.dv
 |_,_=>False
def SA.refl:∀a,SA a a
 |none=>trivial
 |some a=>⟨rfl,rfl,rfl⟩
def SA.symm:∀{a b},SA a b->SA b a
 |none,none,_=>trivial
 |some a,some b,⟨h1,h2,h3⟩=>⟨h1.symm,h2.symm,h3.symm⟩
 |none,some _,h=>h.elim
 |some _,none,h=>h.elim
def SA.trans:∀{a b c},SA a b->SA b c->SA a c
 |none,none,none,_,_=>trivial
 |some a,some b,some c,⟨h1,h2,h3⟩,⟨d,e,f⟩=>⟨h1.trans d,h2.trans e,h3.trans f⟩
 |none,some _,_,h,_=>h.elim
 |some _,none,_,h,_=>h.elim
 |none,none,some _,_,h=>h.elim
 |some _,some _,none,_,h=>h.elim
structure aX(one:Int)(r s:Room):Prop where
 dA:r.dA=s.dA
 cN:r.cN=s.cN
 cJ:r.cJ=s.cJ
 dm:r.dm=s.dm
 cW:r.cW=s.cW
 aQ:r.aQ=s.aQ
 aO:r.aO=s.aO
 bp:r.bp=s.bp
 bh:∀x,x≠one->r.bh x=s.bh x
 aD:∀x,x≠one->r.aD x=s.aD x
 di:∀x,x≠one->r.di x=s.di x
 az:∀o,SA (r.az o) (s.az o)
 ret:∀w:eK,(2<=w.1->w.2≠one)->(w∈r.returned↔w∈s.returned)
variable {one:Int} {r s t:Room}
def aX.refl(one:Int)(r:Room):aX one r r:=⟨rfl,rfl,rfl,rfl,rfl,rfl,rfl,rfl,λ_ _=>rfl,λ_ _=>rfl,λ_ _=>rfl,λ_=>SA.refl _,λ_ _=>Iff.rfl⟩
def aX.symm(h:aX one r s):aX one s r:=
 ⟨h.dA.symm,h.cN.symm,h.cJ.symm,h.dm.symm,h.cW.symm,h.aQ.symm,h.aO.symm,h.bp.symm,λx q=>(h.bh x q).symm,λx q=>(h.aD x q).symm,λx q=>(h.di x q).symm,λo=>(h.az o).symm,λw q=>(h.ret w q).symm⟩
def aX.trans(h:aX one r s)(k:aX one s t):aX one r t:=
 ⟨h.dA.trans k.dA,h.cN.trans k.cN,h.cJ.trans k.cJ,h.dm.trans k.dm,h.cW.trans k.cW,h.aQ.trans k.aQ,h.aO.trans k.aO,h.bp.trans k.bp,λx q=>(h.bh x q).trans (k.bh x q),λx q=>(h.aD x q).trans (k.aD x q),λx q=>(h.di x q).trans (k.di x q),λo=>(h.az o).trans (k.az o),λw q=>(h.ret w q).trans (k.ret w q)⟩
def aX.dest(h:aX one r s):∃a b c d e f,s={ r with bh:=a,aD:=b,di:=c,az:=d,cj:=e,returned:=f }:=
 ⟨s.bh,s.aD,s.di,s.az,s.cj,s.returned,by rw[h.dA,h.cN,h.cJ,h.dm,h.cW,h.aQ,h.aO,h.bp]⟩
def yM{α β:Type}[DecidableEq α]{f g:α->β}{k x:α}{v:β}(h:f x=g x)(a:β)(e:v=a):set f k v x=set g k a x:=by unfold set;split<;>simp_all
def yL{α β:Type}[DecidableEq α]{f:α->β}{k x:α}{v:β}(h:x≠k):set f k v x=f x:=by unfold set;rw[if_neg h]
def aX.rX(r:Room)(v:Option dP):aX one { r with aD:=set r.aD one v } r:={ aX.refl one r with aD:=λx q=>yL q }
def aX.Pe(r:Room)(v:Option Sub):aX one { r with bh:=set r.bh one v } r:={ aX.refl one r with bh:=λx q=>yL q }
def aX.OP(r:Room)(v:Nat->Option Int):aX one { r with di:=set r.di one v } r:={ aX.refl one r with di:=λx q=>yL q }
def aX.rT(r:Room)(id:Nat)(f:Int):aX one (r.bR one id f) r:=by
 unfold Room.bR;split
 ·exact aX.OP r _
 ·exact aX.refl _ _
def aX.tI:∀(ids:List Nat) (r:Room),aX one (r.fI one ids) r
 |[],r=>aX.refl _ _
 |i::l,r=>(aX.tI l (r.bR one i 8)).trans (aX.rT r i 8)
def aX.QF(r:Room)(f:Int):aX one (r.ji one f) r:=aX.OP r _
def aX.Nx(r:Room)(o:bN)(f:eu->eu)(a:∀x,(f x).bQ=x.bQ/\(f x).any=x.any/\(f x).dv=x.dv):aX one (r.fG o f) r:=by
 unfold Room.fG;cases h:r.az o with
 |none=>exact aX.refl _ _
 |some x =>
  refine { aX.refl one r with az:=λp=>?_ };show SA (set r.az o (Z (f x)) p) (r.az p);unfold set;split
  ·rename_i e;subst e;rw[h];exact a x
  ·exact SA.refl _
def aX.RY(r:Room)(x:Int):aX one (r.ask x) r:=by
 unfold Room.ask;generalize r.pj x=l;revert r;induction l with
 |nil=>intro r;exact aX.refl _ _
 |cons a l b =>
  intro r;rw[eN];refine(b _).trans ?_;split
  ·split
   ·exact aX.Nx r _ _ (λ_=>⟨rfl,rfl,rfl⟩)
   ·exact aX.refl _ _
  ·exact aX.refl _ _
def aX.MZ:∀(l:List Int) (r:Room),aX one (l.foldl Room.ask r) r
 |[],r=>aX.refl _ _
 |x::l,r=>(aX.MZ l (r.ask x)).trans (aX.RY r x)
def aX.Br(r:Room)(l:Int):aX one (r.fj one l).1 r:=by
 unfold Room.fj;cases r.aD one with
 |none=>exact aX.refl _ _
 |some x=>exact aX.rX r _
def aX.Qq(x:Item)(r:Room):aX one (Room.iW x r one) r:=by
 unfold Room.iW;split
 ·split
  ·exact aX.refl _ _
  ·simp only;split
   ·exact(aX.rT _ _ _).trans (aX.rX r _)
   ·exact aX.rX r _
 ·exact aX.refl _ _
def aX.fo(h:aX one r s)(k:Int)(v:Option dP):aX one { r with aD:=set r.aD k v } { s with aD:=set s.aD k v }:={ h with aD:=λx q=>yM (h.aD x q) _ rfl }
def aX.sub(h:aX one r s)(k:Int)(v:Option Sub):aX one { r with bh:=set r.bh k v } { s with bh:=set s.bh k v }:={ h with bh:=λx q=>yM (h.bh x q) _ rfl }
def aX.MW(h:aX one r s){k:Int}(v:Nat->Option Int):aX one { r with di:=set r.di k v } { s with di:=set s.di k v }:={ h with di:=λx q=>yM (h.di x q) _ rfl }
def aX.count(h:aX one r s)(f:nH->nH):aX one (r.count f) (s.count f):={ h with bp:=congrArg f h.bp }
def aX.fO(h:aX one r s)(o:bN){a b:eu}(e:a.bQ=b.bQ/\a.any=b.any/\a.dv=b.dv):aX one { r with az:=set r.az o (Z a) } { s with az:=set s.az o (Z b) }:=
 by
 refine { h with az:=λp=>?_ }
 show SA (set r.az o (Z a) p) (set s.az o (Z b) p)
 unfold set;split
 ·exact e
 ·exact h.az p
def aX.bR(h:aX one r s)(k:Int)(id:Nat)(f:Int):aX one (r.bR k id f) (s.bR k id f):=by
 by_cases e:k=one
 ·subst e;exact((aX.rT r id f).trans h).trans (aX.rT s id f).symm
 ·unfold Room.bR;rw[h.di k e];split
  ·exact h.MW _
  ·exact h
def aX.foldl{α:Type}(f:Room->α->Room)(b:∀r s a,aX one r s->aX one (f r a) (f s a)):∀(l:List α) {r s:Room},aX one r s->aX one (l.foldl f r) (l.foldl f s)
 |[],_,_,h=>h
 |a::l,_,_,h=>aX.foldl f b l (b _ _ a h)
def aX.fI(h:aX one r s)(k:Int)(ids:List Nat):aX one (r.fI k ids) (s.fI k ids):=aX.foldl _ (λr s a q=>q.bR k a 8) ids h
def aX.ji(h:aX one r s){k:Int}(a:k≠one)(f:Int):aX one (r.ji k f) (s.ji k f):=by
 unfold Room.ji;rw[h.di k a];exact h.MW _
def aX.lJ(one:Int)(id:Nat)(f:Int):∀(l:List Int) {r s:Room},aX one r s->aX one (l.foldl (λr k=>r.bR k id f) r) ((l.filter (λk=>decide (k≠one))).foldl (λr k=>r.bR k id f) s)
 |[],_,_,h=>h
 |a::l,r,s,h=>by
  by_cases e:a=one
  ·rw[List.filter_cons_of_neg (by simpa using e),eN];subst e;exact aX.lJ _ id f l ((aX.rT r id f).trans h)
  ·rw[List.filter_cons_of_pos (by simpa using e),eN,eN];exact aX.lJ _ id f l (h.bR a id f)
def aX.ik(h:aX one r s)(p:Int):(r.ik p).filter (λk=>decide (k≠one))=(s.ik p).filter (λk=>decide (k≠one)):=by
 unfold Room.ik;rw[List.filter_filter,List.filter_filter];refine List.filter_congr λx _=>?_;by_cases e:x=one
 ·simp[e]
 ·rw[h.bh x e]
def aX.Pd(h:aX one r s)(p:Int){x:Int}(a:x≠one):x∈r.ik p↔x∈s.ik p:=by
 have:=h.ik p;have k:∀l:List Int,x∈l↔x∈l.filter (λk=>decide (k≠one)):=λl=>by simp[a]
 rw[k (r.ik p),this,<-k]
def aX.vE(h:aX one r s){l m:List Int}(e:l.filter (λk=>decide (k≠one))=m.filter (λk=>decide (k≠one)))(id:Nat)(f:Int) :
  aX one (l.foldl (λr k=>r.bR k id f) r) (m.foldl (λr k=>r.bR k id f) s):=by
 have a:=aX.lJ one id f l h;have b:=aX.lJ one id f m (aX.refl one s);rw[e]at a;exact a.trans b.symm
def aX.fj(h:aX one r s){k:Int}(a:k≠one)(l:Int):aX one (r.fj k l).1 (s.fj k l).1/\(r.fj k l).2=(s.fj k l).2:=by
 unfold Room.fj;rw[h.aD k a];cases s.aD k with
 |none=>exact⟨h,rfl⟩
 |some x=>exact⟨h.fo k _,rfl⟩
def aX.of(h:aX one r s){k:Int}(a:k≠one):r.of k=s.of k:=by unfold Room.of;rw[h.bh k a]
def aX.eG(h:aX one r s){k:Int}(a:k≠one):r.eG k=s.eG k:=by unfold Room.eG;rw[h.aD k a]
def aX.ready(h:aX one r s):r.ready=s.ready:=by
 unfold Room.ready;congr 1;funext o;have q:=h.az o;rw[h.dA,h.cJ];cases hr:r.az o<;>cases a:s.az o<;>rw[hr,a]at q
 ·exact q.elim
 ·exact q.elim
 ·simp only;rw[q.1]
def mA(r:Room)(w:eK):w∈r.dF↔w=(0,0)\/w=(1,0)\/((w.1=2\/w.1=3\/w.1=4)/\w.2∈gF/\(r.aD w.2).isSome=true):=by
 unfold Room.dF;rw[bt,List.mem_flatMap];constructor
 ·rintro(q | ⟨x,c,q⟩)
  ·simp at q;rcases q with q|q
   ·exact aJ q
   ·exact aZ (aJ q)
  ·split at q
   ·rename_i d;simp at q;rcases q with rfl|rfl|rfl
    ·exact aZ (aZ ⟨aJ rfl,c,d⟩)
    ·exact aZ (aZ ⟨aZ (aJ rfl),c,d⟩)
    ·exact aZ (aZ ⟨aZ (aZ rfl),c,d⟩)
   ·simp at q
 ·rintro(rfl|rfl | ⟨q,c,d⟩)
  ·left;simp
  ·left;simp
  ·right;refine⟨w.2,c,?_⟩;rw[if_pos d];obtain⟨a,b⟩:=w;simp only at q;rcases q with rfl|rfl|rfl<;>simp
def aX.worker(h:aX one r s)(w:eK)(hw:2<=w.1->w.2≠one):w∈r.dF↔w∈s.dF:=by
 rw[mA,mA];by_cases h2:2<=w.1
 ·rw[h.aD w.2 (hw h2)]
 ·constructor
  ·rintro(q|q | ⟨q,_⟩)
   ·exact aJ q
   ·exact aZ (aJ q)
   ·omega
  ·rintro(q|q | ⟨q,_⟩)
   ·exact aJ q
   ·exact aZ (aJ q)
   ·omega
def aX.may(h:aX one r s)(w:eK)(hw:2<=w.1->w.2≠one):r.may w=s.may w:=by
 unfold Room.may;have a:decide (w∈r.dF)=decide (w∈s.dF):=decide_eq_decide.2 (h.worker w hw);have b:decide (w∈r.returned)=decide (w∈s.returned):=decide_eq_decide.2 (h.ret w hw);rw[a,b,h.cN,h.dm,h.ready,h.dA];by_cases hm:w∈s.dF
 ·by_cases h0:w.1=0
  ·simp only[if_pos h0]
  ·by_cases h1:w.1=1
   ·simp only[if_neg h0,if_pos h1]
   ·have h2:2<=w.1:=by
     rcases(mA s w).1 hm with q|q | ⟨q,_⟩
     ·rw[q]at h0;exact absurd rfl h0
     ·rw[q]at h1;exact absurd rfl h1
     ·omega
    rw[h.aD w.2 (hw h2)]
 ·simp[hm]
def aX.fT(h:aX one r s)(b:cQ):aX one (r.fT b).1 (s.fT b).1/\(r.fT b).2=(s.fT b).2:=by
 obtain⟨S',a,B',c,Q',d,rfl⟩:=h.dest;unfold Room.fT;dsimp only;split
 ·exact⟨h,rfl⟩
 ·exact⟨{ h with dm:=rfl,bp:=rfl },rfl⟩
def aX.gg(h:aX one r s)(p a b c:Int):aX one (r.gg p a b c).1 (s.gg p a b c).1/\(r.gg p a b c).2=(s.gg p a b c).2:=by
 obtain⟨S',d,B',e,Q',f,rfl⟩:=h.dest;unfold Room.gg;dsimp only;split
 ·exact⟨h,rfl⟩
 split
 ·exact⟨h,rfl⟩
 split
 ·exact⟨h,rfl⟩
 split
 ·exact⟨h,rfl⟩
 split
 ·exact⟨h,rfl⟩
 refine⟨?_,rfl⟩;have q:=((h.fO (p,0) (a:=.new) (b:=.new) ⟨rfl,rfl,rfl⟩).fO (p,1) (a:=.new) (b:=.new) ⟨rfl,rfl,rfl⟩).fO (p,2) (a:=.new) (b:=.new) ⟨rfl,rfl,rfl⟩;exact⟨rfl,rfl,rfl,rfl,rfl,rfl,rfl,rfl,q.bh,q.aD,q.di,q.az,q.ret⟩
def aX.iJ(h:aX one r s){k:Int}(b:k≠one)(o q t:Int):aX one (r.iJ k o q t).1 (s.iJ k o q t).1/\(r.iJ k o q t).2=(s.iJ k o q t).2:=by
 unfold Room.iJ;rw[h.bh k b];obtain⟨S',c,B',d,Q',e,rfl⟩:=h.dest;dsimp only;split
 ·exact⟨h,rfl⟩
 split
 ·exact⟨h,rfl⟩
 split
 ·exact⟨h,rfl⟩
 have a:=(h.sub k (Z ⟨o,false,0⟩)).fo k (Z (.new o q t));exact⟨⟨rfl,rfl,rfl,rfl,rfl,rfl,rfl,rfl,a.bh,a.aD,a.di,a.az,a.ret⟩,rfl⟩
def aX.dN(h:aX one r s){k:Int}(a:k≠one)(p l:Int):aX one (r.dN k p l).1 (s.dN k p l).1/\(r.dN k p l).2=(s.dN k p l).2:=by
 unfold Room.dN;rw[h.eG a,h.bh k a];obtain⟨S',b,B',c,Q',d,rfl⟩:=h.dest;dsimp only;split
 ·exact⟨h,rfl⟩
 split
 ·exact⟨h,rfl⟩
 split
 ·exact⟨h,rfl⟩
 split
 ·exact⟨h,rfl⟩
 split
 ·exact⟨h,rfl⟩
 split
 ·exact⟨h,rfl⟩
 split
 ·exact⟨h,rfl⟩
 rename_i y _ _ _;exact(h.sub k (Z ⟨y.own,true,p⟩)).fj a l
def aX.iy(h:aX one r s){k:Int}(a:k≠one)(l:Int):aX one (r.iy k l).1 (s.iy k l).1/\(r.iy k l).2=(s.iy k l).2:=by
 unfold Room.iy;rw[h.of a];obtain⟨S',b,B',c,Q',d,rfl⟩:=h.dest;dsimp only;split
 ·exact⟨h,rfl⟩
 split
 ·exact⟨h,rfl⟩
 split
 ·exact⟨h,rfl⟩
 exact h.fj a l
def aX.jE(h:aX one r s){k:Int}(b:k≠one):aX one (r.jE k).1 (s.jE k).1/\(r.jE k).2=(s.jE k).2:=by
 unfold Room.jE;rw[h.bh k b];obtain⟨S',c,B',d,Q',e,rfl⟩:=h.dest;dsimp only;split
 ·exact⟨h,rfl⟩
 split
 ·exact⟨h,rfl⟩
 split
 ·exact⟨h,rfl⟩
 have a:=((h.ji b 7).sub k I).fo k I;exact⟨⟨rfl,rfl,rfl,rfl,rfl,rfl,rfl,rfl,a.bh,a.aD,a.di,a.az,a.ret⟩,rfl⟩
def aX.fU(h:aX one r s):aX one r.fU.1 s.fU.1/\r.fU.2=s.fU.2:=by
 obtain⟨S',a,B',b,Q',c,rfl⟩:=h.dest;unfold Room.fU;dsimp only;split
 ·exact⟨h,rfl⟩
 ·exact⟨{ h with cN:=rfl },rfl⟩
def aX.fg(h:aX one r s)(o:bN):aX one (r.fg o) (s.fg o):=by
 unfold Room.fg;have q:=h.az o;cases hr:r.az o<;>cases c:s.az o<;>rw[hr,c]at q
 ·exact h
 ·exact q.elim
 ·exact q.elim
 ·rename_i a b;simp only;have k:=h.fO o (a:={ a with dJ:=(iK r.dA.eA r.dA.ek a.dJ (r.wanted o) r.cJ).1 }) (b:={ b with dJ:=(iK s.dA.eA s.dA.ek b.dJ (s.wanted o) s.cJ).1 }) q;split<;>split<;>exact { k with }
def aX.tick(h:aX one r s):aX one r.tick.1 s.tick.1/\r.tick.2=s.tick.2:=by
 obtain⟨S',a,B',b,Q',c,rfl⟩:=h.dest;unfold Room.tick;dsimp only;split
 ·exact⟨h,rfl⟩
 ·refine⟨aX.foldl Room.fg (λr s o q=>q.fg o) eX ?_,rfl⟩;exact { h with cJ:=rfl }
def aX.fE(h:aX one r s){l m:List Int}(a:l.filter (λk=>decide (k≠one))=m.filter (λk=>decide (k≠one)))(id:Nat)(e:Int):aX one (fE r id l e) (fE s id m e):=by
 unfold M.fE;split
 ·exact h.vE a _ _
 split
 ·exact h.vE a _ _
 split
 ·exact h.vE a _ _
 exact h
def aX.ka(h:aX one r s)(o:bN){a b:eu}(e:a.bQ=b.bQ/\a.any=b.any/\a.dv=b.dv)(p:cR)(n:Int)(buf:mf){l m:List Int}(hm:∀x,x≠one->(x∈l↔x∈m)) :
  aX one (ka r o a p n buf l) (ka s o b p n buf m):=by
 have q:=h.fO o (a:={ a with bQ:=buf,any:=true,dv:=if !a.any||decide (a.dv<n) then n else a.dv,jc:=a.jc && !lx p.cF })
  (b:={ b with bQ:=buf,any:=true,dv:=if !b.any||decide (b.dv<n) then n else b.dv,jc:=b.jc && !lx p.cF }) ⟨rfl,rfl,by simp only[e.2.1,e.2.2]⟩
 refine { q with aO:=congrArg (· ++ [(⟨o,n,p⟩:kM)]) h.aO,bp:=congrArg (λc:nH=>{ c with fP:=c.fP+1 }) h.bp,di:=λx f=>?_ };show(if x∈l then set (r.di x) r.aO.length (Z 0) else r.di x)=(if x∈m then set (s.di x) s.aO.length (Z 0) else s.di x);rw[h.di x f,h.aO];by_cases d:x∈m
 ·rw[if_pos d,if_pos ((hm x f).2 d)]
 ·rw[if_neg d,if_neg (λq=>d ((hm x f).1 q))]
def aX.je(h:aX one r s)(o:bN)(p:cR):aX one (r.je o p) (s.je o p):=by
 rw[mS,mS];have q:=h.az o;cases hr:r.az o<;>cases c:s.az o<;>rw[hr,c]at q
 ·exact h
 ·exact q.elim
 ·exact q.elim
 ·rename_i a b;simp only;rw[h.dA,h.cJ,h.aO,q.1,q.2.1,q.2.2];exact(h.ka o q p _ _ (λx d=>h.Pd o.1 d)).fE (h.ik o.1) _ _
def aX.read(h:aX one r s):aX one r.read s.read:=by
 obtain⟨S',a,B',c,Q',d,rfl⟩:=h.dest;unfold Room.read;dsimp only;cases e:r.dm with
 |nil=>simp only;rw[e]at h;exact h
 |cons b q =>
  simp only;have k:aX one { r with dm:=q } { r with dm:=q,bh:=S',aD:=a,di:=B',az:=c,cj:=Q',returned:=d }:={ h with dm:=rfl };split
  ·cases ff b with
   |none=>exact k.count _
   |some l=>exact((aX.MZ l _).trans (k.count _)).trans (aX.MZ l _).symm
  ·split
   ·exact k.count _
   ·cases r.cW (eP b).1.bJ with
    |none=>exact k.count _
    |some o=>exact k.je o _
def aX.iW(h:aX one r s)(x:Item)(k:Int):aX one (Room.iW x r k) (Room.iW x s k):=by
 by_cases e:k=one
 ·subst e;exact((aX.Qq x r).trans h).trans (aX.Qq x s).symm
 ·unfold Room.iW;rw[h.di k e,h.aD k e];split
  ·cases s.aD k with
   |none=>exact h
   |some l =>
    simp only;rw[h.dA];cases(l.put s.dA.aG x).2 with
    |none=>simp only;have q:=h.fo k (Z (l.put s.dA.aG x).1);rw[h.dA]at q;exact q
    |some i=>simp only;have q:=(h.fo k (Z (l.put s.dA.aG x).1)).bR k i 6;rw[h.dA]at q;exact q
  ·exact h
def aX.order(h:aX one r s):aX one r.order s.order:=by
 unfold Room.order;rw[h.ready];cases s.ready with
 |none=>exact h
 |some o =>
  simp only;have q:=h.az o;cases hr:r.az o<;>cases g:s.az o<;>rw[hr,g]at q
  ·exact h
  ·exact q.elim
  ·exact q.elim
  ·rename_i a b;obtain⟨d,e,f,a1,a2⟩:=a;obtain⟨i,ba,bg,b1,b2⟩:=b;obtain⟨rfl,rfl,rfl⟩:d=i/\e=ba/\f=bg:=q;simp only;cases d.bD with
   |nil=>exact h
   |cons c t =>
    simp only;have j:=h.fO o (a:=⟨d.least,e,f,a1,a2⟩) (b:=⟨d.least,e,f,b1,b2⟩) ⟨rfl,rfl,rfl⟩;rw[show(r.aO.getD c.id ⟨(0,0),0,.zero⟩)=s.aO.getD c.id ⟨(0,0),0,.zero⟩ from by rw[h.aO]];exact aX.foldl _ (λr s k q=>q.iW _ k) gF j
def aX.gq(h:aX one r s){k:Int}(a:k≠one):aX one (r.gq k) (s.gq k):=by
 unfold Room.gq;rw[h.aD k a];cases s.aD k with
 |none=>exact h
 |some l =>
  simp only;split
  ·exact(h.fo k _).bR k _ _
  ·exact h.fo k _
def aX.fD(h:aX one r s){k:Int}(a:k≠one):aX one (r.fD k) (s.fD k):=by
 unfold Room.fD;rw[h.aD k a];obtain⟨S',b,B',c,Q',d,rfl⟩:=h.dest;dsimp only;cases b k with
 |none=>exact h
 |some l =>
  simp only;cases(l.eO r.dA.aG).2 with
  |none=>exact h.fo k (Z (l.eO r.dA.aG).1)
  |some i=>exact(h.fo k (Z (l.eO r.dA.aG).1)).bR k i 6
def aX.kg(h:aX one r s)(k:Int)(l:dP)(id:Nat)(f:Int):aX one (kg r k l id f) (kg s k l id f):=by
 unfold M.kg;split
 ·exact(h.fo k (Z l)).bR k id 1
 ·exact h.fo k (Z l)
def aX.nA(h:aX one r s){k:Int}(b:k≠one)(g:Bool):aX one (nA r k g) (nA s k g):=by
 unfold M.nA;split
 ·have c:=h.ji b 7;refine { c with bh:=λx a=>?_ };show(match r.bh k with | some y=>if y.cL then set r.bh k (Z ⟨y.own,false,0⟩) else r.bh | none=>r.bh) x=(match s.bh k with | some y=>if y.cL then set s.bh k (Z ⟨y.own,false,0⟩) else s.bh | none=>s.bh) x;rw[h.bh k b];cases s.bh k with
  |none=>exact h.bh x a
  |some y =>
   simp only;split
   ·exact yM (h.bh x a) _ rfl
   ·exact h.bh x a
 ·exact h
def aX.jS(h:aX one r s){k:Int}(b:k≠one)(a:Bool):aX one (r.jS k a) (s.jS k a):=by
 rw[kh,kh,h.aD k b];cases s.aD k with
 |none=>exact h
 |some l=>simp only;rw[h.dA];exact(h.kg k _ _ _).nA b _
def aX.cP(h:aX one r s)(o:bN):aX one (r.cP o) (s.cP o):=by
 unfold Room.cP;have q:=h.az o;cases hr:r.az o<;>cases c:s.az o<;>rw[hr,c]at q
 ·exact h
 ·exact q.elim
 ·exact q.elim
 ·rename_i a b;obtain⟨d,e,f,a1,a2⟩:=a;obtain⟨g,ba,bg,b1,b2⟩:=b;obtain⟨rfl,rfl,rfl⟩:d=g/\e=ba/\f=bg:=q;exact aX.foldl _ (λr s id q=>aX.foldl _ (λr s k q=>q.bR k id 8) gF q) _ (h.fO o ⟨rfl,rfl,rfl⟩)
def Na(w b:eK)(h:ahead w=Z b):(w.1=1->b=(0,0))/\(w.1=2->b=(1,0))/\(w.1≠1->w.1≠2->b=(w.1-1,w.2)):=by
 unfold ahead at h;split at h
 ·cases h
 split at h
 ·cases h;exact⟨λ_=>rfl,λq=>z,λq=>z⟩
 split at h
 ·cases h;exact⟨λq=>z,λ_=>rfl,λ_ q=>z⟩
 ·cases h;exact⟨λq=>z,λq=>z,λ_ _=>rfl⟩
def aX.returned(h:aX one r s)(w:eK)(hw:2<=w.1->w.2≠one):aX one (back r w) (back s w):=by
 have e:qz r w=qz s w:=by
  unfold qz;cases c:ahead w with
  |none=>rfl
  |some b =>
   obtain⟨a1,a2,a3⟩:=Na w b c;refine decide_eq_decide.2 (h.ret b λa=>?_);by_cases h1:w.1=1
   ·rw[a1 h1]at a;simp at a
   ·by_cases h2:w.1=2
    ·rw[a2 h2]at a;simp at a
    ·rw[a3 h1 h2]at a ⊢;exact hw (by simp at a;omega)
 unfold back;rw[e];split
 ·refine { h with ret:=λv d=>?_ };show v∈r.returned++[w]↔v∈s.returned++[w];rw[bt,bt,h.ret v d]
 ·exact h
def aX.jd(h:aX one r s)(w:eK)(hw:2<=w.1->w.2≠one)(a:0<=w.1):aX one (jd r w) (jd s w):=by
 unfold M.jd;by_cases h0:w.1=0
 ·rw[if_pos h0,if_pos h0];refine { h with dm:=rfl,bp:=?_ };show({ r.bp with jw:=r.bp.jw+r.dm.length }:nH)={ s.bp with jw:=s.bp.jw+s.dm.length };rw[h.bp,h.dm]
 ·rw[if_neg h0,if_neg h0];by_cases h1:w.1=1
  ·rw[if_pos h1,if_pos h1];exact aX.foldl Room.cP (λr s o q=>q.cP o) eX h
  ·rw[if_neg h1,if_neg h1];have h2:w.2≠one:=hw z;rw[h.aD w.2 h2];cases s.aD w.2 with
   |none=>exact h
   |some l =>
    simp only;split
    ·exact(h.fo w.2 _).fI w.2 _
    split
    ·exact(h.fo w.2 _).fI w.2 _
    ·exact(h.fo w.2 _).fI w.2 _
def aX.ku(h:aX one r s)(w:eK)(hw:2<=w.1->w.2≠one)(a:0<=w.1):aX one (r.ku w) (s.ku w):=(h.jd w hw a).returned w hw
def Gq{r:Room}{w:eK}(h:r.may w=true):w∈r.dF:=by
 unfold Room.may at h;simp only[Bool.and_eq_true,decide_eq_true_eq]at h;exact h.1
def aX.pick(h:aX one r s)(w:eK)(a:Bool)(hw:2<=w.1->w.2≠one):aX one (r.pick w a).1 (s.pick w a).1/\(r.pick w a).2=(s.pick w a).2:=by
 unfold Room.pick;rw[h.may w hw];by_cases hm:s.may w=true
 ·have b:¬(!s.may w)=true:=by rw[hm];simp
  rw[if_neg b,if_neg b];refine⟨?_,rfl⟩;have d:=(mA s w).1 (Gq hm);have g:0<=w.1:=by
   rcases d with q|q | ⟨q,_⟩
   ·rw[q];decide
   ·rw[q];decide
   ·omega
  have f:=h.cN;by_cases c:s.cN=true
  ·have e:r.cN=true:=by rw[f];exact c
   show aX one (if r.cN=true then _ else _) (if s.cN=true then _ else _);rw[if_pos c,if_pos e];exact h.ku w hw g
  ·have e:¬r.cN=true:=by rw[f];exact c
   show aX one (if r.cN=true then _ else _) (if s.cN=true then _ else _);rw[if_neg c,if_neg e];split
   ·exact h.read
   split
   ·exact h.order
   split
   ·exact h.gq (hw z)
   split
   ·exact h.fD (hw z)
   ·exact h.jS (hw z) a
 ·have b:(!s.may w)=true:=by simp[hm]
  rw[if_pos b,if_pos b];exact⟨h,rfl⟩
def MY(R:Room)(w:eK)(h2:2<=w.1)(hR:aX w.2 R r):aX w.2 (back R w) r:=by
 unfold back;split
 ·refine aX.trans { aX.refl w.2 R with ret:=λv a=>?_ } hR;show v∈R.returned++[w]↔v∈R.returned;rw[bt];constructor
  ·rintro(q|q)
   ·exact q
   ·simp at q;subst q;exact absurd rfl (a h2)
  ·exact aJ
 ·exact hR
def Ha(r:Room)(k:Int):aX k (r.gq k) r:=by
 unfold Room.gq;cases r.aD k with
 |none=>exact aX.refl _ _
 |some l =>
  simp only;split
  ·exact(aX.rT _ _ _).trans (aX.rX r _)
  ·exact aX.rX r _
def DE(r:Room)(k:Int):aX k (r.fD k) r:=by
 unfold Room.fD;cases r.aD k with
 |none=>exact aX.refl _ _
 |some l =>
  simp only;cases(l.eO r.dA.aG).2 with
  |none=>exact aX.rX r _
  |some i=>exact(aX.rT _ _ _).trans (aX.rX r _)
def IQ(r:Room)(k:Int)(a:Bool):aX k (r.jS k a) r:=by
 rw[kh];cases r.aD k with
 |none=>exact aX.refl _ _
 |some l =>
  simp only;generalize (l.write r.dA.aT a).1=d;generalize (l.write r.dA.aT a).2.1=id;generalize (l.write r.dA.aT a).2.2=f;have b:aX k (M.kg r k d id f) r:=by
   unfold M.kg;split
   ·exact(aX.rT _ _ _).trans (aX.rX r _)
   ·exact aX.rX r _
  generalize M.kg r k d id f=R at b ⊢;unfold M.nA;split
  ·have e:=(aX.QF (one:=k) R 7).trans b;refine { e with bh:=λx c=>?_ };show(match R.bh k with | some y=>if y.cL then set R.bh k (Z ⟨y.own,false,0⟩) else R.bh | none=>R.bh) x=_;cases R.bh k with
   |none=>exact b.bh x c
   |some y =>
    simp only;split
    ·exact(yL c).trans (b.bh x c)
    ·exact b.bh x c
  ·exact b
def J8(r:Room)(w:eK)(h2:2<=w.1):aX w.2 (M.jd r w) r:=by
 unfold M.jd;rw[if_neg z,if_neg z];cases r.aD w.2 with
 |none=>exact aX.refl _ _
 |some l =>
  simp only;split
  ·exact(aX.tI _ _).trans (aX.rX r _)
  split
  ·exact(aX.tI _ _).trans (aX.rX r _)
  ·exact(aX.tI _ _).trans (aX.rX r _)
def Lw(r:Room)(w:eK)(a:Bool)(h2:2<=w.1)(hw:w.2=one):aX one (r.pick w a).1 r:=by
 subst hw;unfold Room.pick;split
 ·exact aX.refl _ _
 show aX w.2 (if r.cN=true then _ else _) r;split
 ·exact MY _ w h2 (J8 r w h2)
 rw[if_neg z,if_neg z];split
 ·exact Ha r w.2
 split
 ·exact DE r w.2
 ·exact IQ r w.2 a
def Oo(r:Room)(x:Act)(h:4<=x.nv/\x.nv<=7/\x.sub=one\/x.nv=1/\2<=x.w.1/\x.w.2=one):aX one (r.act x).1 r:=by
 unfold Room.act;rcases h with⟨h1,h2,h3⟩ | ⟨h1,h2,h3⟩
 ·rw[if_neg z,if_neg z,if_neg z,if_neg z];subst h3;split
  ·unfold Room.iJ;repeat' split
   all_goals first|exact aX.refl _ _|exact(aX.rX { r with bh:=set r.bh x.sub (Z ⟨x.own,false,0⟩) } _).trans (aX.Pe r _)
  split
  ·unfold Room.dN;repeat' split
   all_goals first|exact aX.refl _ _|exact(aX.Br _ _).trans (aX.Pe r _)
  split
  ·unfold Room.iy;repeat' split
   all_goals first|exact aX.refl _ _|exact aX.Br _ _
  rw[if_pos z];unfold Room.jE;repeat' split
  all_goals first|exact aX.refl _ _|exact((aX.rX { (r.ji x.sub 7) with bh:=set r.bh x.sub I } _).trans (aX.Pe (r.ji x.sub 7) _)).trans (aX.QF r 7)
 ·rw[if_neg z,if_pos h1];exact Lw r x.w x.fq h2 h3
def aX.act(h:aX one r s)(x:Act)(e:¬(4<=x.nv/\x.nv<=7/\x.sub=one\/x.nv=1/\2<=x.w.1/\x.w.2=one)):aX one (r.act x).1 (s.act x).1/\(r.act x).2=(s.act x).2:=by
 have key:∀{a b:Room×Int},aX one a.1 b.1/\a.2=b.2->aX one (a.1,a.2,false).1 (b.1,b.2,false).1/\(a.1,a.2,false).2=(b.1,b.2,false).2:=λq=>⟨q.1,by rw[show _=_ from q.2]⟩;have d:4<=x.nv->x.nv<=7->x.sub≠one:=λa b c=>e (aJ ⟨a,b,c⟩);have hp:x.nv=1->2<=x.w.1->x.w.2≠one:=λa b c=>e (aZ ⟨a,b,c⟩);unfold Room.act;split
 ·exact key (h.fT x.b)
 split
 ·have q:=h.pick x.w x.fq (hp (by assumption));exact⟨q.1,by rw[show _=_ from q.2]⟩
 split
 ·exact key h.tick
 split
 ·exact key (h.gg x.jo x.s0 x.s1 x.s2)
 split
 ·exact key (h.iJ (d z z) _ _ _)
 split
 ·exact key (h.dN (d z z) _ _)
 split
 ·exact key (h.iy (d z z) _)
 split
 ·exact key (h.jE (d z z))
 split
 ·exact key h.fU
 ·exact⟨h,rfl⟩
end M
end
section
namespace M
def eQ(r:Room):Room:={ r with bp:={ r.bp with cI:=r.bp.cI+1 } }
section
variable (r:Room)
def uG:(eQ r).dA=r.dA:=rfl
def kL:(eQ r).cN=r.cN:=rfl
def AI:(eQ r).returned=r.returned:=rfl
def Ab:(eQ r).cJ=r.cJ:=rfl
def Aa:(eQ r).dm=r.dm:=rfl
def wO:(eQ r).cW=r.cW:=rfl
def wN:(eQ r).aQ=r.aQ:=rfl
def xJ:(eQ r).bh=r.bh:=rfl
def nF:(eQ r).aD=r.aD:=rfl
def oj:(eQ r).az=r.az:=rfl
def C7:(eQ r).aO=r.aO:=rfl
def AJ:(eQ r).cj=r.cj:=rfl
def Kr:(eQ r).di=r.di:=rfl
def kX{α:Type}(f:Room->α->Room)(h:∀r a,f (eQ r) a=eQ (f r a)):∀(l:List α) r,l.foldl f (eQ r)=eQ (l.foldl f r)
 |[],r=>rfl
 |a::l,r=>by rw[eN,eN,h,kX f h l]
def EZ(p:Int):(eQ r).pj p=r.pj p:=rfl
def II(p:Int):(eQ r).of p=r.of p:=rfl
def Kq(p:Int):(eQ r).eG p=r.eG p:=rfl
def EV(o:bN):(eQ r).wanted o=r.wanted o:=rfl
def Hh:(eQ r).ready=r.ready:=rfl
def MT(w:eK):(eQ r).may w=r.may w:=rfl
def Hl:(eQ r).ended=r.ended:=rfl
def Hg:(eQ r).waits=r.waits:=rfl
def mD(s:Int)(id:Nat)(f:Int):(eQ r).bR s id f=eQ (r.bR s id f):=by
 show(if r.di s id=Z 0 then _ else _)=eQ (if r.di s id=Z 0 then _ else _);split<;>rfl
def ud(s:List Int)(id:Nat)(f:Int):s.foldl (λr s=>r.bR s id f) (eQ r)=eQ (s.foldl (λr s=>r.bR s id f) r):=kX _ (λr a=>mD r a id f) s r
def ry(s:Int)(ids:List Nat):(eQ r).fI s ids=eQ (r.fI s ids):=kX _ (λr a=>mD r s a 8) ids r
def AN(o:bN)(f:eu->eu):(eQ r).fG o f=eQ (r.fG o f):=by
 unfold Room.fG;rw[oj];cases r.az o<;>rfl
def E0(b:cQ):(eQ r).fT b=(eQ (r.fT b).1,(r.fT b).2):=by
 unfold Room.fT;rw[kL];split
 ·rfl
 ·show(_,_)=(_,_);rw[uG,Aa];by_cases h:r.dm.length=r.dA.aG<;>simp[h,eQ]
def C6(p a b c:Int):(eQ r).gg p a b c=(eQ (r.gg p a b c).1,(r.gg p a b c).2):=by
 unfold Room.gg;rw[kL,wN,wO];by_cases h1:r.cN=true<;>by_cases h2:(!mB p)=true<;>by_cases h3:b=a\/c=a\/c=b<;>by_cases h4:(r.aQ (p,0)).isSome=true<;>by_cases h5:(r.cW a).isSome=true\/(r.cW b).isSome=true\/(r.cW c).isSome=true<;>simp only[h1,h2,h3,h4,h5,if_true,if_false,cB]<;>rfl
def Ko(s o q t:Int):(eQ r).iJ s o q t=(eQ (r.iJ s o q t).1,(r.iJ s o q t).2):=by
 unfold Room.iJ;rw[kL,xJ];by_cases h1:r.cN=true<;>by_cases h2:(!fY s)=true<;>by_cases h3:(r.bh s).isSome=true<;>simp only[h1,h2,h3,if_true,if_false,cB]<;>rfl
def vy(s l:Int):(eQ r).fj s l=(eQ (r.fj s l).1,(r.fj s l).2):=by
 unfold Room.fj;rw[nF];cases r.aD s<;>rfl
def zY(s p l:Int):(eQ r).dN s p l=(eQ (r.dN s p l).1,(r.dN s p l).2):=by
 unfold Room.dN;rw[kL,Kq,xJ,wN];by_cases h1:r.cN=true
 ·rw[if_pos h1,if_pos h1]
 rw[if_neg h1,if_neg h1];by_cases h2:(!there l)=true
 ·rw[if_pos h2,if_pos h2]
 rw[if_neg h2,if_neg h2];by_cases h3:r.eG s=true
 ·rw[if_pos h3,if_pos h3]
 rw[if_neg h3,if_neg h3];by_cases h4:(!fY s || !mB p)=true
 ·rw[if_pos h4,if_pos h4]
 rw[if_neg h4,if_neg h4];cases a:r.bh s with
 |none=>rfl
 |some x =>
  simp only;by_cases h5:(!(r.aQ (p,0)).isSome)=true
  ·rw[if_pos h5,if_pos h5]
  rw[if_neg h5,if_neg h5];by_cases h6:x.cL=true
  ·rw[if_pos h6,if_pos h6]
  rw[if_neg h6,if_neg h6];exact vy { r with bh:=set r.bh s (Z ⟨x.own,true,p⟩) } s l
def Kk(s l:Int):(eQ r).iy s l=(eQ (r.iy s l).1,(r.iy s l).2):=by
 unfold Room.iy;rw[kL,II,vy];by_cases h1:r.cN=true<;>by_cases h2:(!fY s || !there l)=true<;>by_cases h3:(r.of s).isNone=true<;>simp only[h1,h2,h3,if_true,if_false,cB]<;>rfl
def Hk(s:Int):(eQ r).jE s=(eQ (r.jE s).1,(r.jE s).2):=by
 unfold Room.jE;rw[kL,xJ];by_cases h1:r.cN=true<;>by_cases h2:(!fY s)=true<;>by_cases h3:(r.bh s).isNone=true<;>simp only[h1,h2,h3,if_true,if_false,cB]<;>rfl
def AH:(eQ r).fU=(eQ r.fU.1,r.fU.2):=by
 unfold Room.fU;rw[kL];by_cases h1:r.cN=true<;>simp only[h1,if_true,if_false,cB]<;>rfl
def EW(o:bN):(eQ r).fg o=eQ (r.fg o):=by
 unfold Room.fg;rw[oj];cases r.az o with
 |none=>rfl
 |some s =>
  simp only[EV,uG,Ab];by_cases h:(iK r.dA.eA r.dA.ek s.dJ (r.wanted o) r.cJ).2=true<;>simp only[h,if_true,if_false,cB]<;>rfl
def Kl:(eQ r).tick=(eQ r.tick.1,r.tick.2):=by
 unfold Room.tick;rw[kL];by_cases h1:r.cN=true
 ·rw[if_pos h1,if_pos h1]
 ·rw[if_neg h1,if_neg h1];exact congrArg (λX:Room=>(X,(0:Int))) (kX Room.fg EW eX { r with cJ:=r.cJ+1 })
def MU(s:Int):(eQ r).ask s=eQ (r.ask s):=by
 unfold Room.ask;rw[EZ];refine kX _ (λr s=>?_) _ r;rw[II,nF];cases r.of s with
 |none=>rfl
 |some jo=>cases r.aD s with
  |none=>rfl
  |some l =>
   simp only
   by_cases h:(l.wanted&&there l.dx)=true
   ·simp only[h,if_true];exact AN r _ _
   ·simp only[h,cB,if_false]
def Ac(id:Nat)(l:List Int)(e:Int):fE (eQ r) id l e=eQ (fE r id l e):=by
 unfold fE;by_cases h1:e=10
 ·rw[if_pos h1,if_pos h1];exact ud _ _ _ _
 ·rw[if_neg h1,if_neg h1];by_cases h2:e=9
  ·rw[if_pos h2,if_pos h2];exact ud _ _ _ _
  ·rw[if_neg h2,if_neg h2];by_cases h3:e=8
   ·rw[if_pos h3,if_pos h3];exact ud _ _ _ _
   ·rw[if_neg h3,if_neg h3]
def E8(o:bN)(p:cR):(eQ r).je o p=eQ (r.je o p):=by
 rw[mS,mS,oj];cases r.az o with
 |none=>rfl
 |some s=>exact Ac (ka r o s p (if s.any then jL s.dv p.dQ else nE p.dQ) (s.bQ.push r.dA.eJ (if s.any then jL s.dv p.dQ else nE p.dQ) r.cJ r.aO.length).1 (r.ik o.1)) _ _ _
def Km:(eQ r).read=eQ r.read:=by
 unfold Room.read;rw[Aa];cases r.dm with
 |nil=>rfl
 |cons b q =>
  simp only[wO];by_cases h1:control b=true
  ·simp only[h1,if_true];cases ff b with
   |none=>rfl
   |some l=>exact kX Room.ask MU l (Room.count { r with dm:=q } λc=>{ c with ff:=c.ff+1 })
  ·simp only[h1];by_cases h2:(eP b).2≠0
   ·simp only[if_pos h2];rfl
   ·simp only[if_neg h2];cases r.cW (eP b).1.bJ with
    |none=>rfl
    |some o=>exact E8 { r with dm:=q } o _
def Hi(x:Item)(s:Int):Room.iW x (eQ r) s=eQ (Room.iW x r s):=by
 unfold Room.iW;rw[Kr,nF];by_cases h:r.di s x.id=Z 0
 ·simp only[if_pos h];cases r.aD s with
  |none=>rfl
  |some l =>
   simp only[uG];cases(l.put r.dA.aG x).2 with
   |none=>rfl
   |some i=>exact mD { r with aD:=set r.aD s (Z (l.put r.dA.aG x).1) } s i 6
 ·simp only[if_neg h]
def Hj:(eQ r).order=eQ r.order:=by
 unfold Room.order;rw[Hh];cases r.ready with
 |none=>rfl
 |some o =>
  simp only[oj];cases r.az o with
  |none=>rfl
  |some s =>
   simp only[C7];cases s.bQ.bD with
   |nil=>rfl
   |cons h t=>exact kX _ (λr s=>Hi r _ s) gF { r with az:=set r.az o (Z { s with bQ:=s.bQ.least }) }
def AO(s:Int):(eQ r).gq s=eQ (r.gq s):=by
 unfold Room.gq;rw[nF];cases r.aD s with
 |none=>rfl
 |some l =>
  simp only;by_cases h:l.gJ.2.2≠0
  ·simp only[if_pos h];exact mD { r with aD:=set r.aD s (Z l.gJ.1) } s _ _
  ·simp only[if_neg h];rfl
def zZ(s:Int):(eQ r).fD s=eQ (r.fD s):=by
 unfold Room.fD;rw[nF];cases r.aD s with
 |none=>rfl
 |some l =>
  simp only[uG];cases(l.eO r.dA.aG).2 with
  |none=>rfl
  |some i=>exact mD { r with aD:=set r.aD s (Z (l.eO r.dA.aG).1) } s i 6
def EU(s:Int)(l:dP)(id:Nat)(f:Int):kg (eQ r) s l id f=eQ (kg r s l id f):=by
 unfold kg;by_cases h:f=1
 ·rw[if_pos h,if_pos h];exact mD { r with aD:=set r.aD s (Z l) } s _ _
 ·rw[if_neg h,if_neg h];rfl
def ET(s:Int)(g:Bool):nA (eQ r) s g=eQ (nA r s g):=by cases g<;>rfl
def C2(s:Int)(a:Bool):(eQ r).jS s a=eQ (r.jS s a):=by
 rw[kh,kh,nF];cases r.aD s with
 |none=>rfl
 |some l=>simp only;rw[uG,EU,ET]
def xK(o:bN):(eQ r).cP o=eQ (r.cP o):=by
 unfold Room.cP;rw[oj];cases r.az o with
 |none=>rfl
 |some s=>exact kX _ (λr id=>kX _ (λr sub=>mD r sub id 8) gF r) _ { r with az:=set r.az o (Z { s with bQ:=mf.iu s.bQ.bD.length s.bQ }) }
def C8(w:eK):(eQ r).ku w=eQ (r.ku w):=by
 have key:∀R:Room,(if(match ahead w with | none=>true | some b=>decide (b∈(eQ R).returned)) then { (eQ R) with returned:=(eQ R).returned++[w] } else eQ R) =
   eQ (if(match ahead w with | none=>true | some b=>decide (b∈R.returned)) then { R with returned:=R.returned++[w] } else R):=by
  intro R;rw[AI];by_cases h:(match ahead w with | none=>true | some b=>decide (b∈R.returned))=true
  ·rw[if_pos h,if_pos h];rfl
  ·rw[if_neg h,if_neg h]
 unfold Room.ku;by_cases h0:w.1=0
 ·simp only[if_pos h0];exact key { r with dm:=[],bp:={ r.bp with jw:=r.bp.jw+r.dm.length } }
 ·simp only[if_neg h0];by_cases h1:w.1=1
  ·simp only[if_pos h1];rw[kX Room.cP xK];exact key _
  ·simp only[if_neg h1];rw[nF];cases r.aD w.2 with
   |none=>exact key r
   |some l =>
    simp only;by_cases h2:w.1=2
    ·simp only[if_pos h2];rw[show({ eQ r with aD:=set r.aD w.2 (Z { l with cK:=[] }) }:Room)=eQ { r with aD:=set r.aD w.2 (Z { l with cK:=[] }) } from rfl,ry];exact key _
    ·simp only[if_neg h2];by_cases h3:w.1=3
     ·simp only[if_pos h3];rw[show({ eQ r with aD:=set r.aD w.2 (Z { l with bF:=[] }) }:Room)=eQ { r with aD:=set r.aD w.2 (Z { l with bF:=[] }) } from rfl,ry];exact key _
     ·simp only[if_neg h3];rw[show({ eQ r with aD:=set r.aD w.2 (Z { l with ready:=[] }) }:Room)=eQ { r with aD:=set r.aD w.2 (Z { l with ready:=[] }) } from rfl,ry];exact key _
def Kn(w:eK)(a:Bool):(eQ r).pick w a=(eQ (r.pick w a).1,(r.pick w a).2):=by
 unfold Room.pick;rw[MT,kL];by_cases h:(!r.may w)=true
 ·simp only[h,if_true]
 ·simp only[h];by_cases h1:r.cN=true
  ·simp only[h1,if_true,C8];rfl
  ·simp only[h1];by_cases h2:w.1=0
   ·simp only[if_pos h2,Km];rfl
   ·simp only[if_neg h2];by_cases h3:w.1=1
    ·simp only[if_pos h3,Hj];rfl
    ·simp only[if_neg h3];by_cases h4:w.1=2
     ·simp only[if_pos h4,AO];rfl
     ·simp only[if_neg h4];by_cases h5:w.1=3
      ·simp only[if_pos h5,zZ];rfl
      ·simp only[if_neg h5,C2];rfl
def MV(x:Act):(eQ r).act x=(eQ (r.act x).1,(r.act x).2):=by
 unfold Room.act;rw[E0,Kn,Kl,C6,Ko,zY,Kk,Hk,AH];repeat' split
 all_goals rfl
end
end M
end
def IF{P:Program}(w:aw)(d:Nat)(t e:TypeId)(n:Nat)(ht:P.underlying t=Z (.array n e))(he:P.underlying e=Z (.int V))(a:∀w,(sizeOf e).run P w=.ok 1 w)(xs:List Int)(m:xs.length=n) :
  (pC (d+2) t (cg (xs.map (J V)).toArray) (cg (xs.map (J V)).toArray)).run P w=.ok true w:=by
 rw[pC];simp only[Sem.run_bind,oE ht,kR,a,Std.Legacy.Range.forIn_eq_forIn_range',Std.Legacy.Range.size,Nat.sub_zero,Nat.add_sub_cancel,Nat.div_one];have b:∀i∈List.range' 0 n 1,i<n:=λi c=>by simpa using(List.mem_range'_1.1 c).2
 generalize List.range' 0 n 1=l at b ⊢;induction l with
 |nil=>simp
 |cons i l f =>
  have c:i<n:=b i dt;have g:(part e (xs.map (J V)).toArray (i*1)).run P w=.ok (J V (xs.getD i 0)) w:=by
   simp[part,isAgg,oE he,List.getD,List.getElem?_eq_getElem (z:i<xs.length)]
  have h:(pC (d+1) e (J V (xs.getD i 0)) (J V (xs.getD i 0))).run P w=.ok true w:=by
   rw[run_equalIn_int w d e V V _ _ he];simp
  simp only[List.forIn_cons,Sem.run_bind,g,h,kR];simp only[Bool.not_true,cB,if_false,Sem.run_pure,kR];exact f λj k=>b j (by simp[k])
def OC(w:aw):(sizeOf 3).run af w=.ok 1 w:=by
 have h:(af.info? 3).map (·.size)=Z 1:=cC;cases a:af.info? 3 with
 |none=>simp[a]at h
 |some i =>
  have:i.size=1:=by simpa[a]using h
  simp[sizeOf,typeInfo,a,this]
def QD(a b c:Int)(w:aw):(pC 10000 69 (cg #[J V a,J V b,J V c]) (cg #[J V a,J V b,J V c])).run af w=.ok true w:=
 IF w 9998 69 3 3 underlying69 underlying3 OC [a,b,c] rfl
def QE(l:List Int)(a:l.length=9)(w:aw):(pC 10000 46 (cg (l.map (J V)).toArray) (cg (l.map (J V)).toArray)).run af w=.ok true w:=
 IF w 9998 46 3 9 underlying46 underlying3 OC l a
def numOf(l:List UInt8):Int:=l.foldl (λn c=>10*n+((c.toNat:Int)-48)) 0
def Ka(l:List UInt8):Bool:=l.all λc=>decide (48<=c.toNat)&&decide (c.toNat<=57)
def zx(l:List UInt8)(c:UInt8):numOf (l++[c])=10*numOf l+((c.toNat:Int)-48):=by unfold numOf;rw[List.foldl_append];rfl
def Ez{l:List UInt8}(h:Ka l=true){c:UInt8}(a:c∈l):48<=c.toNat/\c.toNat<=57:=by
 unfold Ka at h;have:=List.all_eq_true.1 h c a;simpa using this
def DW(l:List UInt8)(h:Ka l=true):∀k,k<=9->k<=l.length->0<=numOf (l.take k)/\numOf (l.take k)+1<=10 ^ k
 |0,_,_=>by simp[numOf]
 |k+1,h9,a=>by
  obtain⟨i1,i2⟩:=DW l h k z z;have b:=Ez h (dy (z:k<l.length));rw[dK z,zx];have:(10:Int) ^ (k+1)=10*10 ^ k:=by rw[Int.pow_succ];omega
  omega
def xg(s:ByteArray)(aT:Int)(w:aw)(o:Ka s.data.toList=true)(h1:1<=s.size)(h9:s.size<=9)(hm:numOf s.data.toList<=aT) :
  aF af 201 #[.string s,J V aT] w λe w'=>e=av (J V (numOf s.data.toList))/\aC w w':=by
 have p:=λw=>run_bytes_of_string (P:=af) w 9 38 5 s underlying9 underlying38 underlying5;have l:=DW _ o;have hlen:s.data.toList.length=s.size:=dt;obtain⟨B,C,D,f⟩:=cA hm o l hlen;have b1:decide ((s.size:Int)<1)=false:=dZ;have E:decide (9<(s.size:Int))=false:=dZ;clear hm o l hlen;go_enter func201,ntmps201;go_wp2_with fail;clear b1 E p;obtain⟨g,hg⟩:=dH w.heap.size;rw[<-hg];refine aW (λX=>(∀j (h:j<s.data.size),X.cell? ⟨g,j,I⟩=Z (J bI (s.data[j].toNat:Int)))/\aC w X) ⟨λj h=>?_,cd ((Below.refl _ w).alloc (aj _) _) 1⟩ ?_
 ·show(w.alloc _).cell? ⟨g,j,I⟩=_;rw[hg,cell_of_row _ _ j _ _ _ (heap_alloc_new w _)];exact bytesRow_at s _ j h
 clear hg;rintro X ⟨x,y⟩;obtain⟨F,q⟩:=bu x y;clear x y;go_loop [5,20] (λn i=>∃k:Nat,k<=s.size/\i=J V k/\n=J V (numOf (s.data.toList.take k))) (λ_ i=>s.size-(intOf i).toNat);case atStart=>exact⟨0,gG _,rfl,rfl⟩
 case round =>
  obtain⟨k,L,rfl,rfl⟩:=hrel;have m:=D.O k z (lE f.O);have hp:(10:Int) ^ k<=10 ^ 9:=by
   have G:k<=9:=z;rcases(z:k=0\/k=1\/k=2\/k=3\/k=4\/k=5\/k=6\/k=7\/k=8\/k=9) with rfl|rfl|rfl|rfl|rfl|rfl|rfl|rfl|rfl|rfl<;>decide
  have r:numOf (s.data.toList.take k)<=1000000000:=by have:(10:Int) ^ 9=1000000000:=aR;omega
  have t:=m.1;clear m hp;by_cases u:k<s.size
  ·have d:=F.O k u;have a:=Ez C.O (dy (show k<s.data.toList.length by have:=f.O;omega));have b:numOf (s.data.toList.take (k+1))=10*numOf (s.data.toList.take k)+((s.data.toList[k]'(by have:=f.O;omega)).toNat-48:Int):=by
    rw[dK (lE f.O),zx]
   have A:(s.data.toList[k]'(by have:=f.O;omega))=s.data[k]:=dt;rw[A]at b a;generalize s.data[k]=c at d a b;have HS:=au b;have d1:decide ((c.toNat:Int)<48)=false:=dZ;have d2:decide (57<(c.toNat:Int))=false:=dZ;clear b A;have H:=a.1;have K:=a.2;clear a;go_wp2_with fail;go_round;case rel=>exact⟨k+1,z,by go_num,by rw[HS.O]⟩
   case measure=>simp[intOf];omega
  ·have v:k=s.size:=z;subst v;have hm:=B.O;have e:s.data.toList.take s.size=s.data.toList:=List.take_of_length_le (lE f.O);rw[e]at r t ⊢;have d3:decide (aT<numOf s.data.toList)=false:=dZ;clear e;go_wp2_with fail;go_ret;exact⟨rfl,q.O⟩
end Go.Proofs.YtkfblammcilfhaaGreatDoor
open Go.Proofs.YtkfblammcilfhaaGreatDoor
namespace Go.Proofs
open Go.Shelf
def Tryz.CK:oG:=⟨fun | 171=>136 | 243=>200 | 246=>251 | 283=>284 | 284=>285 | 285=>286 | 286=>287 | 129=>270 | 317=>309 | 318=>310 | 319=>311 | 320=>312 | 337=>329 | 338=>330 | n=>n,fun | 3=>3 | 9=>9 | 2=>2 | 4=>4 | 171=>446 | 0=>0 | 53=>197 | 37=>38 | 5=>5 | 173=>448 | 212=>475 | 51=>41 | 20=>20 | 213=>476 | 46=>370 | 232=>494 | 233=>495 | n=>n,fun | 17=>3 | 18=>4 | 19=>5 | n=>n⟩
def Tryz.LW:Go.Proofs.LaysM.n171 af Tryz.CK:={
 mixed:=cC
 f129:=func270.trans (congrArg Z cC)
 f171:=func136.trans (congrArg Z cC)
 f243:=func200.trans (congrArg Z cC)
 f246:=func251.trans (congrArg Z cC)
 f283:=func284.trans (congrArg Z cC)
 f284:=func285.trans (congrArg Z cC)
 f285:=func286.trans (congrArg Z cC)
 f286:=func287.trans (congrArg Z cC)
 f317:=func309.trans (congrArg Z cC)
 f318:=func310.trans (congrArg Z cC)
 f319:=func311.trans (congrArg Z cC)
 f320:=func312.trans (congrArg Z cC)
 f337:=func329.trans (congrArg Z cC)
 f338:=func330.trans (congrArg Z cC)
 t0:=underlying0
 a0:=pS
 z0:=oL
 v0:=ma
 t2:=underlying2
 a2:=Tryz.isAgg2
 z2:=Tryz.sizeOf2
 v2:=Tryz.zeroValue2
 t3:=underlying3
 a3:=pR
 z3:=oK
 v3:=l8
 t4:=underlying4
 a4:=sE
 z4:=qF
 v4:=nz
 t5:=underlying5
 a5:=pQ
 z5:=oJ
 v5:=lZ
 t9:=underlying9
 a9:=pP
 z9:=oI
 v9:=lY
 t20:=underlying20
 a20:=Tryz.isAgg20
 z20:=Tryz.sizeOf20
 v20:=tC
 t37:=underlying38
 a37:=Tryz.isAgg38
 z37:=sP
 v37:=pB
 t46:=underlying370
 a46:=sQ
 z46:=rI
 v46:=oH
 t51:=underlying41
 a51:=Tryz.isAgg41
 z51:=sO
 v51:=pA
 t53:=underlying197
 a53:=Tryz.isAgg197
 z53:=Tryz.sizeOf197
 v53:=sD
 t171:=underlying446
 a171:=Tryz.isAgg446
 z171:=Tryz.sizeOf446
 v171:=Tryz.zeroValue446
 t173:=underlying448
 a173:=Tryz.isAgg448
 z173:=Tryz.sizeOf448
 v173:=Tryz.zeroValue448
 t212:=underlying475
 a212:=Tryz.isAgg475
 z212:=Tryz.sizeOf475
 v212:=Tryz.zeroValue475
 t213:=underlying476
 a213:=Tryz.isAgg476
 z213:=Tryz.sizeOf476
 t232:=underlying494
 a232:=Tryz.isAgg494
 z232:=Tryz.sizeOf494
 v232:=Tryz.zeroValue494
 t233:=underlying495
 a233:=Tryz.isAgg495
 z233:=Tryz.sizeOf495
 v233:=Tryz.zeroValue495
 g17:=cC
 g18:=cC
 g19:=cC
 i0:=cC
 i2:=cC
 i3:=cC
 i4:=cC
 i5:=cC
 i9:=cC
 i20:=cC
 i37:=cC
 i46:=cC
 i51:=cC
 i53:=cC
 i171:=cC
 i173:=cC
 i212:=cC
 i232:=cC
 i233:=cC
 m17:=cC
 m18:=cC
 m19:=by kernel_rfl }
open Go.RowKit Go.Sort Go.Lib in
theorem Tryz.strconv_Itoa (n:Int) (h0:-9223372036854775808<=n) (h1:n<=9223372036854775807) (w:aw) (a:Lib.TabIs af w "internal/strconv.uint64pow10" .u64 Lib.pow10Tab) :
  aF af 136 #[J V n] w λe w'=>e=av (.string ⟨(Lib.itoa n).toArray⟩)/\∃k os,w'=grow (w.drewN k) os:=Any.strconv_Itoa Tryz.LW n h0 h1 w a
end Go.Proofs
namespace Go.Proofs.YtkfblammcilfhaaGreatDoor
def vJ(p:Addr)(w:aw) :
  CallsD af 135 #[aq (Z p)] .returning w λe b w'=>e=av (aB #[])/\b=.returning/\w'=w:=by
 refine callsD_of_wpS func135 rfl λa cs hu=>?_;apply wpS_seq;apply wpS_region;simp[wpOpsS,go_sem,recoverD,hu,ntmps135,Exit.thenS];apply wpS_seq;apply wpS_region;simp[wpOpsS,go_sem,recoverD,hu,Exit.thenS];refine wpS_cond (t:=false) (by simp[Act.eval,Array.replicate]) ?_;simp only[cB,if_false];refine wpS_of_wp (wp_skip ?_);cases a;simp_all [bodyPostS,results,results135]
def J1(w:aw):aF af 138 #[.string ⟨#[114,111,111,109]⟩] w λe w'=>e=av (.string ⟨#[110,110,110,110,110,110]⟩)/\w'=w:=by
 go_enter func138,ntmps138;go_wp2_with fail;go_ret;exact⟨rfl,rfl⟩
def CO(w:aw):aF af 138 #[.string ⟨#[112,117,98,108,105,115,104]⟩] w λe w'=>e=av (.string ⟨#[110,110,110,110]⟩)/\w'=w:=by
 go_enter func138,ntmps138;go_wp2_with fail;go_ret;exact⟨rfl,rfl⟩
def J5(w:aw):aF af 138 #[.string ⟨#[106,111,105,110]⟩] w λe w'=>e=av (.string ⟨#[110,110,115,110]⟩)/\w'=w:=by
 go_enter func138,ntmps138;go_wp2_with fail;go_ret;exact⟨rfl,rfl⟩
def J0(w:aw):aF af 138 #[.string ⟨#[116,97,107,101]⟩] w λe w'=>e=av (.string ⟨#[110,110,110]⟩)/\w'=w:=by
 go_enter func138,ntmps138;go_wp2_with fail;go_ret;exact⟨rfl,rfl⟩
def ME(w:aw):aF af 138 #[.string ⟨#[107,101,121]⟩] w λe w'=>e=av (.string ⟨#[110,115,110]⟩)/\w'=w:=by
 go_enter func138,ntmps138;go_wp2_with fail;go_ret;exact⟨rfl,rfl⟩
def JZ(w:aw):aF af 138 #[.string ⟨#[116,117,114,110]⟩] w λe w'=>e=av (.string ⟨#[116]⟩)/\w'=w:=by
 go_enter func138,ntmps138;go_wp2_with fail;go_ret;exact⟨rfl,rfl⟩
def GK(w:aw):aF af 138 #[.string ⟨#[119,114,111,116,101]⟩] w λe w'=>e=av (.string ⟨#[110]⟩)/\w'=w:=by
 go_enter func138,ntmps138;go_wp2_with fail;go_ret;exact⟨rfl,rfl⟩
end Go.Proofs.YtkfblammcilfhaaGreatDoor
