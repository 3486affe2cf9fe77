import Derived.Shelf.Strings.Builder1
import Derived.Shelf.Strings.Builder2
import Derived.Shelf.Strings.OnBuilder
import Derived.Shelf.Small.Bits
import Derived.Shelf.Small.Wraps
import Derived.Shelf.Strings.BuilderF
import Derived.Shelf.Strings.BuilderK
import Derived.Shelf.Utf8.RuneCount
import Derived.Shelf.Strings.Builder2Cap
import Derived.Shelf.Strconv.Itoa0
import Derived.Shelf.Strconv.Itoa1
import Derived.Shelf.LaysM
import Derived.Shelf.Strconv.Itoa2
import Derived.Shelf.Strconv.Itoa3
import Derived.Shelf.Strings.Search1
import Derived.Shelf.Strings.Search2
import Derived.Shelf.Strings.Search3
import Derived.Shelf.Strings.Count
import Derived.Shelf.Strings.Shaped
import Derived.Shelf.Sort.Plain
import Derived.Shelf.Strings.Split
import Derived.Shelf.Strings.SplitShaped
import Derived.Shelf.Unicode.Decode
import Derived.Shelf.Strings.RuneCount
import Derived.Shelf.Strings.Explode
import Derived.Shelf.Unicode.DecodeSlow
import Derived.Shelf.Unicode.DecodeAny
import Derived.Shelf.Slices.Turned
import Derived.Shelf.Slices.SearchI
import Derived.Shelf.Slices.In.SortNone
import Derived.Shelf.SlicesE.Clone
import Derived.Laws.IdiomStrings
import Derived.Test.YtkfblammcilfhaaGreatDoorP0
set_option linter.all false
set_option maxRecDepth 100000
set_option maxHeartbeats 100000000
open Go.ChangeShapes Go.WideShapes Go.ChangeAt Go.RowKit Go.Proofs.Tryz
open Go.IntKind renaming u64->nS,i64->V,u8->bI
open Prod renaming fst->gO
open Go.Shelf renaming Ren->oG
open Go.Proofs.Tryz renaming prog->af,isAgg0->pS,sizeOf0->oL,zeroValue0->ma,isAgg3->pR,sizeOf3->oK,zeroValue3->l8,isAgg9->pP,sizeOf9->oI,zeroValue9->lY,sizeOf38->sP,zeroValue38->pB,isAgg5->pQ,sizeOf5->oJ,zeroValue5->lZ,isAgg4->sE,sizeOf4->qF,zeroValue4->nz,zeroValue20->tC,isAgg370->sQ,sizeOf370->rI,zeroValue370->oH,sizeOf41->sO,zeroValue41->pA,zeroValue197->sD
open Go renaming World->aw,Calls->aF
open Go.Lib renaming join->mb,byteCells->gD,countB->gz
open Go.Value renaming int->J,slice->ae,pointer->aq,tuple->aB
open List renaming length_append->cG,length_eq_zero_iff->cU,length_cons->ft,mem_append->bt,getElem?_eq_some_iff->aS,map_cons->eV,cons_append->lA,nodup_cons->iM,mem_cons->fw,append_assoc->dL,perm_middle->tp,getElem?_append_left->dk,getElem_of_mem->ed,getElem?_eq_getElem->ay,mem_map->eU,Sublist->jz,tail_sublist->ss,nodup_append->jj,mem_singleton->kr,length_drop->lz,sublist_cons_self->oq,getElem?_cons_succ->iY,drop_length->kb,foldl_cons->eN,map_append->fL,drop_zero->mI,map_nil->jk,nil_append->qd,getElem_mem->dy,take_succ_eq_append_getElem->dK
open Bool renaming and_eq_true->cM,not_eq_true'->oP,and_eq_false_iff->oV
open Nat renaming le_trans->aP,le_refl->aj,zero_le->gG
open List.Sublist renaming refl->gf,append_left->kZ
open Go.Ending renaming returned->av
open Option renaming none->I,some->Z
namespace Go.Proofs.YtkfblammcilfhaaGreatDoor
namespace M
structure yy where
 high:Int
 bits:Int
 deriving DecidableEq
def CL(n:Int)(k:Nat):Int:=Go.bits .or .u64 (Go.bits .andNot .u64 n (nS.wrap (2 ^ k))) (Go.bits .and .u64 (nS.wrap (2 ^ k)) (nS.wrap (2 ^ k)))
def yy.mark(w:yy)(n:Int):yy:=
 if 63<n-w.high then⟨n,1⟩ else if 0<n-w.high then⟨n,Go.bits .or .u64 (nS.wrap (w.bits*2 ^ (n-w.high).toNat)) 1⟩
 else if -63<=n-w.high then⟨w.high,CL w.bits (-(n-w.high)).toNat⟩ else w
def yy.has(w:yy)(n:Int):Bool:=decide (w.high-63<=n)&&decide (w.mark n=w)
structure js where
 bO:Int
 jv:Int
 id:Nat
structure mf where
 bD:List js
 begun:Bool
 out:yy
def mf.new:mf:=⟨[],false,⟨0,0⟩⟩
def mf.push(b:mf)(aG n now:Int)(id:Nat):mf×Int:=
 if b.bD.any (λh=>h.bO==n)||(b.begun&&b.out.has n) then(b,10)
 else if b.begun&&decide (n<b.out.high+1) then(b,9)
 else if aG<=b.bD.length then(b,8)
 else({ b with bD:=b.bD.takeWhile (λh=>decide (h.bO<=n))++⟨n,now,id⟩::b.bD.dropWhile (λh=>decide (h.bO<=n)) },0)
def mf.ready(b:mf)(aG cX now:Int):Bool:=
 match b.bD with
 |[]=>false
 |h::_=>!b.begun||h.bO==b.out.high+1||decide (aG<=b.bD.length)||b.bD.any (λh=>decide (cX<=now-h.jv))
def mf.least(b:mf):mf:=
 match b.bD with
 |[]=>b
 |h::r=>⟨r,true,if b.begun then b.out.mark h.bO else⟨h.bO,1⟩⟩
def mf.iu:Nat->mf->mf
 |0,b=>b
 |k+1,b=>mf.iu k b.least
structure Item where
 id:Nat
 aY:Int
 key:Bool
 bW:cR
structure Qd where
 bJ:Int
 dQ:Int
 aU:Int
 any:Bool
 fH:Int
 shift:Int
structure dP where
 cK:List Item
 bF:List (Item×Bool)
 ready:List (Nat×cQ)
 fF:List (Nat×cQ)
 wanted:Bool
 dx:Int
 fh:Int
 mv:Qd
 row:Int
 eG:Bool
def dP.new(own dQ aU:Int):dP:=⟨[],[],[],[],false,0,0,⟨own,dQ,aU,false,0,0⟩,0,false⟩
def there(aY:Int):Bool:=decide (0<=aY)&&decide (aY<3)
def push{α:Type}(aG:Nat)(q:List α)(x:α):List α:=if q.length=aG then q.tail++[x] else q++[x]
def dP.iy(l:dP)(aY:Int):dP×Int:=
 if !there aY then(l,1) else if l.eG then(l,7)
 else({ l with wanted:=true,dx:=if l.wanted then l.dx else -1,fh:=aY },0)
def dP.pending(l:dP):Bool:=l.dx !=l.fh
def dP.put(l:dP)(aG:Nat)(x:Item):dP×Option Nat:=
 if !(there x.aY&&x.bW.right)||l.eG || !l.wanted then(l,I)
 else({ l with cK:=push aG l.cK x },if l.cK.length=aG then l.cK.head?.map (·.id) else I)
def dP.nO(l:dP)(aG:Nat):Bool:=decide (0<l.cK.length) && !decide (l.bF.length=aG)
def take(dx fh aY:Int)(key:Bool):Int×Int×Bool:=
 if aY≠dx/\aY=fh/\key=true then(aY,0,true)
 else if aY=dx then(dx,0,false)
 else if aY=fh then(dx,5,false)
 else(dx,4,false)
def dP.gJ(l:dP):dP×Nat×Int:=
 match l.cK with
 |[]=>(l,0,0)
 |x::r =>
  let (dx,sJ,first):=take l.dx l.fh x.aY x.key
  ({ l with cK:=r,dx:=dx,bF:=if sJ=0 then l.bF++[(x,first)] else l.bF },x.id,sJ)
def dO(s:Qd)(p:cR)(first:Bool):Qd×cR:=
 let shift:=if !s.any then(s.aU-p.aU) % 4294967296 else if first then(s.fH+3000-p.aU) % 4294967296 else s.shift
 let aU:=(p.aU+shift) % 4294967296
 (⟨s.bJ,(s.dQ+1) % 65536,s.aU,true,aU,shift⟩,{ p with bJ:=s.bJ,dQ:=s.dQ,aU:=aU })
def dP.eO(l:dP)(aG:Nat):dP×Option Nat:=
 match l.bF with
 |[]=>(l,I)
 |(x,first)::r =>
  let (mv,p):=dO l.mv x.bW first
  ({ l with bF:=r,mv:=mv,ready:=push aG l.ready (x.id,(ic p).1) },if l.ready.length=aG then l.ready.head?.map (·.1) else I)
def dP.write(l:dP)(aT:Int)(fq:Bool):dP×Nat×Int:=
 match l.ready with
 |[]=>(l,0,0)
 |x::r =>
  let l1:=if fq then { l with ready:=r,fF:=l.fF++[x] } else l
  if l.eG then(l1,x.1,if fq then 1 else 0)
  else if fq then({ l1 with row:=0 },x.1,1)
  else if l.row+1=aT then({ l1 with row:=l.row+1,eG:=true,cK:=[],bF:=[],ready:=[] },x.1,7)
  else({ l1 with row:=l.row+1 },x.1,0)
structure Ask where
 wanted:Bool
 any:Bool
 fH:Int
 gB:Int
def En(ek:Int):Nat->Int->Int
 |0,g=>g
 |k+1,g=>if g<1\/ek<=g then g else En ek k (g*2)
def QT(eA ek gB:Int):Int:=min (En ek (gB-1).toNat eA) ek
def iK(eA ek:Int)(s:Ask)(wanted:Bool)(now:Int):Ask×Bool:=
 let gB:=if !wanted || !s.wanted then 0 else s.gB
 if !wanted||(s.any&&decide (now-s.fH<QT eA ek gB)) then(⟨wanted,s.any,s.fH,gB⟩,false)
 else(⟨wanted,true,now,gB+1⟩,true)
abbrev bN:=Int×Int
abbrev eK:=Int×Int
structure Ou where
 aG:Nat
 eJ:Int
 cX:Int
 eA:Int
 ek:Int
 aT:Int
structure eu where
 bQ:mf
 any:Bool
 dv:Int
 dJ:Ask
 jc:Bool
structure Sub where
 own:Int
 cL:Bool
 jo:Int
structure kM where
 origin:bN
 bO:Int
 bW:cR
structure Request where
 origin:bN
 at_:Int
 body:cQ
structure nH where
 jw:Int
 cI:Int
 gR:Int
 ff:Int
 fP:Int
 deriving DecidableEq
structure Room where
 dA:Ou
 cN:Bool
 returned:List eK
 cJ:Int
 dm:List cQ
 cW:Int->Option bN
 aQ:bN->Option Int
 bh:Int->Option Sub
 aD:Int->Option dP
 az:bN->Option eu
 aO:List kM
 cj:List Request
 bp:nH
 di:Int->Nat->Option Int
def set{α β:Type}[DecidableEq α](f:α->β)(k:α)(v:β):α->β:=λx=>if x=k then v else f x
def eu.new:eu:=⟨.new,false,0,⟨false,false,0,0⟩,false⟩
def Room.new(c:Ou):Room:=⟨c,false,[],0,[],λ_=>I,λ_=>I,λ_=>I,λ_=>I,λ_=>I,[],[],⟨0,0,0,0,0⟩,λ_ _=>I⟩
def jr(aG eJ cX eA ek aT:Int):Bool:=
 (decide (1<=aG)&&decide (aG<=8))&&((decide (1<=eJ)&&decide (eJ<=8))&&(decide (0<=cX)&&decide (cX<=1000))) &&
  ((decide (1<=eA)&&(decide (eA<=ek)&&decide (ek<=1000)))&&(decide (1<=aT)&&decide (aT<=10)))
def mB(p:Int):Bool:=decide (0<=p)&&decide (p<3)
def fY(p:Int):Bool:=decide (0<=p)&&decide (p<6)
def gF:List Int:=[0,1,2,3,4,5]
def eX:List bN:=[(0,0),(0,1),(0,2),(1,0),(1,1),(1,2),(2,0),(2,1),(2,2)]
def Room.gg(r:Room)(jo s0 s1 s2:Int):Room×Int:=
 if r.cN then(r,7) else if !mB jo then(r,1)
 else if s1=s0\/s2=s0\/s2=s1 then(r,1)
 else if(r.aQ (jo,0)).isSome then(r,6)
 else if(r.cW s0).isSome\/(r.cW s1).isSome\/(r.cW s2).isSome then(r,6)
 else({ r with
  cW:=set (set (set r.cW s0 (Z (jo,0))) s1 (Z (jo,1))) s2 (Z (jo,2))
  aQ:=set (set (set r.aQ (jo,0) (Z s0)) (jo,1) (Z s1)) (jo,2) (Z s2)
  az:=set (set (set r.az (jo,0) (Z .new)) (jo,1) (Z .new)) (jo,2) (Z .new) },0)
def Room.iJ(r:Room)(sub own dQ aU:Int):Room×Int:=
 if r.cN then(r,7) else if !fY sub then(r,1) else if(r.bh sub).isSome then(r,6)
 else({ r with bh:=set r.bh sub (Z ⟨own,false,0⟩),aD:=set r.aD sub (Z (.new own dQ aU)) },0)
def Room.eG(r:Room)(sub:Int):Bool:=match r.aD sub with | some l=>l.eG | none=>false
def Room.of(r:Room)(sub:Int):Option Int:=match r.bh sub with | some s=>if s.cL then Z s.jo else I | none=>I
def Room.fj(r:Room)(sub aY:Int):Room×Int:=
 match r.aD sub with
 |some l=>({ r with aD:=set r.aD sub (Z (l.iy aY).1) },(l.iy aY).2)
 |none=>(r,0)
def Room.dN(r:Room)(sub jo aY:Int):Room×Int:=
 if r.cN then(r,7) else if !there aY then(r,1) else if r.eG sub then(r,5)
 else if !fY sub || !mB jo then(r,1)
 else match r.bh sub with
  |none=>(r,5)
  |some s=>if !(r.aQ (jo,0)).isSome then(r,5) else if s.cL then(r,6)
   else Room.fj { r with bh:=set r.bh sub (Z ⟨s.own,true,jo⟩) } sub aY
def Room.iy(r:Room)(sub aY:Int):Room×Int:=
 if r.cN then(r,7) else if !fY sub || !there aY then(r,1)
 else if(r.of sub).isNone then(r,5) else r.fj sub aY
def Room.ji(r:Room)(sub sJ:Int):Room:={ r with di:=set r.di sub λid=>if r.di sub id=Z 0 then Z sJ else r.di sub id }
def Room.jE(r:Room)(sub:Int):Room×Int:=
 if r.cN then(r,7) else if !fY sub then(r,1) else if(r.bh sub).isNone then(r,5)
 else({ (r.ji sub 7) with bh:=set r.bh sub I,aD:=set r.aD sub I },0)
def Room.fT(r:Room)(b:cQ):Room×Int:=
 if r.cN then(r,7)
 else({ r with dm:=push r.dA.aG r.dm b,bp:=if r.dm.length=r.dA.aG then { r.bp with jw:=r.bp.jw+1 } else r.bp },0)
def Room.fU(r:Room):Room×Int:=if r.cN then(r,7) else({ r with cN:=true },0)
def Room.ik(r:Room)(jo:Int):List Int:=gF.filter λs=>match r.bh s with | some x=>x.cL&&decide (x.jo=jo) | none=>false
def Room.pj(r:Room)(own:Int):List Int:=gF.filter λs=>match r.bh s with | some x=>decide (x.own=own) | none=>false
def Room.bR(r:Room)(sub:Int)(id:Nat)(sJ:Int):Room:=
 if r.di sub id=Z 0 then { r with di:=set r.di sub (set (r.di sub) id (Z sJ)) } else r
def Room.fG(r:Room)(o:bN)(f:eu->eu):Room:=
 match r.az o with
 |some s=>{ r with az:=set r.az o (Z (f s)) }
 |none=>r
def Room.wanted(r:Room)(o:bN):Bool:=
 (match r.az o with | some s=>s.jc | none=>false) ||
 (r.ik o.1).any λs=>match r.aD s with | some l=>l.wanted&&(!l.eG&&(l.pending&&decide (l.fh=o.2))) | none=>false
def tU(bJ:Int):cQ:=[129,206,0,2,0,0,0,0]++bK 4 bJ
def Room.fg(r:Room)(o:bN):Room:=
 match r.az o with
 |none=>r
 |some s =>
  let (dJ,now):=iK r.dA.eA r.dA.ek s.dJ (r.wanted o) r.cJ
  let r:={ r with az:=set r.az o (Z { s with dJ:=dJ }) }
  if now then { r with cj:=r.cj++[⟨o,r.cJ,tU ((r.aQ o).getD 0)⟩] } else r
def Room.tick(r:Room):Room×Int:=
 if r.cN then(r,7) else(eX.foldl Room.fg { r with cJ:=r.cJ+1 },0)
def Room.ready(r:Room):Option bN:=eX.find? λo=>match r.az o with | some s=>s.bQ.ready r.dA.eJ r.dA.cX r.cJ | none=>false
def Room.dF(r:Room):List eK:=[(0,0),(1,0)]++gF.flatMap λs=>if(r.aD s).isSome then[(2,s),(3,s),(4,s)] else[]
def Room.may(r:Room)(w:eK):Bool:=
 decide (w∈r.dF) &&
 if r.cN then !decide (w∈r.returned)
 else if w.1=0 then decide (0<r.dm.length)
 else if w.1=1 then r.ready.isSome
 else match r.aD w.2 with
  |none=>false
  |some l=>if w.1=2 then l.nO r.dA.aG else if w.1=3 then decide (0<l.bF.length) else decide (0<l.ready.length)
def Room.ask(r:Room)(bJ:Int):Room:=
 (r.pj bJ).foldl (λr s =>
  match r.of s,r.aD s with
  |some jo,some l=>if l.wanted&&there l.dx then r.fG (jo,l.dx) (λx=>{ x with jc:=true }) else r
  |_,_=>r) r
def Room.count(r:Room)(f:nH->nH):Room:={ r with bp:=f r.bp }
def lx(b:cQ):Bool:=
 let (first,r):=Rd.num ⟨b,0⟩ 1
 let more:=first / 128 % 2=1
 let (ff,r):=if more then r.num 1 else(0,r)
 let r:=if ff / 128 % 2=1 then(let (n,r):=r.num 1;if n<128 then r else(r.num 1).2) else r
 let r:=if ff / 64 % 2=1 then(r.num 1).2 else r
 let r:=if ff / 32 % 2=1\/ff / 16 % 2=1 then(r.num 1).2 else r
 let n:=b.length-r.left.length
 if r.end_=3 then false
 else if¬(first / 16 % 2=1)\/first % 8≠0\/b.length<=n then false
 else decide (b.getD n 0 % 2=0)
def Room.je(r:Room)(o:bN)(p:cR):Room:=
 match r.az o with
 |none=>r
 |some s =>
  let n:=if s.any then jL s.dv p.dQ else nE p.dQ
  let dv:=if !s.any||decide (s.dv<n) then n else s.dv
  let id:=r.aO.length
  let bh:=r.ik o.1
  let (buf,e):=s.bQ.push r.dA.eJ n r.cJ id
  let r:={ r with
   aO:=r.aO++[⟨o,n,p⟩]
   bp:={ r.bp with fP:=r.bp.fP+1 }
   di:=λsub=>if sub∈bh then set (r.di sub) id (Z 0) else r.di sub
   az:=set r.az o (Z { s with bQ:=buf,any:=true,dv:=dv,jc:=s.jc && !lx p.cF }) }
  if e=10 then bh.foldl (λr s=>r.bR s id 3) r
  else if e=9 then bh.foldl (λr s=>r.bR s id 2) r
  else if e=8 then bh.foldl (λr s=>r.bR s id 6) r
  else r
def Room.read(r:Room):Room:=
 match r.dm with
 |[]=>r
 |b::q =>
  let r:={ r with dm:=q }
  if control b then
   match ff b with
   |none=>r.count λc=>{ c with cI:=c.cI+1 }
   |some l=>l.foldl Room.ask (r.count λc=>{ c with ff:=c.ff+1 })
  else if(eP b).2≠0 then r.count λc=>{ c with cI:=c.cI+1 }
  else match r.cW (eP b).1.bJ with
   |none=>r.count λc=>{ c with gR:=c.gR+1 }
   |some o=>r.je o (eP b).1
def Room.iW(x:Item)(r:Room)(s:Int):Room:=
 if r.di s x.id=Z 0 then
  match r.aD s with
  |none=>r
  |some l =>
   let r:={ r with aD:=set r.aD s (Z (l.put r.dA.aG x).1) }
   match(l.put r.dA.aG x).2 with
   |some a=>r.bR s a 6
   |none=>r
 else r
def Room.order(r:Room):Room:=
 match r.ready with
 |none=>r
 |some o =>
  match r.az o with
  |none=>r
  |some s =>
   match s.bQ.bD with
   |[]=>r
   |h::_ =>
    let p:=(r.aO.getD h.id ⟨(0,0),0,.zero⟩).bW
    gF.foldl (Room.iW ⟨h.id,o.2,lx p.cF,p⟩) { r with az:=set r.az o (Z { s with bQ:=s.bQ.least }) }
def Room.gq(r:Room)(sub:Int):Room:=
 match r.aD sub with
 |none=>r
 |some l =>
  let (l',id,sJ):=l.gJ
  let r:={ r with aD:=set r.aD sub (Z l') }
  if sJ≠0 then r.bR sub id sJ else r
def Room.fD(r:Room)(sub:Int):Room:=
 match r.aD sub with
 |none=>r
 |some l =>
  let r':={ r with aD:=set r.aD sub (Z (l.eO r.dA.aG).1) }
  match(l.eO r.dA.aG).2 with
  |some a=>r'.bR sub a 6
  |none=>r'
def Room.jS(r:Room)(sub:Int)(fq:Bool):Room:=
 match r.aD sub with
 |none=>r
 |some l =>
  let (l',id,sJ):=l.write r.dA.aT fq
  let r:={ r with aD:=set r.aD sub (Z l') }
  let r:=if sJ=1 then r.bR sub id 1 else r
  if l'.eG then
   { (r.ji sub 7) with bh:=match r.bh sub with | some s=>if s.cL then set r.bh sub (Z ⟨s.own,false,0⟩) else r.bh | none=>r.bh }
  else r
def ka(r:Room)(o:bN)(s:eu)(p:cR)(n:Int)(buf:mf)(bh:List Int):Room:={ r with
   aO:=r.aO++[⟨o,n,p⟩]
   bp:={ r.bp with fP:=r.bp.fP+1 }
   di:=λsub=>if sub∈bh then set (r.di sub) r.aO.length (Z 0) else r.di sub
   az:=set r.az o (Z { s with bQ:=buf,any:=true,dv:=if !s.any||decide (s.dv<n) then n else s.dv,jc:=s.jc && !lx p.cF }) }
def fE(r:Room)(id:Nat)(bh:List Int)(e:Int):Room:=
 if e=10 then bh.foldl (λr s=>r.bR s id 3) r
 else if e=9 then bh.foldl (λr s=>r.bR s id 2) r
 else if e=8 then bh.foldl (λr s=>r.bR s id 6) r
 else r
def mS(r:Room)(o:bN)(p:cR):r.je o p=match r.az o with
  |none=>r
  |some s=>fE (ka r o s p (if s.any then jL s.dv p.dQ else nE p.dQ) (s.bQ.push r.dA.eJ (if s.any then jL s.dv p.dQ else nE p.dQ) r.cJ r.aO.length).1 (r.ik o.1)) r.aO.length (r.ik o.1) (s.bQ.push r.dA.eJ (if s.any then jL s.dv p.dQ else nE p.dQ) r.cJ r.aO.length).2:=rfl
def kg(r:Room)(sub:Int)(l':dP)(id:Nat)(sJ:Int):Room:=if sJ=1 then Room.bR { r with aD:=set r.aD sub (Z l') } sub id 1 else { r with aD:=set r.aD sub (Z l') }
def nA(r:Room)(sub:Int)(eG:Bool):Room:=
 if eG then { (r.ji sub 7) with bh:=match r.bh sub with | some s=>if s.cL then set r.bh sub (Z ⟨s.own,false,0⟩) else r.bh | none=>r.bh } else r
def kh(r:Room)(sub:Int)(fq:Bool):r.jS sub fq=match r.aD sub with
  |none=>r
  |some l=>nA (kg r sub (l.write r.dA.aT fq).1 (l.write r.dA.aT fq).2.1 (l.write r.dA.aT fq).2.2) sub (l.write r.dA.aT fq).1.eG:=rfl
def Room.fI(r:Room)(sub:Int)(ids:List Nat):Room:=ids.foldl (λr id=>r.bR sub id 8) r
def Room.cP(r:Room)(o:bN):Room:=
 match r.az o with
 |none=>r
 |some s =>
  (s.bQ.bD.map (·.id)).foldl (λr id=>gF.foldl (λr sub=>r.bR sub id 8) r) { r with az:=set r.az o (Z { s with bQ:=mf.iu s.bQ.bD.length s.bQ }) }
def ahead(w:eK):Option eK:=
 if w.1=0 then I else if w.1=1 then Z (0,0) else if w.1=2 then Z (1,0) else Z (w.1-1,w.2)
def Room.ku(r:Room)(w:eK):Room:=
 let r:Room:=if w.1=0 then { r with dm:=[],bp:={ r.bp with jw:=r.bp.jw+r.dm.length } }
  else if w.1=1 then eX.foldl Room.cP r
  else match r.aD w.2 with
   |none=>r
   |some l =>
    if w.1=2 then({ r with aD:=set r.aD w.2 (Z { l with cK:=[] }) }).fI w.2 (l.cK.map Item.id)
    else if w.1=3 then({ r with aD:=set r.aD w.2 (Z { l with bF:=[] }) }).fI w.2 (l.bF.map λ(y:Item×Bool)=>y.1.id)
    else({ r with aD:=set r.aD w.2 (Z { l with ready:=[] }) }).fI w.2 (l.ready.map gO)
 if(match ahead w with | none=>true | some b=>decide (b∈r.returned)) then { r with returned:=r.returned++[w] } else r
def qz(r:Room)(w:eK):Bool:=match ahead w with | none=>true | some b=>decide (b∈r.returned)
def back(r:Room)(w:eK):Room:=if qz r w then { r with returned:=r.returned++[w] } else r
def jd(r:Room)(w:eK):Room:=
 if w.1=0 then { r with dm:=[],bp:={ r.bp with jw:=r.bp.jw+r.dm.length } }
  else if w.1=1 then eX.foldl Room.cP r
  else match r.aD w.2 with
   |none=>r
   |some l =>
    if w.1=2 then({ r with aD:=set r.aD w.2 (Z { l with cK:=[] }) }).fI w.2 (l.cK.map Item.id)
    else if w.1=3 then({ r with aD:=set r.aD w.2 (Z { l with bF:=[] }) }).fI w.2 (l.bF.map λ(y:Item×Bool)=>y.1.id)
    else({ r with aD:=set r.aD w.2 (Z { l with ready:=[] }) }).fI w.2 (l.ready.map gO)
def rf(r:Room)(w:eK):r.ku w=back (jd r w) w:=rfl
def Room.pick(r:Room)(w:eK)(fq:Bool):Room×Bool:=
 if !r.may w then(r,false)
 else(if r.cN then r.ku w
  else if w.1=0 then r.read
  else if w.1=1 then r.order
  else if w.1=2 then r.gq w.2
  else if w.1=3 then r.fD w.2
  else r.jS w.2 fq,true)
structure Act where
 nv:Int
 sub:Int
 jo:Int
 aY:Int
 b:cQ
 w:eK
 fq:Bool
 own:Int
 aU:Int
 dQ:Int
 s0:Int
 s1:Int
 s2:Int
def Room.act(r:Room)(x:Act):Room×Int×Bool:=
 if x.nv=0 then((r.fT x.b).1,(r.fT x.b).2,false)
 else if x.nv=1 then((r.pick x.w x.fq).1,0,(r.pick x.w x.fq).2)
 else if x.nv=2 then(r.tick.1,r.tick.2,false)
 else if x.nv=3 then((r.gg x.jo x.s0 x.s1 x.s2).1,(r.gg x.jo x.s0 x.s1 x.s2).2,false)
 else if x.nv=4 then((r.iJ x.sub x.own x.dQ x.aU).1,(r.iJ x.sub x.own x.dQ x.aU).2,false)
 else if x.nv=5 then((r.dN x.sub x.jo x.aY).1,(r.dN x.sub x.jo x.aY).2,false)
 else if x.nv=6 then((r.iy x.sub x.aY).1,(r.iy x.sub x.aY).2,false)
 else if x.nv=7 then((r.jE x.sub).1,(r.jE x.sub).2,false)
 else if x.nv=8 then(r.fU.1,r.fU.2,false)
 else(r,0,false)
end M
end Go.Proofs.YtkfblammcilfhaaGreatDoor
open Go.Proofs.YtkfblammcilfhaaGreatDoor
namespace Go.Proofs
open Go.Shelf
def Tryz.yc:oG:=⟨fun | 169=>80 | n=>n,fun | 70=>176 | 9=>9 | 0=>0 | 72=>178 | 37=>38 | 127=>270 | 3=>3 | 5=>5 | n=>n,fun | n=>n⟩
def Tryz.NU:Go.Proofs.Lays.n169 af Tryz.yc:={
 mixed:=cC
 f169:=func80.trans (congrArg Z cC)
 t0:=underlying0
 a0:=pS
 z0:=oL
 v0:=ma
 t3:=underlying3
 a3:=pR
 z3:=oK
 v3:=l8
 t9:=underlying9
 a9:=pP
 z9:=oI
 v9:=lY
 t37:=underlying38
 a37:=Tryz.isAgg38
 z37:=sP
 v37:=pB
 t70:=underlying176
 a70:=Tryz.isAgg176
 z70:=Tryz.sizeOf176
 v70:=Tryz.zeroValue176
 t72:=underlying178
 a72:=Tryz.isAgg178
 z72:=Tryz.sizeOf178
 v72:=Tryz.zeroValue178
 t127:=underlying270
 a127:=Tryz.isAgg270
 z127:=Tryz.sizeOf270
 v127:=Tryz.zeroValue270 }
def Tryz.wV:Builder.Extra af Tryz.yc:={
 sizeBuilder:=cC
 liesBuilder:=cC
 t5:=underlying5
 a5:=pQ
 z5:=oJ
 v5:=lZ
 infoByte:=cC
 cellsByte:=cC
 sizeByte:=cC
 neB5:=by decide }
def Tryz.yd:oG:=⟨fun | 156=>288 | 165=>313 | 166=>77 | 169=>80 | 240=>134 | 241=>331 | 276=>199 | 277=>333 | n=>n,fun | 31=>181 | 9=>9 | 3=>3 | 4=>4 | 0=>0 | 20=>20 | 72=>178 | 76=>186 | 70=>176 | 37=>38 | 75=>185 | 127=>270 | 164=>365 | 5=>5 | 80=>190 | n=>n,fun | n=>n⟩
def Tryz.NV:Go.Proofs.Lays.n156 af Tryz.yd:={
 mixed:=cC
 f156:=func288.trans (congrArg Z cC)
 f165:=func313.trans (congrArg Z cC)
 f166:=func77.trans (congrArg Z cC)
 f169:=func80.trans (congrArg Z cC)
 f240:=func134.trans (congrArg Z cC)
 f241:=func331.trans (congrArg Z cC)
 f276:=func199.trans (congrArg Z cC)
 f277:=func333.trans (congrArg Z cC)
 t0:=underlying0
 a0:=pS
 z0:=oL
 v0:=ma
 t3:=underlying3
 a3:=pR
 z3:=oK
 v3:=l8
 t4:=underlying4
 a4:=sE
 z4:=qF
 v4:=nz
 t9:=underlying9
 a9:=pP
 z9:=oI
 v9:=lY
 t20:=underlying20
 a20:=Tryz.isAgg20
 z20:=Tryz.sizeOf20
 v20:=tC
 t31:=underlying181
 a31:=Tryz.isAgg181
 z31:=Tryz.sizeOf181
 v31:=Tryz.zeroValue181
 t37:=underlying38
 a37:=Tryz.isAgg38
 z37:=sP
 v37:=pB
 t70:=underlying176
 a70:=Tryz.isAgg176
 z70:=Tryz.sizeOf176
 v70:=Tryz.zeroValue176
 t72:=underlying178
 a72:=Tryz.isAgg178
 z72:=Tryz.sizeOf178
 v72:=Tryz.zeroValue178
 t75:=underlying185
 a75:=Tryz.isAgg185
 z75:=Tryz.sizeOf185
 v75:=Tryz.zeroValue185
 t76:=underlying186
 a76:=Tryz.isAgg186
 z76:=Tryz.sizeOf186
 v76:=Tryz.zeroValue186
 t127:=underlying270
 a127:=Tryz.isAgg270
 z127:=Tryz.sizeOf270
 v127:=Tryz.zeroValue270
 t164:=underlying365
 a164:=Tryz.isAgg365
 z164:=Tryz.sizeOf365
 v164:=Tryz.zeroValue365 }
def Tryz.wW:Builder.Extra af Tryz.yd:={
 sizeBuilder:=cC
 liesBuilder:=cC
 t5:=underlying5
 a5:=pQ
 z5:=oJ
 v5:=lZ
 infoByte:=cC
 cellsByte:=cC
 sizeByte:=cC
 neB5:=by decide }
open Go.RowKit in
theorem Tryz.strings_Join (bk o c:Nat) (xs:List ByteArray) (sep:ByteArray) (w:aw) (a:∀(j:Nat) x,xs[j]? = Z x->w.cell? ⟨bk,o+j,I⟩=Z (.string x)) (d:bk<w.heap.size) (f:xs.length<=140737488355328) (b:xs.length<=c) (hlen:(mb (xs.map (·.data.toList)) sep.data.toList).length<=140737488355328) :
  aF af 288 #[ae (Z ⟨bk,o,I⟩) xs.length c,.string sep] w λe w'=>e=av (.string ⟨(mb (xs.map (·.data.toList)) sep.data.toList).toArray⟩)/\aC w w':=Any.strings_Join Tryz.NV Tryz.wW bk o c xs sep w a d f b hlen
open Go.RowKit in
theorem Tryz.Builder_String_any_k (B b:Nat) (l:List UInt8) (w:aw) (h:Lib.IsBuilderF 178 5 B b (gD l) w) (a:B<=w.heap.size) :
  aF af 80 #[aq (Z ⟨b,0,I⟩)] w λe w'=>e=av (.string ⟨l.toArray⟩)/\(Lib.IsBuilderF 178 5 B b (gD l) w'/\Below B w w'/\Lib.OthersKept 5 (Z b) w w'):=Any.Builder_String_any_k Tryz.NU Tryz.wV B b l w h a
def Tryz.Ee:oG:=⟨fun | 171=>136 | 243=>200 | 246=>251 | 283=>284 | 284=>285 | 285=>286 | 286=>287 | 129=>270 | 317=>309 | 318=>310 | 319=>311 | 320=>312 | 337=>329 | 338=>330 | n=>n,fun | 3=>3 | 9=>9 | 2=>2 | 4=>4 | 171=>446 | 0=>0 | 53=>197 | 37=>38 | 5=>5 | 173=>448 | 212=>475 | 51=>41 | 20=>20 | 213=>476 | 46=>370 | 232=>494 | 233=>495 | n=>n,fun | 17=>3 | 18=>4 | 19=>5 | n=>n⟩
def Tryz.NT:Go.Proofs.Lays.n171 af Tryz.Ee:={
 mixed:=cC
 f129:=func270.trans (congrArg Z cC)
 f171:=func136.trans (congrArg Z cC)
 f243:=func200.trans (congrArg Z cC)
 f246:=func251.trans (congrArg Z cC)
 f283:=func284.trans (congrArg Z cC)
 f284:=func285.trans (congrArg Z cC)
 f285:=func286.trans (congrArg Z cC)
 f286:=func287.trans (congrArg Z cC)
 f317:=func309.trans (congrArg Z cC)
 f318:=func310.trans (congrArg Z cC)
 f319:=func311.trans (congrArg Z cC)
 f320:=func312.trans (congrArg Z cC)
 f337:=func329.trans (congrArg Z cC)
 f338:=func330.trans (congrArg Z cC)
 t0:=underlying0
 a0:=pS
 z0:=oL
 v0:=ma
 t2:=underlying2
 a2:=Tryz.isAgg2
 z2:=Tryz.sizeOf2
 v2:=Tryz.zeroValue2
 t3:=underlying3
 a3:=pR
 z3:=oK
 v3:=l8
 t4:=underlying4
 a4:=sE
 z4:=qF
 v4:=nz
 t5:=underlying5
 a5:=pQ
 z5:=oJ
 v5:=lZ
 t9:=underlying9
 a9:=pP
 z9:=oI
 v9:=lY
 t20:=underlying20
 a20:=Tryz.isAgg20
 z20:=Tryz.sizeOf20
 v20:=tC
 t37:=underlying38
 a37:=Tryz.isAgg38
 z37:=sP
 v37:=pB
 t46:=underlying370
 a46:=sQ
 z46:=rI
 v46:=oH
 t51:=underlying41
 a51:=Tryz.isAgg41
 z51:=sO
 v51:=pA
 t53:=underlying197
 a53:=Tryz.isAgg197
 z53:=Tryz.sizeOf197
 v53:=sD
 t171:=underlying446
 a171:=Tryz.isAgg446
 z171:=Tryz.sizeOf446
 v171:=Tryz.zeroValue446
 t173:=underlying448
 a173:=Tryz.isAgg448
 z173:=Tryz.sizeOf448
 v173:=Tryz.zeroValue448
 t212:=underlying475
 a212:=Tryz.isAgg475
 z212:=Tryz.sizeOf475
 v212:=Tryz.zeroValue475
 t213:=underlying476
 a213:=Tryz.isAgg476
 z213:=Tryz.sizeOf476
 t232:=underlying494
 a232:=Tryz.isAgg494
 z232:=Tryz.sizeOf494
 v232:=Tryz.zeroValue494
 t233:=underlying495
 a233:=Tryz.isAgg495
 z233:=Tryz.sizeOf495
 v233:=Tryz.zeroValue495
 g17:=cC
 g18:=cC
 g19:=by kernel_rfl }
open Go.RowKit Go.Sort Go.Lib in
theorem Tryz.strconv_Itoa_small (i:Nat) (hi:i<100) (w:aw) :
  aF af 136 #[J V i] w λe w'=>e=av (.string ⟨(Lib.decDigits i).toArray⟩)/\w'=w:=Any.strconv_Itoa_small Tryz.NT i hi w
def Tryz.Ed:oG:=⟨fun | 189=>158 | 125=>213 | 257=>212 | 128=>269 | 129=>270 | 294=>260 | 295=>261 | 296=>262 | 297=>263 | 298=>264 | 299=>265 | 216=>266 | 300=>267 | 301=>268 | 328=>293 | 329=>294 | 330=>295 | 331=>296 | 332=>297 | 215=>298 | 343=>323 | n=>n,fun | 28=>36 | 3=>3 | 46=>370 | 0=>0 | 51=>41 | 53=>197 | 4=>4 | 183=>427 | 182=>426 | 131=>223 | 5=>5 | 9=>9 | 218=>454 | 222=>458 | 228=>486 | 229=>107 | n=>n,fun | n=>n⟩
def Tryz.IA:Go.Proofs.Lays.n189 af Tryz.Ed:={
 mixed:=cC
 f125:=func213.trans (congrArg Z cC)
 f128:=func269.trans (congrArg Z cC)
 f129:=func270.trans (congrArg Z cC)
 f189:=func158.trans (congrArg Z cC)
 f215:=func298.trans (congrArg Z cC)
 f216:=func266.trans (congrArg Z cC)
 f257:=func212.trans (congrArg Z cC)
 f294:=func260.trans (congrArg Z cC)
 f295:=func261.trans (congrArg Z cC)
 f296:=func262.trans (congrArg Z cC)
 f297:=func263.trans (congrArg Z cC)
 f298:=func264.trans (congrArg Z cC)
 f299:=func265.trans (congrArg Z cC)
 f300:=func267.trans (congrArg Z cC)
 f301:=func268.trans (congrArg Z cC)
 f328:=func293.trans (congrArg Z cC)
 f329:=func294.trans (congrArg Z cC)
 f330:=func295.trans (congrArg Z cC)
 f331:=func296.trans (congrArg Z cC)
 f332:=func297.trans (congrArg Z cC)
 f343:=func323.trans (congrArg Z cC)
 t0:=underlying0
 a0:=pS
 z0:=oL
 v0:=ma
 t3:=underlying3
 a3:=pR
 z3:=oK
 v3:=l8
 t4:=underlying4
 a4:=sE
 z4:=qF
 v4:=nz
 t5:=underlying5
 a5:=pQ
 z5:=oJ
 v5:=lZ
 t9:=underlying9
 a9:=pP
 z9:=oI
 v9:=lY
 t28:=underlying36
 a28:=Tryz.isAgg36
 z28:=Tryz.sizeOf36
 v28:=Tryz.zeroValue36
 t46:=underlying370
 a46:=sQ
 z46:=rI
 v46:=oH
 t51:=underlying41
 a51:=Tryz.isAgg41
 z51:=sO
 v51:=pA
 t53:=underlying197
 a53:=Tryz.isAgg197
 z53:=Tryz.sizeOf197
 v53:=sD
 t131:=underlying223
 a131:=Tryz.isAgg223
 z131:=Tryz.sizeOf223
 v131:=Tryz.zeroValue223
 t182:=underlying426
 a182:=Tryz.isAgg426
 z182:=Tryz.sizeOf426
 v182:=Tryz.zeroValue426
 t183:=underlying427
 a183:=Tryz.isAgg427
 z183:=Tryz.sizeOf427
 v183:=Tryz.zeroValue427
 t218:=underlying454
 a218:=Tryz.isAgg454
 z218:=Tryz.sizeOf454
 v218:=Tryz.zeroValue454
 t222:=underlying458
 a222:=Tryz.isAgg458
 z222:=Tryz.sizeOf458
 v222:=Tryz.zeroValue458
 t228:=underlying486
 a228:=Tryz.isAgg486
 z228:=Tryz.sizeOf486
 v228:=Tryz.zeroValue486
 t229:=underlying107
 a229:=Tryz.isAgg107
 z229:=Tryz.sizeOf107
 v229:=Tryz.zeroValue107 }
open Go.Sort Go.RowKit in
theorem Tryz.slices_Sort_int (cw off cap:Nat) (zs:List Int) (w:aw) (c:Holds (J V) w cw off zs.toArray) (a:cw<w.heap.size) (b:zs.length<4611686018427387904) :
  aF af 158 #[ae (Z ⟨cw,off,I⟩) zs.length cap] w λe w' =>
   e=av (aB #[])/\∃n os,w'=grow (putRow (J V) (Sort.ahead w n) cw off (zs.mergeSort λx y=>decide (x<=y)).toArray) os:=Any.slices_Sort_int Tryz.IA cw off cap zs w c a b
def Tryz.Ef:oG:=⟨fun | 146=>75 | 221=>133 | 268=>196 | 138=>197 | 143=>198 | 195=>247 | 197=>248 | 218=>249 | 219=>250 | 260=>279 | 217=>280 | 225=>281 | 224=>282 | 267=>283 | 266=>307 | 314=>308 | n=>n,fun | 9=>9 | 31=>181 | 3=>3 | 4=>4 | 0=>0 | 105=>414 | 21=>21 | 5=>5 | 46=>370 | 119=>468 | 139=>471 | 138=>470 | 146=>472 | 51=>41 | n=>n,fun | 1=>0 | 3=>1 | 4=>2 | n=>n⟩
def Tryz.NX:Go.Proofs.Lays.n146 af Tryz.Ef:={
 mixed:=cC
 f138:=func197.trans (congrArg Z cC)
 f143:=func198.trans (congrArg Z cC)
 f146:=func75.trans (congrArg Z cC)
 f195:=func247.trans (congrArg Z cC)
 f197:=func248.trans (congrArg Z cC)
 f217:=func280.trans (congrArg Z cC)
 f218:=func249.trans (congrArg Z cC)
 f219:=func250.trans (congrArg Z cC)
 f221:=func133.trans (congrArg Z cC)
 f224:=func282.trans (congrArg Z cC)
 f225:=func281.trans (congrArg Z cC)
 f260:=func279.trans (congrArg Z cC)
 f266:=func307.trans (congrArg Z cC)
 f267:=func283.trans (congrArg Z cC)
 f268:=func196.trans (congrArg Z cC)
 f314:=func308.trans (congrArg Z cC)
 t0:=underlying0
 a0:=pS
 z0:=oL
 v0:=ma
 t3:=underlying3
 a3:=pR
 z3:=oK
 v3:=l8
 t4:=underlying4
 a4:=sE
 z4:=qF
 v4:=nz
 t5:=underlying5
 a5:=pQ
 z5:=oJ
 v5:=lZ
 t9:=underlying9
 a9:=pP
 z9:=oI
 v9:=lY
 t21:=underlying21
 a21:=Tryz.isAgg21
 z21:=Tryz.sizeOf21
 v21:=Tryz.zeroValue21
 t31:=underlying181
 a31:=Tryz.isAgg181
 z31:=Tryz.sizeOf181
 v31:=Tryz.zeroValue181
 t46:=underlying370
 a46:=sQ
 z46:=rI
 v46:=oH
 t51:=underlying41
 a51:=Tryz.isAgg41
 z51:=sO
 v51:=pA
 t105:=underlying414
 a105:=Tryz.isAgg414
 z105:=Tryz.sizeOf414
 v105:=Tryz.zeroValue414
 t119:=underlying468
 a119:=Tryz.isAgg468
 z119:=Tryz.sizeOf468
 t138:=underlying470
 a138:=Tryz.isAgg470
 z138:=Tryz.sizeOf470
 v138:=Tryz.zeroValue470
 t139:=underlying471
 a139:=Tryz.isAgg471
 z139:=Tryz.sizeOf471
 v139:=Tryz.zeroValue471
 t146:=underlying472
 a146:=Tryz.isAgg472
 z146:=Tryz.sizeOf472
 v146:=Tryz.zeroValue472
 g1:=cC
 g3:=cC
 g4:=by kernel_rfl }
open Go.RowKit Go.Lib in
theorem Tryz.strings_Split (s sep:ByteArray) (m:Int) (w:aw) (a:s.size<4294967281) (hm:w.cell? ⟨0,0,I⟩=Z (J V m)) (h1:1<=sep.size) :
  aF af 75 #[.string s,.string sep] w λe w' =>
   e=av (ae (Z ⟨w.heap.size,0,I⟩) (gz s sep+1) (gz s sep+1))/\w'=w.alloc (.cells ((Lib.splitB sep 0 (gz s sep) s).map Value.string).toArray 9):=Any.strings_Split Tryz.NX cC s sep m w a hm h1
open Go.RowKit Go.Sort in
theorem Tryz.slices_Sort_int_none (p:Option Addr) (cap:Nat) (w:aw) :
  aF af 158 #[ae p 0 cap] w λe w'=>e=av (aB #[])/\w'=w:=Any.slices_Sort_int_none Tryz.IA p cap w
end Go.Proofs
namespace Go.Proofs.YtkfblammcilfhaaGreatDoor
namespace M
def pH:∀(k:Nat) (n:Int),(bK k n).length=k
 |0,_=>rfl
 |k+1,n=>by rw[bK,cG,pH k];rfl
structure cR.Ok(p:cR):Prop where
 type:0<=p.type
 dQ:0<=p.dQ/\p.dQ<65536
 aU:0<=p.aU/\p.aU<4294967296
 bJ:0<=p.bJ/\p.bJ<4294967296
 aQ:∀x∈p.aQ,0<=x/\x<4294967296
 bV:0<=p.bV/\p.bV<65536
def DA{p:cR}(h:p.right=true):p.type<=127/\p.aQ.length<=15/\(p.has=false->p.bV=0/\p.fp=[])/\p.fp.length % 4=0/\p.size<=200:=by
 unfold cR.right at h;simp only[cM,oP,Bool.or_eq_false_iff,decide_eq_false_iff_not,decide_eq_true_eq,beq_iff_eq,oV,bne_eq_false_iff_eq,Bool.not_eq_false']at h;obtain⟨⟨⟨h1,h2⟩,h3⟩,h4,h5⟩:=h;refine⟨z,z,λq=>?_,h4,h5⟩;rcases h3 with h3|h3
 ·rw[q]at h3;cases h3
 ·exact⟨h3.1,cU.1 z⟩
def Eo(l:List Int):(l.flatMap (bK 4)).length=4*l.length:=by
 induction l with
 |nil=>rfl
 |cons x l a=>rw[List.flatMap_cons,cG,pH,a,ft];omega
def C1(p:cR):p.bytes.length=p.size:=by
 unfold cR.bytes cR.size;simp only[cG,pH,Eo];cases p.has<;>simp[pH]<;>omega
end M
section
namespace M
def ids(l:dP):List Nat:=l.cK.map Item.id++(l.bF.map (λy=>y.1.id)++l.ready.map gO)
structure Rec where
 id:Nat
 aY:Int
 p:cR
structure ij where
 own:Int
 dQ:Int
 aU:Int
 jo:Int
 H:List Rec
 W:List Nat
 Q:List Nat
abbrev Nn:=List kM
structure Good(ps:Nn)(jo:Int)(x:Item):Prop where
 right:x.bW.right=true
 ok:x.bW.Ok
 key:x.key=lx x.bW.cF
 at_:∃a,ps[x.id]? = Z a/\a.bW=x.bW/\a.origin=(jo,x.aY)
 aY:0<=x.aY
structure Fh(ps:Nn)(g:ij)(k:Nat)(x:Rec):Prop where
 right:x.p.right=true
 ok:x.p.Ok
 dQ:x.p.dQ=(g.dQ+k) % 65536
 bJ:x.p.bJ=g.own
 at_:∃a,ps[x.id]? = Z a/\a.origin=(g.jo,x.aY)/\x.p.cF=a.bW.cF
def PX(ps:Nn)(x y:Rec):Prop:=∀a b,ps[x.id]? = Z a->ps[y.id]? = Z b ->
 (y.aY=x.aY->(y.p.aU-x.p.aU) % 4294967296=(b.bW.aU-a.bW.aU) % 4294967296) /\
 (y.aY≠x.aY->lx y.p.cF=true/\y.p.aU=(x.p.aU+3000) % 4294967296)
def kD(H:List Rec):Int:=match H.getLast? with | some x=>x.aY | none=>-1
def uh:Int->List (Item×Bool)->Int->Prop
 |c,[],dx=>c=dx
 |c,(x,f)::r,dx=>(f=true/\x.aY≠c/\x.key=true\/f=false/\x.aY=c)/\uh x.aY r dx
def uh.snoc:∀{c dx:Int} {l:List (Item×Bool)} {x:Item} {f:Bool},uh c l dx->(f=true/\x.aY≠dx/\x.key=true\/f=false/\x.aY=dx)->uh c (l++[(x,f)]) x.aY
 |c,dx,[],x,f,h,k=>⟨by rw[show c=dx from h];exact k,rfl⟩
 |c,dx,(y,e)::l,x,f,⟨h1,h2⟩,k=>⟨h1,h2.snoc k⟩
structure iv(ps:Nn)(bk:Nat->Option Int)(l:dP)(g:ij):Prop where
 nodup:(ids l).Nodup
 kz:∀id∈ids l,bk id=Z 0
 cK:∀x∈l.cK,Good ps g.jo x
 bF:∀y∈l.bF,Good ps g.jo y.1
 idle:l.wanted=false->l.cK=[]/\l.bF=[]/\g.H=[]
 bJ:l.mv.bJ=g.own
 dQ:l.mv.dQ=(g.dQ+g.H.length) % 65536
 any:l.mv.any=decide (0<g.H.length)
 aU:l.mv.aU=g.aU
 fH:∀x:Rec,g.H.getLast? = Z x->l.mv.fH=x.p.aU/\∃a,ps[x.id]? = Z a/\x.p.aU=(a.bW.aU+l.mv.shift) % 4294967296
 zM:∀(k:Nat) (x:Rec),g.H[k]? = Z x->Fh ps g k x
 zero:∀x:Rec,g.H[0]? = Z x->lx x.p.cF=true/\x.p.aU=g.aU
 next:∀(k:Nat) (x y:Rec),g.H[k]? = Z x->g.H[k+1]? = Z y->PX ps x y
 ready:g.Q.length=l.ready.length
 rU:∀(i k:Nat) (q:Nat×cQ),g.Q[i]? = Z k->l.ready[i]? = Z q->∃x:Rec,g.H[k]? = Z x/\q=(x.id,x.p.bytes)
 fF:g.W.length=l.fF.length
 qT:∀(i k:Nat) (q:Nat×cQ),g.W[i]? = Z k->l.fF[i]? = Z q->∃x:Rec,g.H[k]? = Z x/\q=(x.id,x.p.bytes)
 sorted:(g.W++g.Q).Pairwise (· < ·)
 eG:l.eG=true->ids l=[]
 ranges:0<=g.own/\g.own<4294967296/\0<=g.aU/\g.aU<4294967296
structure Inv(R:Room)(G:Int->ij)(n:Nat):Prop where
 fo:∀s l,R.aD s=Z l->iv R.aO (R.di s) l (G s)/\(G s).H.length<=n
 kz:∀s id,R.di s id=Z 0->∃a x,R.aO[id]? = Z a/\R.bh s=Z x/\x.cL=true/\x.jo=a.origin.1
 jo:∀s x,R.bh s=Z x->x.cL=true->x.jo=(G s).jo/\∃l,R.aD s=Z l/\l.wanted=true/\l.eG=false
 lu:∀s,(R.bh s).isSome=(R.aD s).isSome
 held:∀o st,R.az o=Z st->(st.bQ.bD.map js.id).Nodup/\∀h∈st.bQ.bD,(∃a,R.aO[h.id]? = Z a/\a.origin=o)/\∀s l,R.aD s=Z l->h.id∉ids l
 aY:∀o st,R.az o=Z st->0<=o.2
 pk:∀a∈R.aO,a.bW.Ok
 chain:R.cN=false->∀s l,R.aD s=Z l->l.wanted=true->l.eG=false->uh (kD (G s).H) l.bF l.dx
 za:∀s l,R.aD s=Z l->l.wanted=true->l.eG=false->∃x,R.bh s=Z x/\x.cL=true
 qu:∀b∈R.dm,∀x∈b,0<=x/\x<256
 aG:1<=R.dA.aG
def Good.mono{ps b:Nn}{jo:Int}{x:Item}(h:Good ps jo x)(hp:∀(i:Nat) (a:kM),ps[i]? = Z a->b[i]? = Z a):Good b jo x:=by
 obtain⟨a,h1,h2⟩:=h.at_;exact⟨h.right,h.ok,h.key,⟨a,hp _ _ h1,h2⟩,h.aY⟩
def Fh.mono{ps b:Nn}{g:ij}{k:Nat}{x:Rec}(h:Fh ps g k x)(hp:∀(i:Nat) (a:kM),ps[i]? = Z a->b[i]? = Z a):Fh b g k x:=by
 obtain⟨a,h1,h2⟩:=h.at_;exact⟨h.right,h.ok,h.dQ,h.bJ,⟨a,hp _ _ h1,h2⟩⟩
def iv.mono{ps d:Nn}{bk e:Nat->Option Int}{l:dP}{g:ij}(h:iv ps bk l g)(hp:∀(i:Nat) (a:kM),ps[i]? = Z a->d[i]? = Z a)(n:∀id∈ids l,e id=Z 0):iv d e l g:=
 { h with
  kz:=n
  cK:=λx c=>(h.cK x c).mono hp
  bF:=λx c=>(h.bF x c).mono hp
  fH:=λx c=>by obtain⟨o,a,p,q⟩:=h.fH x c;exact⟨o,a,hp _ _ p,q⟩
  zM:=λk x c=>(h.zM k x c).mono hp
  next:=λk x y c hy a b r f=>by
   obtain⟨a',a1,_⟩:=(h.zM k x c).at_
   obtain⟨s,b1,_⟩:=(h.zM (k+1) y hy).at_
   have j:=hp _ _ a1;rw[r]at j;cases j
   have m:=hp _ _ b1;rw[f]at m;cases m
   exact h.next k x y c hy a b a1 b1 }
def zq{α:Type}{aG:Nat}{q:List α}{x y:α}(h:y∈push aG q x):y∈q\/y=x:=by
 unfold push at h;split at h
 ·rcases bt.1 h with h|h
  ·exact .inl (List.mem_of_mem_tail h)
  ·simp at h;exact .inr h
 ·rcases bt.1 h with h|h
  ·exact .inl h
  ·simp at h;exact .inr h
variable {R:Room} {G:Int->ij} {n:Nat}
def Inv.more(h:Inv R G n){m:Nat}(hm:n<=m):Inv R G m:={ h with fo:=λs l q=>⟨(h.fo s l q).1,aP (h.fo s l q).2 hm⟩ }
def Inv.RN(h:Inv R G n){s:Int}{l:dP}(b:R.aD s=Z l){id:Nat}(hi:id∈ids l):id<R.aO.length:=by
 obtain⟨a,x,h1,_⟩:=h.kz s id ((h.fo s l b).1.kz id hi);exact(aS.1 h1).1
def Inv.bR(h:Inv R G n)(s:Int)(id:Nat){f:Int}(d:f≠0)(hid:∀l,R.aD s=Z l->id∉ids l):Inv (R.bR s id f) G n:=by
 unfold Room.bR;split
 ·refine { h with fo:=λk l b=>⟨((h.fo k l b).1).mono (λ_ _ q=>q) λi hi=>?_,(h.fo k l b).2⟩,kz:=λk i g=>?_ }
  ·show set R.di s (set (R.di s) id (Z f)) k i=Z 0;unfold set;by_cases e:k=s
   ·subst e;rw[if_pos rfl,if_neg (λe:i=id=>hid l b (e ▸ hi))];exact(h.fo k l b).1.kz i hi
   ·rw[if_neg e];exact(h.fo k l b).1.kz i hi
  ·have a:set R.di s (set (R.di s) id (Z f)) k i=Z 0:=g;unfold set at a;by_cases e:k=s
   ·subst e;rw[if_pos rfl]at a;by_cases c:i=id
    ·rw[if_pos c]at a;simp only[Option.some.injEq]at a;exact absurd a d
    ·rw[if_neg c]at a;exact h.kz k i a
   ·rw[if_neg e]at a;exact h.kz k i a
 ·exact h
def nW(r:Room)(s:Int)(id:Nat)(f:Int):(r.bR s id f).aD=r.aD/\(r.bR s id f).aO=r.aO/\(r.bR s id f).az=r.az/\(r.bR s id f).bh=r.bh:=by
 unfold Room.bR;split<;>exact⟨rfl,rfl,rfl,rfl⟩
def Inv.Bq(h:Inv R G n){s:Int}{l l':dP}(i:R.aD s=Z l){g:ij}(hg:g.jo=(G s).jo)(w:iv R.aO (R.di s) l' g)(y:g.H.length<=n)
  (hi:∀id∈ids l',id∈ids l\/∀o st,R.az o=Z st->∀x∈st.bQ.bD,id≠x.id) (hw:l.wanted=true->l.eG=false->(R.of s).isSome=true->l'.wanted=true/\l'.eG=false)
  (p:l'.wanted=true->l'.eG=false->(l.wanted=true/\l.eG=false)\/∃x,R.bh s=Z x/\x.cL=true)
  (r:R.cN=false->l'.wanted=true->l'.eG=false->uh (kD g.H) l'.bF l'.dx) :
  Inv { R with aD:=set R.aD s (Z l') } (set G s g) n:=by
 refine { h with fo:=λk m hm=>?_,jo:=λk x b p=>?_,lu:=λk=>?_,held:=λo st d=>?_,chain:=λf k m hm=>?_,za:=λk m hm h1 h2=>?_ }
 ·have a:set R.aD s (Z l') k=Z m:=hm;unfold set at a ⊢;by_cases e:k=s
  ·subst e;rw[if_pos rfl]at a ⊢;cases a;exact⟨w,y⟩
  ·rw[if_neg e]at a ⊢;exact h.fo k m a
 ·obtain⟨j,m,c,t,u⟩:=h.jo k x b p;unfold set;by_cases e:k=s
  ·subst e;rw[if_pos rfl];rw[i]at c;cases c;have v:(R.of k).isSome=true:=by unfold Room.of;rw[show R.bh k=Z x from b];simp[show x.cL=true by assumption]
   exact⟨by rw[hg];exact j,l',by show set R.aD k (Z l') k=_;simp[set],(hw t u v).1,(hw t u v).2⟩
  ·rw[if_neg e];exact⟨j,m,by show set R.aD s (Z l') k=_;simp[set,e];exact c,t,u⟩
 ·show _=(set R.aD s (Z l') k).isSome;unfold set;by_cases e:k=s
  ·subst e;rw[if_pos rfl,h.lu k,i];rfl
  ·rw[if_neg e];exact h.lu k
 ·obtain⟨j,c⟩:=h.held o st d;refine⟨j,λx b=>⟨(c x b).1,λk m hm=>?_⟩⟩;have a:set R.aD s (Z l') k=Z m:=hm;unfold set at a;by_cases e:k=s
  ·subst e;rw[if_pos rfl]at a;cases a;intro r;rcases hi _ r with q|q
   ·exact(c x b).2 k l i q
   ·exact q o st d x b rfl
  ·rw[if_neg e]at a;exact(c x b).2 k m a
 ·have a:set R.aD s (Z l') k=Z m:=hm;unfold set at a ⊢;by_cases e:k=s
  ·subst e;rw[if_pos rfl]at a ⊢;cases a;exact r f
  ·rw[if_neg e]at a ⊢;exact h.chain f k m a
 ·have a:set R.aD s (Z l') k=Z m:=hm;unfold set at a;by_cases e:k=s
  ·subst e;rw[if_pos rfl]at a;cases a;rcases p h1 h2 with q|q
   ·exact h.za k l i q.1 q.2
   ·exact q
  ·rw[if_neg e]at a;exact h.za k m a h1 h2
end M
end
section
namespace M
variable {ps:Nn} {bk:Nat->Option Int} {l:dP} {g:ij}
def yF{x:Item}{r:List Item}(h:(ids l).Nodup)(a:l.cK=x::r):x.id∉r.map Item.id++(l.bF.map (λy=>y.1.id)++l.ready.map gO)/\(r.map Item.id++(l.bF.map (λy=>y.1.id)++l.ready.map gO)).Nodup:=by
 unfold ids at h;rw[a,eV,lA,iM]at h;exact h
def iv.xa(h:iv ps bk l g)(d:l.cK≠[]\/l.bF≠[]\/g.H≠[]):l.wanted=true:=by
 cases hw:l.wanted
 ·obtain⟨a,b,c⟩:=h.idle hw;rcases d with q|q|q<;>contradiction
 ·rfl
def iv.gJ(h:iv ps bk l g){x:Item}{r:List Item}(b:l.cK=x::r):iv ps bk l.gJ.1 g/\(∀i∈ids l.gJ.1,i∈ids l)/\(l.gJ.2.2≠0->x.id∉ids l.gJ.1)/\l.gJ.2.1=x.id:=by
 obtain⟨c,d⟩:=yF h.nodup b;have hw:=h.xa (.inl (by rw[b];simp));unfold dP.gJ;rw[b];simp only;generalize ht:take l.dx l.fh x.aY x.key=t;obtain⟨dx,sJ,first⟩:=t;simp only;by_cases f:sJ=0
 ·subst f;simp only[if_true];have e:ids { l with cK:=r,dx:=dx,bF:=l.bF++[(x,first)] }=r.map Item.id++(l.bF.map (λy=>y.1.id)++(x.id::l.ready.map gO)):=by simp[ids]
  have a:∀i∈ids { l with cK:=r,dx:=dx,bF:=l.bF++[(x,first)] },i∈ids l:=by
   intro i hi;rw[e]at hi;unfold ids;rw[b];simp only[eV,lA,fw,bt]at hi ⊢;rcases hi with q|q|q|q
   ·exact .inr (.inl q)
   ·exact .inr (.inr (.inl q))
   ·exact .inl q
   ·exact .inr (.inr (.inr q))
  refine⟨{ h with nodup:=?_,kz:=λi hi=>h.kz i (a i hi),cK:=λy hy=>h.cK y (by rw[b];simp[hy]),bF:=λy hy=>?_,idle:=λq=>absurd (show l.wanted=false from q) (by rw[hw];simp),eG:=λq=>?_ },a,λq=>absurd rfl q,trivial⟩
  ·rw[e];have p:(r.map Item.id++(l.bF.map (λy=>y.1.id)++(x.id::l.ready.map gO))).Perm (x.id::(r.map Item.id++(l.bF.map (λy=>y.1.id)++l.ready.map gO))):=by
    rw[<-dL,<-dL];exact tp
   exact p.nodup_iff.2 (iM.2 ⟨c,d⟩)
  ·rcases bt.1 hy with q|q
   ·exact h.bF y q
   ·simp at q;subst q;exact h.cK x (by rw[b];simp)
  ·have:=h.eG q;unfold ids at this;rw[b]at this;simp at this
 ·simp only[if_neg f];have e:ids { l with cK:=r,dx:=dx }=r.map Item.id++(l.bF.map (λy=>y.1.id)++l.ready.map gO):=rfl;have a:∀i∈ids { l with cK:=r,dx:=dx },i∈ids l:=by
   intro i hi;rw[e]at hi;unfold ids;rw[b,eV,lA];exact List.mem_cons_of_mem _ hi
  refine⟨{ h with nodup:=by rw[e];exact d,kz:=λi hi=>h.kz i (a i hi),cK:=λy hy=>h.cK y (by rw[b];simp[hy]),idle:=λq=>absurd (show l.wanted=false from q) (by rw[hw];simp),eG:=λq=>?_ },a,λ_=>by rw[e];exact c,trivial⟩;have:=h.eG q;unfold ids at this;rw[b]at this;simp at this
def C0{c:Int}{x:Item}{r:List Item}(a:l.cK=x::r)(h:uh c l.bF l.dx):uh c l.gJ.1.bF l.gJ.1.dx:=by
 unfold dP.gJ;rw[a];simp only;unfold take;split
 ·rename_i q;simp only[if_true];exact h.snoc (.inl ⟨rfl,q.1,q.2.2⟩)
 split
 ·rename_i q;simp only[if_true];have:=h.snoc (x:=x) (f:=false) (.inr ⟨rfl,q⟩);rw[q]at this;exact this
 split
 ·simp only;rw[if_neg aR];exact h
 ·simp only;rw[if_neg aR];exact h
def CZ:l.gJ.1.wanted=l.wanted/\l.gJ.1.eG=l.eG:=by
 unfold dP.gJ;split
 ·exact⟨rfl,rfl⟩
 ·exact⟨rfl,rfl⟩
def lU(l:dP)(aG:Nat)(g:ij):ij:=
 match l.bF with
 |[]=>g
 |(x,f)::_=>{ g with H:=g.H++[⟨x.id,x.aY,(dO l.mv x.bW f).2⟩],Q:=(if l.ready.length=aG then g.Q.tail else g.Q)++[g.H.length] }
def EO{H:List Rec}{x:Item}{f:Bool}{r:List (Item×Bool)}{dx:Int}(h:uh (kD H) ((x,f)::r) dx):(f=true/\x.aY≠kD H/\x.key=true\/f=false/\x.aY=kD H)/\uh x.aY r dx:=h
def zE(H:List Rec)(x:Rec):kD (H++[x])=x.aY:=by unfold kD;simp
def ie{α:Type}{l:List α}{a b:α}{k:Nat}(h:(l++[a])[k]? = Z b):l[k]? = Z b\/k=l.length/\b=a:=by
 rcases Nat.lt_trichotomy k l.length with q|q|q
 ·rw[dk q]at h;exact .inl h
 ·subst q;rw[List.getElem?_append_right (aj _),Nat.sub_self]at h;simp at h;exact .inr ⟨rfl,h.symm⟩
 ·rw[List.getElem?_eq_none dZ]at h;cases h
def NH{aG:Nat}{q:List (Nat×cQ)}{c:List Nat}{x:Nat×cQ}{e:Nat}(h1:1<=aG)(g:c.length=q.length){i k:Nat}{y:Nat×cQ}
  (d:((if q.length=aG then c.tail else c)++[e])[i]? = Z k) (hy:(push aG q x)[i]? = Z y):(∃j:Nat,c[j]? = Z k/\q[j]? = Z y)\/k=e/\y=x:=by
 unfold push at hy;by_cases f:q.length=aG
 ·rw[if_pos f]at d hy;rcases ie d with a | ⟨a,rfl⟩
  ·rcases ie hy with b | ⟨b,rfl⟩
   ·rw[List.getElem?_tail]at a b;exact .inl ⟨i+1,a,b⟩
   ·exfalso;have:=(aS.1 a).1;simp only[List.length_tail]at this b;omega
  ·rcases ie hy with b | ⟨b,rfl⟩
   ·exfalso;have:=(aS.1 b).1;simp only[List.length_tail]at this a;omega
   ·exact .inr ⟨rfl,rfl⟩
 ·rw[if_neg f]at d hy;rcases ie d with a | ⟨a,rfl⟩
  ·rcases ie hy with b | ⟨b,rfl⟩
   ·exact .inl ⟨i,a,b⟩
   ·exfalso;have:=(aS.1 a).1;omega
  ·rcases ie hy with b | ⟨b,rfl⟩
   ·exfalso;have:=(aS.1 b).1;omega
   ·exact .inr ⟨rfl,rfl⟩
def DI{α:Type}{aG:Nat}{q:List α}{x:α}(h1:1<=aG):(push aG q x).length=if q.length=aG then q.length else q.length+1:=by
 unfold push;split<;>simp<;>omega
def iv.PF(h:iv ps bk l g):∀k∈g.W++g.Q,k<g.H.length:=by
 intro k c;rcases bt.1 c with q|q
 ·obtain⟨i,hi,e⟩:=ed q;have a:i<l.fF.length:=by rw[<-h.fF];exact hi
  obtain⟨x,b,_⟩:=h.qT i k _ (by rw[ay hi,e]) (ay a);exact(aS.1 b).1
 ·obtain⟨i,hi,e⟩:=ed q;have a:i<l.ready.length:=by rw[<-h.ready];exact hi
  obtain⟨x,b,_⟩:=h.rU i k _ (by rw[ay hi,e]) (ay a);exact(aS.1 b).1
def yE(s:Qd)(p:cR)(f:Bool)(h:p.right=true):(dO s p f).2.right=true:=h
def iv.eO(h:iv ps bk l g)(aG:Nat)(h1:1<=aG){x:Item}{f:Bool}{r:List (Item×Bool)}(hp:l.bF=(x,f)::r)(D:uh (kD g.H) l.bF l.dx) :
  iv ps bk (l.eO aG).1 (lU l aG g)/\(∀i∈ids (l.eO aG).1,i∈ids l)/\(∀i,(l.eO aG).2=Z i->i∉ids (l.eO aG).1/\i∈ids l) /\
   (lU l aG g).H.length=g.H.length+1/\uh (kD (lU l aG g).H) (l.eO aG).1.bF (l.eO aG).1.dx:=by
 have hw:=h.xa (.inr (.inl (by rw[hp];simp)));have B:Good ps g.jo x:=h.bF (x,f) (by rw[hp];simp);obtain⟨o1,o2,o3,o4⟩:=h.ranges;rw[hp]at D;obtain⟨c1,c2⟩:=EO D;have e1:(l.eO aG).1={ l with bF:=r,mv:=(dO l.mv x.bW f).1,ready:=push aG l.ready (x.id,(ic (dO l.mv x.bW f).2).1) }:=by unfold dP.eO;rw[hp]
 have e2:(l.eO aG).2=if l.ready.length=aG then l.ready.head?.map (·.1) else I:=by unfold dP.eO;rw[hp]
 have e3:lU l aG g={ g with H:=g.H++[⟨x.id,x.aY,(dO l.mv x.bW f).2⟩],Q:=(if l.ready.length=aG then g.Q.tail else g.Q)++[g.H.length] }:=by unfold lU;rw[hp]
 rw[e1,e2,e3];have v:(ic (dO l.mv x.bW f).2).1=(dO l.mv x.bW f).2.bytes:=by unfold ic;rw[if_pos (yE l.mv x.bW f B.right)]
 rw[v];generalize hP:(dO l.mv x.bW f).2=P;have d:P.bJ=l.mv.bJ/\P.dQ=l.mv.dQ/\P.cF=x.bW.cF/\P.right=true/\P.aU=(dO l.mv x.bW f).1.fH:=by subst hP;exact⟨rfl,rfl,rfl,B.right,rfl⟩
 have m:(dO l.mv x.bW f).1.fH=(x.bW.aU+(dO l.mv x.bW f).1.shift) % 4294967296:=rfl;have o:ids l=l.cK.map Item.id++(x.id::(r.map (λy=>y.1.id)++l.ready.map gO)):=by unfold ids;rw[hp];simp
 have L:=h.nodup;rw[o]at L;obtain⟨a,a1,a2,a3⟩:=B.at_;have R:P.Ok:=by
  have k:=B.ok;subst hP;refine⟨k.type,?_,?_,?_,k.aQ,k.bV⟩
  ·show 0<=l.mv.dQ/\l.mv.dQ<65536;rw[h.dQ];omega
  ·show 0<=(dO l.mv x.bW f).1.fH/\(dO l.mv x.bW f).1.fH<4294967296;rw[m];omega
  ·show 0<=l.mv.bJ/\l.mv.bJ<4294967296;rw[h.bJ];exact⟨o1,o2⟩
 have E:Fh ps { g with H:=g.H++[⟨x.id,x.aY,P⟩],Q:=(if l.ready.length=aG then g.Q.tail else g.Q)++[g.H.length] } g.H.length ⟨x.id,x.aY,P⟩:=
  ⟨d.2.2.2.1,R,by rw[d.2.1];exact h.dQ,by rw[d.1];exact h.bJ,⟨a,a1,a3,by rw[d.2.2.1,a2]⟩⟩
 have S:∀y∈(push aG l.ready (x.id,P.bytes)).map gO,y=x.id\/y∈l.ready.map gO:=by
  intro y hy;obtain⟨T,U,rfl⟩:=eU.1 hy;rcases zq U with q|q
  ·exact .inr (eU.2 ⟨T,q,rfl⟩)
  ·left;rw[q]
 have A:∀i∈ids { l with bF:=r,mv:=(dO l.mv x.bW f).1,ready:=push aG l.ready (x.id,P.bytes) },i∈ids l:=by
  intro i hi;rw[o];unfold ids at hi;simp only[bt,fw]at hi ⊢;rcases hi with q|q|q
  ·exact .inl q
  ·exact .inr (.inr (.inl q))
  ·rcases S i q with e|e
   ·exact .inr (.inl e)
   ·exact .inr (.inr (.inr e))
 have n:(push aG l.ready (x.id,P.bytes)).map gO=(if l.ready.length=aG then(l.ready.map gO).tail else l.ready.map gO)++[x.id]:=by
  unfold push;split<;>simp
 have X:(ids { l with bF:=r,mv:=(dO l.mv x.bW f).1,ready:=push aG l.ready (x.id,P.bytes) }).Nodup:=by
  unfold ids;simp only[n];have sub:jz (if l.ready.length=aG then(l.ready.map gO).tail else l.ready.map gO) (l.ready.map gO):=by
   split
   ·exact ss _
   ·exact gf _
  have p:(l.cK.map Item.id++(r.map (λy=>y.1.id)++((if l.ready.length=aG then(l.ready.map gO).tail else l.ready.map gO)++[x.id]))).Perm
    (l.cK.map Item.id++(x.id::(r.map (λy=>y.1.id)++(if l.ready.length=aG then(l.ready.map gO).tail else l.ready.map gO)))):=by
   refine List.Perm.append_left _ ?_;rw[<-dL];exact List.perm_append_singleton _ _
  refine p.nodup_iff.2 (List.Nodup.sublist ?_ L);exact kZ (List.Sublist.cons_cons _ (kZ sub _)) _
 refine⟨{ h with nodup:=X,kz:=λi hi=>h.kz i (A i hi),bF:=λy hy=>h.bF y (by rw[hp];simp[hy]),idle:=λq=>absurd (show l.wanted=false from q) (by rw[hw];simp),bJ:=h.bJ,dQ:=?_,any:=?_,aU:=h.aU,fH:=?_,zM:=?_,zero:=?_,next:=?_,ready:=?_,rU:=?_,qT:=?_,sorted:=?_,eG:=?_ },A,?_,dt,?_⟩
 ·show(l.mv.dQ+1) % 65536=(g.dQ+((g.H++[(⟨x.id,x.aY,P⟩:Rec)]).length:Nat)) % 65536;rw[h.dQ];simp;omega
 ·show true=decide (0<(g.H++[(⟨x.id,x.aY,P⟩:Rec)]).length);simp
 ·intro y hy;simp at hy;subst hy;refine⟨d.2.2.2.2.symm,a,a1,?_⟩;show P.aU=_;rw[d.2.2.2.2,m,a2]
 ·intro k y hy;rcases ie hy with q | ⟨rfl,rfl⟩
  ·obtain⟨w1,w2,w3,w4,w5⟩:=h.zM k y q;exact⟨w1,w2,w3,w4,w5⟩
  ·exact E
 ·intro y hy;rcases ie hy with q | ⟨q,rfl⟩
  ·exact h.zero y q
  ·have hH:g.H=[]:=cU.1 q.symm;rw[hH]at c1;have Tf:=B.aY;have w:x.key=true:=by
    rcases c1 with⟨_,_,q⟩ | ⟨_,q⟩
    ·exact q
    ·have:kD ([]:List Rec) = -1:=rfl;rw[this]at q;omega
   refine⟨by show lx P.cF=true;rw[d.2.2.1,<-B.key,w],?_⟩;show P.aU=g.aU;rw[d.2.2.2.2,m];have s:l.mv.any=false:=by rw[h.any,hH];simp
   have:(dO l.mv x.bW f).1.shift=(l.mv.aU-x.bW.aU) % 4294967296:=by unfold dO;simp[s]
   rw[this,h.aU];omega
 ·intro k y T hy U b c hb M;rcases ie U with q | ⟨q,rfl⟩
  ·have w:k<g.H.length:=by have:=(aS.1 q).1;omega
   rw[dk w]at hy;exact h.next k y T hy q b c hb M
  ·have w:k<g.H.length:=z;rw[dk w]at hy;have F:g.H.getLast? = Z y:=by rw[List.getLast?_eq_getElem?,show g.H.length-1=k from by omega];exact hy
   obtain⟨l1,a',l2,l3⟩:=h.fH y F;have Y:kD g.H=y.aY:=by unfold kD;rw[F]
   rw[Y]at c1;have s:l.mv.any=true:=by rw[h.any];simp;omega
   rw[hb]at l2;cases l2;simp only at M;rw[a1]at M;cases M;simp only;rw[d.2.2.2.2,m,d.2.2.1,<-B.key,a2];constructor
   ·intro u;have N:f=false:=by rcases c1 with⟨_,q,_⟩ | ⟨q,_⟩;exact absurd u q;exact q
    have:(dO l.mv x.bW f).1.shift=l.mv.shift:=by unfold dO;simp[s,N]
    rw[this,l3];omega
   ·intro u;have N:f=true/\x.key=true:=by rcases c1 with⟨q1,_,q2⟩ | ⟨_,q⟩;exact⟨q1,q2⟩;exact absurd q u
    have:(dO l.mv x.bW f).1.shift=(l.mv.fH+3000-x.bW.aU) % 4294967296:=by unfold dO;simp[s,N.1]
    rw[this,l1];exact⟨N.2,z⟩
 ·show((if l.ready.length=aG then g.Q.tail else g.Q)++[g.H.length]).length=(push aG l.ready (x.id,P.bytes)).length;rw[DI h1];have:=h.ready;split<;>simp<;>omega
 ·intro i k q w C;rcases NH h1 h.ready w C with⟨j,b1,b2⟩ | ⟨rfl,rfl⟩
  ·obtain⟨y,G,y2⟩:=h.rU j k q b1 b2;exact⟨y,by have:=(aS.1 G).1;rw[dk this];exact G,y2⟩
  ·exact⟨⟨x.id,x.aY,P⟩,dt,rfl⟩
 ·intro i k q w C;obtain⟨y,G,y2⟩:=h.qT i k q w C;exact⟨y,by have:=(aS.1 G).1;rw[dk this];exact G,y2⟩
 ·show(g.W++((if l.ready.length=aG then g.Q.tail else g.Q)++[g.H.length])).Pairwise (· < ·);rw[<-dL,List.pairwise_append];have sub:jz (g.W++if l.ready.length=aG then g.Q.tail else g.Q) (g.W++g.Q):=by
   refine kZ ?_ _;split
   ·exact ss _
   ·exact gf _
  refine⟨h.sorted.sublist sub,dt,λi hi j hj=>?_⟩;simp at hj;subst hj;exact h.PF i (sub.subset hi)
 ·intro q;have:=h.eG q;rw[o]at this;simp at this
 ·intro i hi;split at hi
  ·rename_i C;cases hr:l.ready with
   |nil=>rw[hr]at hi;cases hi
   |cons y t =>
    rw[hr]at hi;simp at hi;subst hi;rw[hr,eV]at L;have K:=L;rw[jj]at K;obtain⟨n1,n2,n3⟩:=K;have n4:=(iM.1 n2);have n5:=jj.1 n4.2;have n6:=iM.1 n5.2.1;constructor
    ·unfold ids;rw[hr]at n C;simp only[hr,n];rw[if_pos C];simp only[eV,List.tail_cons,bt,kr];rintro(q|q|q|q)
     ·exact n3 _ q _ dt rfl
     ·exact n5.2.2 _ q _ dt rfl
     ·exact n6.1 q
     ·exact n4.1 (by rw[<-q];simp)
    ·rw[o,hr];simp
  ·cases hi
 ·rw[zE];exact c2
end M
end
section
namespace M
variable {ps:Nn} {bk:Nat->Option Int} {l:dP} {g:ij}
def iR(l:dP)(aT:Int)(fq:Bool)(g:ij):ij:=
 if l.ready=[] then g else if fq then { g with W:=g.W++g.Q.take 1,Q:=g.Q.drop 1 } else if(l.write aT fq).1.eG then { g with Q:=[] } else g
def iv.Gn(h:iv ps bk l g)(a:ids l≠[]):l.eG=false:=by
 cases hg:l.eG
 ·rfl
 ·exact absurd (h.eG hg) a
def iv.less(h:iv ps bk l g)(c:List Item)(p:List (Item×Bool))(k:Nat)(row:Int)(eG:Bool)(n:c=l.cK\/c=[])(hp:p=l.bF\/p=[])(r:k=0\/l.ready.length<=k)
  (hg:eG=true->c=[]/\p=[]/\l.ready.drop k=[]) (o:k=0\/l.ready.length<=k) :
  iv ps bk { l with cK:=c,bF:=p,ready:=l.ready.drop k,row:=row,eG:=eG } { g with Q:=g.Q.drop k }/\(∀i∈ids { l with cK:=c,bF:=p,ready:=l.ready.drop k,row:=row,eG:=eG },i∈ids l):=by
 have s1:jz c l.cK:=by rcases n with rfl|rfl;exact gf _;exact List.nil_sublist _
 have s2:jz p l.bF:=by rcases hp with rfl|rfl;exact gf _;exact List.nil_sublist _
 have s3:jz (l.ready.drop k) l.ready:=List.drop_sublist _ _;have sub:jz (ids { l with cK:=c,bF:=p,ready:=l.ready.drop k,row:=row,eG:=eG }) (ids l):=by
  unfold ids;exact(s1.map _).append ((s2.map _).append (s3.map _))
 refine⟨{ h with nodup:=h.nodup.sublist sub,kz:=λi hi=>h.kz i (sub.subset hi),cK:=λx e=>h.cK x (s1.subset e),bF:=λx e=>h.bF x (s2.subset e),idle:=λq=>?_,zM:=?_,ready:=?_,rU:=?_,sorted:=?_,eG:=?_ },sub.subset⟩
 ·obtain⟨a,b,d⟩:=h.idle q;exact⟨by have:=s1;rw[a]at this;exact List.sublist_nil.1 this,by have:=s2;rw[b]at this;exact List.sublist_nil.1 this,d⟩
 ·intro k x e;obtain⟨w1,w2,w3,w4,w5⟩:=h.zM k x e;exact⟨w1,w2,w3,w4,w5⟩
 ·show(g.Q.drop k).length=(l.ready.drop k).length;rw[lz,lz,h.ready]
 ·intro i j q f m;simp only[List.getElem?_drop]at f m;exact h.rU _ _ _ f m
 ·exact h.sorted.sublist (kZ (List.drop_sublist _ _) _)
 ·intro q;obtain⟨a,b,d⟩:=hg q;unfold ids;simp[a,b,d]
def iv.write(h:iv ps bk l g)(aT:Int)(fq:Bool){x:Nat×cQ}{r:List (Nat×cQ)}(hr:l.ready=x::r) :
  iv ps bk (l.write aT fq).1 (iR l aT fq g)/\(∀i∈ids (l.write aT fq).1,i∈ids l)/\((l.write aT fq).2.2=1->x.1∉ids (l.write aT fq).1)/\(l.write aT fq).2.1=x.1 /\
   ((l.write aT fq).2.2=1↔fq=true)/\(l.write aT fq).1.bF=(if(l.write aT fq).1.eG then[] else l.bF)/\(l.write aT fq).1.dx=l.dx/\(l.write aT fq).1.wanted=l.wanted:=by
 have hg:l.eG=false:=h.Gn (by unfold ids;rw[hr];simp);have n:=h.ready;rw[hr,ft]at n;obtain⟨e,Q',c⟩:∃e Q',g.Q=e::Q':=by
  cases j:g.Q with
  |nil=>rw[j]at n;simp at n
  |cons a b=>exact⟨a,b,rfl⟩
 cases fq with
 |true =>
  have f:l.write aT true=({ l with ready:=r,fF:=l.fF++[x],row:=0 },x.1,1):=by unfold dP.write;rw[hr];simp[hg]
  have m:iR l aT true g={ g with W:=g.W++[e],Q:=Q' }:=by unfold iR;rw[if_neg (by rw[hr];simp),if_pos rfl,c];simp
  rw[f,m];have d:ids l=l.cK.map Item.id++(l.bF.map (λy=>y.1.id)++(x.1::r.map gO)):=by unfold ids;rw[hr];rfl
  have o:=h.nodup;rw[d]at o;have sub:jz (ids { l with ready:=r,fF:=l.fF++[x],row:=0 }) (ids l):=by
   rw[d];unfold ids;exact(gf _).append ((gf _).append (oq _ _))
  have s:∃y,g.H[e]? = Z y/\x=(y.id,y.p.bytes):=h.rU 0 e x (by rw[c];rfl) (by rw[hr];rfl);refine⟨{ h with nodup:=o.sublist (by rw[<-d];exact sub),kz:=λi hi=>h.kz i (sub.subset hi),ready:=?_,rU:=?_,fF:=?_,qT:=?_,sorted:=?_,eG:=?_,zM:=?_ },sub.subset,λ_=>?_,rfl,dt,by simp[hg],rfl,rfl⟩
  ·intro k y hy;obtain⟨w1,w2,w3,w4,w5⟩:=h.zM k y hy;exact⟨w1,w2,w3,w4,w5⟩
  ·show Q'.length=r.length;rw[c,ft]at n;omega
  ·intro i k q t j;refine h.rU (i+1) k q ?_ ?_
   ·rw[c,iY];exact t
   ·rw[hr,iY];exact j
  ·show(g.W++[e]).length=(l.fF++[x]).length;simp[h.fF]
  ·intro i k q t j;rcases ie t with a | ⟨a,rfl⟩
   ·rcases ie j with b | ⟨b,rfl⟩
    ·exact h.qT i k q a b
    ·exfalso;have:=(aS.1 a).1;have:=h.fF;omega
   ·rcases ie j with b | ⟨b,rfl⟩
    ·exfalso;have:=(aS.1 b).1;have:=h.fF;omega
    ·exact s
  ·show((g.W++[e])++Q').Pairwise (· < ·);have:=h.sorted;rw[c]at this;rw[dL];exact this
  ·intro q;have:l.eG=true:=q;rw[hg]at this;cases this
  ·unfold ids;simp only[bt];have n1:=jj.1 o;have v:=jj.1 n1.2.1;have w:=iM.1 v.2.1;rintro(q|q|q)
   ·exact n1.2.2 _ q _ dt rfl
   ·exact v.2.2 _ q _ dt rfl
   ·exact w.1 q
 |false =>
  by_cases hm:l.row+1=aT
  ·have f:l.write aT false=({ l with row:=l.row+1,eG:=true,cK:=[],bF:=[],ready:=[] },x.1,7):=by unfold dP.write;rw[hr];simp[hg,hm]
   have m:iR l aT false g={ g with Q:=[] }:=by unfold iR;rw[if_neg (by rw[hr];simp),if_neg dt,f];rfl
   have key:=h.less [] [] l.ready.length (l.row+1) true (.inr rfl) (.inr rfl) (.inr (aj _)) (λ_=>⟨rfl,rfl,dt⟩) (.inr (aj _));rw[kb]at key;have u:g.Q.drop l.ready.length=[]:=by rw[List.drop_eq_nil_iff,h.ready];exact aj _
   rw[u]at key;rw[f,m];exact⟨key.1,key.2,λq=>by simp at q,rfl,dt,rfl,rfl,rfl⟩
  ·have f:l.write aT false=({ l with row:=l.row+1 },x.1,0):=by unfold dP.write;rw[hr];simp[hg,hm,hr]
   have m:iR l aT false g=g:=by unfold iR;rw[if_neg (by rw[hr];simp),if_neg dt,f];simp[hg]
   rw[f,m];exact⟨{ h with eG:=h.eG },λi hi=>hi,λq=>by simp at q,rfl,dt,by simp[hg],rfl,rfl⟩
def iv.put(h:iv ps bk l g)(aG:Nat)(h1:1<=aG){x:Item}(A:there x.aY=true->x.bW.right=true->Good ps g.jo x)(B:bk x.id=Z 0)(o:x.id∉ids l) :
  iv ps bk (l.put aG x).1 g/\(∀i∈ids (l.put aG x).1,i∈ids l\/i=x.id)/\(∀i,(l.put aG x).2=Z i->i∉ids (l.put aG x).1/\i∈ids l) /\
   (l.put aG x).1.bF=l.bF/\(l.put aG x).1.dx=l.dx/\(l.put aG x).1.wanted=l.wanted/\(l.put aG x).1.eG=l.eG:=by
 by_cases n:(!(there x.aY&&x.bW.right)||l.eG || !l.wanted)=true
 ·have e:l.put aG x=(l,I):=by unfold dP.put;rw[if_pos n]
  rw[e];exact⟨h,λi hi=>.inl hi,λi hi=>(by cases hi),rfl,rfl,rfl,rfl⟩
 ·have e:l.put aG x=({ l with cK:=push aG l.cK x },if l.cK.length=aG then l.cK.head?.map (·.id) else I):=by unfold dP.put;rw[if_neg n]
  rw[e];simp only[Bool.or_eq_true,oP,not_or,Bool.not_eq_false,oV,cM]at n;obtain⟨⟨r,s⟩,u⟩:=n;have f:there x.aY=true/\x.bW.right=true:=by
   cases a:there x.aY<;>cases b:x.bW.right<;>simp[a,b]at r ⊢
  have v:=A f.1 f.2;have d:(push aG l.cK x).map Item.id=(if l.cK.length=aG then(l.cK.map Item.id).tail else l.cK.map Item.id)++[x.id]:=by
   unfold push;split<;>simp
  have sub:jz (if l.cK.length=aG then(l.cK.map Item.id).tail else l.cK.map Item.id) (l.cK.map Item.id):=by
   split
   ·exact ss _
   ·exact gf _
  have j:∀i∈ids { l with cK:=push aG l.cK x },i∈ids l\/i=x.id:=by
   intro i hi;unfold ids at hi ⊢;simp only[d,bt,kr]at hi ⊢;rcases hi with(q|q)|q|q
   ·exact .inl (.inl (sub.subset q))
   ·exact .inr q
   ·exact .inl (.inr (.inl q))
   ·exact .inl (.inr (.inr q))
  have k:=h.nodup;refine⟨{ h with nodup:=?_,kz:=λi hi=>?_,cK:=λy hy=>?_,idle:=λq=>?_,eG:=λq=>?_ },j,?_,rfl,rfl,rfl,rfl⟩
  ·unfold ids at k o ⊢;simp only[d];rw[dL];have p:((if l.cK.length=aG then(l.cK.map Item.id).tail else l.cK.map Item.id)++([x.id]++(l.bF.map (λy=>y.1.id)++l.ready.map gO))).Perm
     (x.id::((if l.cK.length=aG then(l.cK.map Item.id).tail else l.cK.map Item.id)++(l.bF.map (λy=>y.1.id)++l.ready.map gO))):=tp
   refine p.nodup_iff.2 (iM.2 ⟨λq=>o ?_,k.sublist (sub.append (gf _))⟩);rcases bt.1 q with q|q
   ·exact bt.2 (.inl (sub.subset q))
   ·exact bt.2 (.inr q)
  ·rcases j i hi with q|rfl
   ·exact h.kz i q
   ·exact B
  ·rcases zq hy with q|rfl
   ·exact h.cK y q
   ·exact v
  ·exact absurd u (by rw[show l.wanted=false from q];simp)
  ·exact absurd q s
  ·intro i hi;split at hi
   ·rename_i w;cases c:l.cK with
    |nil=>rw[c]at hi;cases hi
    |cons y t =>
     rw[c]at hi;simp at hi;subst hi;have m:y.id∈ids l:=by unfold ids;rw[c];simp
     refine⟨?_,m⟩;unfold ids at k ⊢;rw[c]at d w;simp only[c,d];rw[if_pos w];rw[c,eV,lA,iM]at k;rw[eV,List.tail_cons];simp only[bt,kr];rintro((q|q)|q|q)
     ·exact k.1 (bt.2 (.inl q))
     ·exact o (q ▸ m)
     ·exact k.1 (bt.2 (.inr (bt.2 (.inl q))))
     ·exact k.1 (bt.2 (.inr (bt.2 (.inr q))))
   ·cases hi
def iv.iy(h:iv ps bk l g)(aY:Int):iv ps bk (l.iy aY).1 g/\ids (l.iy aY).1=ids l/\(l.iy aY).1.bF=l.bF/\(l.iy aY).1.eG=l.eG/\(l.wanted=true->(l.iy aY).1.dx=l.dx/\(l.iy aY).1.wanted=true) /\
  (l.wanted=false->(l.iy aY).1.wanted=true->(l.iy aY).1.dx = -1)/\((l.iy aY).2=0->(l.iy aY).1.wanted=true):=by
 unfold dP.iy;split
 ·exact⟨h,rfl,rfl,rfl,λq=>⟨rfl,q⟩,λq r=>absurd r (by rw[show l.wanted=false from q];simp),λq=>absurd q dt⟩
 split
 ·exact⟨h,rfl,rfl,rfl,λq=>⟨rfl,q⟩,λq r=>absurd r (by rw[show l.wanted=false from q];simp),λq=>absurd q dt⟩
 ·exact⟨{ h with idle:=λq=>by cases q },rfl,rfl,rfl,λq=>⟨by simp[q],rfl⟩,λq _=>by simp[q],λ_=>rfl⟩
def iv.new(ps:Nn)(bk:Nat->Option Int)(own dQ aU jo:Int)(h0:0<=own/\own<4294967296/\0<=aU/\aU<4294967296)(c:0<=dQ/\dQ<65536):iv ps bk (.new own dQ aU) ⟨own,dQ,aU,jo,[],[],[]⟩:=
 ⟨by simp[ids,dP.new],λi hi=>by simp[ids,dP.new]at hi,λx a=>by simp[dP.new]at a,λx a=>by simp[dP.new]at a,λ_=>⟨rfl,rfl,rfl⟩,rfl,by simp[dP.new];omega,rfl,rfl,λx a=>by simp at a,λk x a=>by simp at a,λx a=>by simp at a,
  λk x y a=>by simp at a,rfl,λi k q b=>by simp at b,rfl,λi k q b=>by simp at b,dt,λq=>by simp[dP.new]at q,h0⟩
end M
end
section
namespace M
variable {R:Room} {G:Int->ij} {n:Nat}
def dY{α β:Type}[DecidableEq α](f:α->β)(k:α)(v:β):set f k v k=v:=by simp[set]
def da{α β:Type}[DecidableEq α](f:α->β){k x:α}(v:β)(h:x≠k):set f k v x=f x:=by simp[set,h]
def Inv.lJ(id:Nat){f:Int}(a:f≠0):∀(l:List Int) {R:Room},Inv R G n->(∀s,∀m,R.aD s=Z m->id∉ids m)->Inv (l.foldl (λr s=>r.bR s id f) R) G n
 |[],_,h,_=>h
 |s::l,R,h,b=>by
  rw[eN];exact Inv.lJ id a l (h.bR s id a (b s)) λk m hm=>b k m (by rw[(nW R s id f).1]at hm;exact hm)
def Inv.fI(s:Int):∀(l:List Nat) {R:Room},Inv R G n->(∀id∈l,∀m,R.aD s=Z m->id∉ids m)->Inv (R.fI s l) G n
 |[],_,h,_=>h
 |i::l,R,h,a=>by
  unfold Room.fI;rw[eN];exact Inv.fI s l (h.bR s i aR (a i dt)) λid hid m hm=>a id (by simp[hid]) m (by rw[(nW R s i 8).1]at hm;exact hm)
def Inv.fO(h:Inv R G n){o:bN}{st FH:eu}(c:R.az o=Z st)(d:jz (FH.bQ.bD.map js.id) (st.bQ.bD.map js.id)):Inv { R with az:=set R.az o (Z FH) } G n:=by
 refine { h with held:=λp q b=>?_,aY:=λp q b=>?_ }
 ·have a:set R.az o (Z FH) p=Z q:=b;unfold set at a;by_cases e:p=o
  ·subst e;rw[if_pos rfl]at a;cases a;obtain⟨h1,h2⟩:=h.held p st c;refine⟨h1.sublist d,λx f=>?_⟩;obtain⟨y,hy,e⟩:=eU.1 (d.subset (eU.2 ⟨x,f,rfl⟩));rw[<-e];exact h2 y hy
  ·rw[if_neg e]at a;exact h.held p q a
 ·have a:set R.az o (Z FH) p=Z q:=b;unfold set at a;by_cases e:p=o
  ·subst e;exact h.aY p st c
  ·rw[if_neg e]at a;exact h.aY p q a
def Inv.fG(h:Inv R G n)(o:bN)(f:eu->eu)(a:∀x,(f x).bQ=x.bQ):Inv (R.fG o f) G n:=by
 unfold Room.fG;cases b:R.az o with
 |none=>exact h
 |some st=>exact h.fO b (by rw[a];exact gf _)
def Inv.count(h:Inv R G n)(f:nH->nH):Inv (R.count f) G n:={ h with }
def Inv.ask(h:Inv R G n)(x:Int):Inv (R.ask x) G n:=by
 unfold Room.ask;generalize R.pj x=l;revert R;induction l with
 |nil=>intro R h;exact h
 |cons a l b =>
  intro R h;rw[eN];refine b ?_;split
  ·split
   ·exact h.fG _ _ (λ_=>rfl)
   ·exact h
  ·exact h
def Inv.dJ:∀(l:List Int) {R:Room},Inv R G n->Inv (l.foldl Room.ask R) G n
 |[],_,h=>h
 |x::l,_,h=>Inv.dJ l (h.ask x)
def F1(b:mf)(aG m now:Int)(id:Nat):(b.push aG m now id).1.bD=b.bD\/∃l r,b.bD=l++r/\(b.push aG m now id).1.bD=l++⟨m,now,id⟩::r:=by
 unfold mf.push;split
 ·exact .inl rfl
 split
 ·exact .inl rfl
 split
 ·exact .inl rfl
 ·exact .inr ⟨_,_,(List.takeWhile_append_dropWhile).symm,rfl⟩
def vW{α:Type}{l:List α}{i:Nat}{a b:α}(h:l[i]? = Z a):(l++[b])[i]? = Z a:=by
 rw[dk (aS.1 h).1];exact h
def Inv.je(h:Inv R G n)(o:bN)(p:cR)(hp:p.Ok):Inv (R.je o p) G n:=by
 unfold Room.je;cases v:R.az o with
 |none=>exact h
 |some s =>
  simp only;generalize hm:(if s.any=true then jL s.dv p.dQ else nE p.dQ)=m;have d:=F1 s.bQ R.dA.eJ m R.cJ R.aO.length;generalize D:s.bQ.push R.dA.eJ m R.cJ R.aO.length=be at d;obtain⟨buf,e⟩:=be;simp only at d ⊢;have g:∀s l,R.aD s=Z l->R.aO.length∉ids l:=λs l w q=>by have:=h.RN w q;omega
  have eJ:∀o st,R.az o=Z st->∀x∈st.bQ.bD,x.id<R.aO.length:=λo st j x f=>by
   obtain⟨⟨a,C,_⟩,_⟩:=(h.held o st j).2 x f;exact(aS.1 C).1
  have key:∀FH:eu,FH.bQ=buf->Inv { R with
     aO:=R.aO++[⟨o,m,p⟩]
     bp:={ R.bp with fP:=R.bp.fP+1 }
     di:=λsub=>if sub∈R.ik o.1 then set (R.di sub) R.aO.length (Z 0) else R.di sub
     az:=set R.az o (Z FH) } G n:=by
   intro FH y;refine { h with fo:=λk l w=>?_,kz:=λk id E=>?_,held:=λq st j=>?_,aY:=λq st j=>?_,pk:=λa C=>?_ }
   ·refine⟨((h.fo k l w).1).mono (λi a hi=>vW hi) λid hid=>?_,(h.fo k l w).2⟩;have v:=(h.fo k l w).1.kz id hid;show(if k∈R.ik o.1 then set (R.di k) R.aO.length (Z 0) else R.di k) id=Z 0;split
    ·unfold set;split
     ·rfl
     ·exact v
    ·exact v
   ·have t:(if k∈R.ik o.1 then set (R.di k) R.aO.length (Z 0) else R.di k) id=Z 0:=E;have A:R.di k id=Z 0->∃a x,(R.aO++[(⟨o,m,p⟩:kM)])[id]? = Z a/\R.bh k=Z x/\x.cL=true/\x.jo=a.origin.1:=λq=>by
     obtain⟨a,x,F,H⟩:=h.kz k id q;exact⟨a,x,vW F,H⟩
    split at t
    ·rename_i b;unfold set at t;by_cases e:id=R.aO.length
     ·subst e;unfold Room.ik at b;rw[List.mem_filter]at b;obtain⟨_,b⟩:=b;cases u:R.bh k with
      |none=>rw[u]at b;cases b
      |some x =>
       rw[u]at b;simp only[cM,decide_eq_true_eq]at b;exact⟨⟨o,m,p⟩,x,dt,by first|exact u|exact rfl,b.1,b.2⟩
     ·rw[if_neg e]at t;exact A t
    ·exact A t
   ·have c:set R.az o (Z FH) q=Z st:=j;unfold set at c;by_cases e:q=o
    ·subst e;rw[if_pos rfl]at c;cases c;rw[y];obtain⟨h1,h2⟩:=h.held q s v;have up:∀x∈s.bQ.bD,(∃a,(R.aO++[(⟨q,m,p⟩:kM)])[x.id]? = Z a/\a.origin=q)/\∀k l,R.aD k=Z l->x.id∉ids l:=λx f=>by
      obtain⟨⟨a,a1,a2⟩,a3⟩:=h2 x f;exact⟨⟨a,vW a1,a2⟩,a3⟩
     rcases d with e | ⟨l,r,B,K⟩
     ·rw[e];exact⟨h1,up⟩
     ·rw[K];constructor
      ·rw[fL,eV];rw[B,fL]at h1;refine(tp).nodup_iff.2 (iM.2 ⟨λL=>?_,h1⟩);have:R.aO.length∈s.bQ.bD.map js.id:=by rw[B,fL];exact L
       obtain⟨x,f,ex⟩:=eU.1 this;have:=eJ q s v x f;omega
      ·intro x f;rcases bt.1 f with f|f
       ·exact up x (by rw[B];simp[f])
       ·rcases fw.1 f with rfl|f
        ·exact⟨⟨⟨q,m,p⟩,dt,rfl⟩,g⟩
        ·exact up x (by rw[B];simp[f])
    ·rw[if_neg e]at c;obtain⟨h1,h2⟩:=h.held q st c;refine⟨h1,λx f=>?_⟩;obtain⟨⟨a,a1,a2⟩,a3⟩:=h2 x f;exact⟨⟨a,vW a1,a2⟩,a3⟩
   ·have c:set R.az o (Z FH) q=Z st:=j;unfold set at c;by_cases e:q=o
    ·subst e;exact h.aY q s v
    ·rw[if_neg e]at c;exact h.aY q st c
   ·rcases bt.1 C with q|q
    ·exact h.pk a q
    ·simp at q;subst q;exact hp
  split
  ·exact Inv.lJ _ aR _ (key _ rfl) g
  split
  ·exact Inv.lJ _ aR _ (key _ rfl) g
  split
  ·exact Inv.lJ _ aR _ (key _ rfl) g
  ·exact key _ rfl
def zO:∀(l:cQ) (acc:Int) (k:Nat),0<=acc->acc<256 ^ k->(∀x∈l,0<=x/\x<256)->0<=l.foldl (λn x=>n*256+x) acc/\l.foldl (λn x=>n*256+x) acc<256 ^ (k+l.length)
 |[],acc,k,h0,h1,_=>⟨h0,h1⟩
 |x::l,acc,k,h0,h1,a=>by
  have b:=a x dt;have:=zO l (acc*256+x) (k+1) z (by rw[Int.pow_succ];omega) λy hy=>a y (by simp[hy]);rw[eN,ft,show k+(l.length+1)=k+1+l.length from by omega];exact this
def CF(l:cQ)(k:Nat)(a:l.length<=k)(b:∀x∈l,0<=x/\x<256):0<=bO l/\bO l<256 ^ k:=by
 have h:=zO l 0 0 z dt b;rw[Nat.zero_add]at h;refine⟨h.1,Int.lt_of_lt_of_le h.2 ?_⟩;have:((256 ^ l.length:Nat):Int)<=((256 ^ k:Nat):Int):=Int.ofNat_le.2 (Nat.pow_le_pow_right aR a);rw[Int.natCast_pow,Int.natCast_pow]at this;exact this
def N6(r:Rd):Prop:=∀x∈r.left,0<=x/\x<256
def Em{r:Rd}(h:N6 r)(e:Int):N6 (r.fail e):=by
 unfold Rd.fail;split
 ·exact h
 ·intro x a;simp at a
def Mz{r:Rd}(h:N6 r)(m:Int):N6 (r.take m).2/\(∀x∈(r.take m).1,0<=x/\x<256)/\(r.take m).1.length<=m.toNat:=by
 unfold Rd.take;split
 ·exact⟨h,λx a=>by simp at a,dt⟩
 split
 ·exact⟨Em h 3,λx a=>by simp at a,dt⟩
 ·exact⟨λx a=>h x (List.mem_of_mem_drop a),λx a=>h x (List.mem_of_mem_take a),dZ⟩
def tY{r:Rd}(h:N6 r)(k:Nat):N6 (r.num k).2/\0<=(r.num k).1/\(r.num k).1<256 ^ k:=by
 obtain⟨a,b,c⟩:=Mz h k;have:=CF (r.take k).1 k (by simpa using c) b;exact⟨a,this.1,this.2⟩
def El:∀(k:Nat) {r:Rd},N6 r->N6 (jD k r).2/\∀x∈(jD k r).1,0<=x/\x<4294967296
 |0,_,h=>⟨h,λx f=>by simp[jD]at f⟩
 |k+1,r,h=>by
  obtain⟨a,b,c⟩:=tY h 4;obtain⟨d,e⟩:=El k a;refine⟨d,λx f=>?_⟩;rw[jD]at f;rcases fw.1 f with rfl|f
  ·exact⟨b,c⟩
  ·exact e x f
def zm(b:cQ)(h:(eP b).2=0):(eP b).1=wH b:=by
 by_cases h1:200<b.length
 ·have e:eP b=(.zero,4):=by unfold eP;rw[if_pos h1]
  rw[e]at h;exact absurd h aR
 ·by_cases h2:(KG b).end_≠0
  ·have e:eP b=(.zero,(KG b).end_):=by unfold eP;rw[if_neg h1,if_pos h2]
   rw[e]at h;exact absurd h h2
  ·have e:eP b=(wH b,0):=by unfold eP;rw[if_neg h1,if_neg h2]
   rw[e]
def DG(b:cQ)(i:∀x∈b,0<=x/\x<256)(h:(eP b).2=0):(eP b).1.Ok:=by
 have j:=tY (r:=⟨b,0⟩) i 1;have d:=tY (r:=(h1 b).2) j.1 1;have e:=tY (r:=(h2 b).2) d.1 2;have f:=tY (r:=(h3 b).2) e.1 4;have a:=tY (r:=(h4 b).2) f.1 4;have k:N6 (h6 b):=by
  unfold h6;split
  ·exact Em a.1 2
  ·exact a.1
 have g:=El ((h1 b).1 % 16).toNat k;have l:=tY (r:=(h7 b).2) g.1 2;rw[zm b h];have c:0<=(h2 b).1:=d.2.1;refine⟨?_,e.2,f.2,a.2,g.2,?_⟩
 ·show 0<=(h2 b).1 % 128;generalize (h2 b).1=m at c ⊢;omega
 ·show 0<=td b/\td b<65536;unfold td;split
  ·exact l.2
  ·exact⟨aR,aR⟩
def Inv.read(h:Inv R G n):Inv R.read G n:=by
 unfold Room.read;cases d:R.dm with
 |nil=>exact h
 |cons b q =>
  simp only;have k:Inv { R with dm:=q } G n:={ h with qu:=λc e=>h.qu c (by rw[d];simp[show c∈q from e]) };split
  ·cases ff b with
   |none=>exact k.count _
   |some l=>exact Inv.dJ l (k.count _)
  ·split
   ·exact k.count _
   ·rename_i a;show Inv (match R.cW (eP b).1.bJ with | none=>_ | some o=>_) G n;cases R.cW (eP b).1.bJ with
    |none=>exact k.count _
    |some o=>exact k.je o _ (DG b (h.qu b (by rw[d];simp)) (by simpa using a))
def Inv.iW(h:Inv R G n)(x:Item)(s:Int)(v:∃a,R.aO[x.id]? = Z a/\a.bW=x.bW/\a.origin.2=x.aY)(w:x.key=lx x.bW.cF)
  (A:∀o st,R.az o=Z st->∀y∈st.bQ.bD,x.id≠y.id) (B:∀l,R.aD s=Z l->x.id∉ids l):Inv (Room.iW x R s) G n:=by
 unfold Room.iW;split
 ·rename_i t;cases b:R.aD s with
  |none=>exact h
  |some l =>
   simp only;obtain⟨kl,C⟩:=h.fo s l b;obtain⟨a,a1,a2,a3⟩:=v;obtain⟨a',y,b1,b2,b3,b4⟩:=h.kz s x.id t;rw[a1]at b1;cases b1;obtain⟨c1,m,c2,c3,c4⟩:=h.jo s y b2 b3;rw[b]at c2;cases c2;have D:there x.aY=true->x.bW.right=true->Good R.aO (G s).jo x:=λt1 t2=>by
    refine⟨t2,?_,w,⟨a,a1,a2,?_⟩,?_⟩
    ·rw[<-a2];exact h.pk a (List.mem_of_getElem? a1)
    ·exact Prod.ext (by rw[<-b4,c1]) a3
    ·unfold there at t1;simp only[cM,decide_eq_true_eq]at t1;exact t1.1
   obtain⟨p1,p2,p3,E,F,j,k⟩:=kl.put R.dA.aG h.aG D t (B l b);have p:=h.Bq b (g:=G s) rfl p1 C (λid hid=>by
    rcases p2 id hid with q|q
    ·exact .inl q
    ·right;intro o st r u H;rw[q];exact A o st r u H) (λc d _=>⟨by rw[j];exact c,by rw[k];exact d⟩) (λc d=>.inl ⟨by rw[<-j];exact c,by rw[<-k];exact d⟩)
    (λc d K=>by rw[E,F];exact h.chain c s l b (by rw[<-j];exact d) (by rw[<-k];exact K))
   have e:set G s (G s)=G:=by funext u;unfold set;split<;>simp_all
   rw[e]at p;cases L:(l.put R.dA.aG x).2 with
   |none=>exact p
   |some i =>
    refine p.bR s i aR λm hm=>?_;have f:set R.aD s (Z (l.put R.dA.aG x).1) s=Z m:=hm;rw[dY]at f;cases f;exact(p3 i L).1
 ·exact h
def DH(x:Item)(r:Room)(s:Int):(Room.iW x r s).aO=r.aO/\(Room.iW x r s).az=r.az/\∀k,k≠s->(Room.iW x r s).aD k=r.aD k:=by
 unfold Room.iW;split
 ·cases r.aD s with
  |none=>exact⟨rfl,rfl,λ_ _=>rfl⟩
  |some l =>
   simp only;cases(l.put r.dA.aG x).2 with
   |none=>exact⟨rfl,rfl,λk a=>da _ _ a⟩
   |some i =>
    obtain⟨b,c,d,_⟩:=nW { r with aD:=set r.aD s (Z (l.put r.dA.aG x).1) } s i 6;exact⟨c,d,λk a=>by rw[show _=_ from congrFun b k];exact da _ _ a⟩
 ·exact⟨rfl,rfl,λ_ _=>rfl⟩
def Inv.Qp(x:Item)(d:x.key=lx x.bW.cF):∀(l:List Int) {R:Room},l.Nodup->Inv R G n->(∃a,R.aO[x.id]? = Z a/\a.bW=x.bW/\a.origin.2=x.aY)->(∀o st,R.az o=Z st->∀y∈st.bQ.bD,x.id≠y.id) ->
  (∀s∈l,∀m,R.aD s=Z m->x.id∉ids m)->Inv (l.foldl (Room.iW x) R) G n
 |[],_,_,h,_,_,_=>h
 |s::l,R,j,h,f,g,i=>by
  rw[eN];obtain⟨p,q,r⟩:=DH x R s;have b:=iM.1 j;refine Inv.Qp x d l b.2 (h.iW x s f d g (i s dt)) (by rw[p];exact f) (by rw[q];exact g) λk c m hm=>?_;have:k≠s:=λe=>b.1 (e ▸ c);rw[r k this]at hm;exact i k (by simp[c]) m hm
def Inv.order(h:Inv R G n):Inv R.order G n:=by
 unfold Room.order;cases R.ready with
 |none=>exact h
 |some o =>
  simp only;cases f:R.az o with
  |none=>exact h
  |some s =>
   simp only;cases hh:s.bQ.bD with
   |nil=>exact h
   |cons c t =>
    simp only;obtain⟨h1,h2⟩:=h.held o s f;rw[hh,eV,iM]at h1;obtain⟨⟨a,a1,a2⟩,a3⟩:=h2 c (by rw[hh];simp);have g:s.bQ.least.bD=t:=by unfold mf.least;rw[hh]
    have j:(R.aO.getD c.id ⟨(0,0),0,.zero⟩)=a:=by rw[List.getD_eq_getElem?_getD,a1];rfl
    rw[j];have k:=h.fO (FH:={ s with bQ:=s.bQ.least }) f (by simp only;rw[g,hh,eV];exact oq _ _);refine Inv.Qp ⟨c.id,o.2,lx a.bW.cF,a.bW⟩ rfl gF aR k ⟨a,a1,rfl,by rw[a2]⟩ (λp q l y hy=>?_) (λs' _ m hm=>a3 s' m hm);have d:set R.az o (Z { s with bQ:=s.bQ.least }) p=Z q:=l;unfold set at d;by_cases e:p=o
    ·subst e;rw[if_pos rfl]at d;cases d;simp only at hy;rw[g]at hy;intro e;exact h1.1 (eU.2 ⟨y,hy,e.symm⟩)
    ·rw[if_neg e]at d;obtain⟨⟨b,b1,b2⟩,_⟩:=(h.held p q d).2 y hy;intro i;simp only at i;rw[<-i,a1]at b1;cases b1;exact e (b2.symm.trans a2)
end M
end
section
namespace M
variable {R:Room} {G:Int->ij} {n:Nat}
def FM{α β:Type}[DecidableEq α](f:α->β)(k:α):set f k (f k)=f:=by funext a;unfold set;split<;>simp_all
def Inv.gq(h:Inv R G n)(s:Int):Inv (R.gq s) G n:=by
 unfold Room.gq;cases f:R.aD s with
 |none=>exact h
 |some l =>
  simp only;obtain⟨kl,o⟩:=h.fo s l f;cases i:l.cK with
  |nil =>
   have e:l.gJ=(l,0,0):=by unfold dP.gJ;rw[i]
   rw[e];simp only[ne_eq,not_true_eq_false,if_false];have p:set R.aD s (Z l)=R.aD:=by rw[<-f];exact FM _ _
   rw[p];exact h
  |cons x r =>
   obtain⟨p1,p2,p3,q⟩:=kl.gJ i;obtain⟨w1,w2⟩:=CZ (l:=l);have k:=h.Bq f (g:=G s) rfl p1 o (λid hid=>.inl (p2 id hid)) (λa b _=>⟨by rw[w1];exact a,by rw[w2];exact b⟩) (λa b=>.inl ⟨by rw[<-w1];exact a,by rw[<-w2];exact b⟩)
    (λa b c=>C0 i (h.chain a s l f (by rw[<-w1];exact b) (by rw[<-w2];exact c)))
   rw[FM]at k;split
   ·rename_i j;rw[q];exact k.bR s x.id j λm hm=>by
     have d:set R.aD s (Z l.gJ.1) s=Z m:=hm;rw[dY]at d;cases d;exact p3 j
   ·exact k
def Cq(l:dP)(aG:Nat)(g:ij):(lU l aG g).jo=g.jo:=by unfold lU;split<;>rfl
def yU(l:dP)(aT:Int)(a:Bool)(g:ij):(iR l aT a g).jo=g.jo/\(iR l aT a g).H=g.H:=by
 unfold iR;split
 ·exact⟨rfl,rfl⟩
 split
 ·exact⟨rfl,rfl⟩
 split<;>exact⟨rfl,rfl⟩
def Inv.fD(h:Inv R G n)(t:R.cN=false)(s:Int){l:dP}(e:R.aD s=Z l)(hp:l.bF≠[]):Inv (R.fD s) (set G s (lU l R.dA.aG (G s))) (n+1) /\
  (∀i,(l.eO R.dA.aG).2=Z i->R.di s i=Z 0/\(R.fD s).di=set R.di s (set (R.di s) i (Z 6))):=by
 obtain⟨kl,A⟩:=h.fo s l e;cases c:l.bF with
 |nil=>exact absurd c hp
 |cons y r =>
  obtain⟨x,f⟩:=y;have hid:ids l≠[]:=by unfold ids;rw[c];simp
  have hg:=kl.Gn hid;have hw:=kl.xa (.inr (.inl (by rw[c];simp)));obtain⟨p1,p2,p3,u,v⟩:=kl.eO R.dA.aG h.aG c (h.chain t s l e hw hg);have o:(l.eO R.dA.aG).1={ l with bF:=r,mv:=(dO l.mv x.bW f).1,ready:=push R.dA.aG l.ready (x.id,(ic (dO l.mv x.bW f).2).1) }:=by unfold dP.eO;rw[c]
  have w1:(l.eO R.dA.aG).1.wanted=l.wanted:=by rw[o]
  have w2:(l.eO R.dA.aG).1.eG=l.eG:=by rw[o]
  have k:=(h.more (Nat.le_succ n)).Bq e (g:=lU l R.dA.aG (G s)) (Cq _ _ _) p1 (by rw[u];omega) (λid hid=>.inl (p2 id hid)) (λa b _=>⟨by rw[w1];exact a,by rw[w2];exact b⟩) (λa b=>.inl ⟨by rw[<-w1];exact a,by rw[<-w2];exact b⟩) (λ_ _ _=>v);unfold Room.fD;rw[e];simp only;cases p:(l.eO R.dA.aG).2 with
  |none=>exact⟨k,λi hi=>by cases hi⟩
  |some i =>
   refine⟨k.bR s i aR λm hm=>?_,λj w=>?_⟩
   ·have d:set R.aD s (Z (l.eO R.dA.aG).1) s=Z m:=hm;rw[dY]at d;cases d;exact(p3 i p).1
   ·cases w;have q:=kl.kz i (p3 i p).2;refine⟨q,?_⟩;show(Room.bR { R with aD:=set R.aD s (Z (l.eO R.dA.aG).1) } s i 6).di=_;unfold Room.bR;rw[if_pos (show(R.di s i=Z 0) from q)]
def Inv.jS(h:Inv R G n)(s:Int)(a:Bool){l:dP}(D:R.aD s=Z l)(hr:l.ready≠[]):Inv (R.jS s a) (set G s (iR l R.dA.aT a (G s))) n:=by
 obtain⟨kl,U⟩:=h.fo s l D;cases A:l.ready with
 |nil=>exact absurd A hr
 |cons x r =>
  have hg:=kl.Gn (by unfold ids;rw[A];simp);obtain⟨p1,p2,p3,K,L,M,N,E⟩:=kl.write R.dA.aT a A;obtain⟨g1,g2⟩:=yU l R.dA.aT a (G s);rw[kh,D];simp only;generalize hw:l.write R.dA.aT a=lw at p1 p2 p3 K L M N E ⊢;obtain⟨l',id,f⟩:=lw;simp only at p1 p2 p3 K L M N E ⊢;subst K;unfold nA kg;by_cases j:l'.eG=true
  ·
   have B:ids l'=[]:=p1.eG j;have C:f≠1:=by
    intro e;have W:=L.1 e;subst W;have:l.write R.dA.aT true=({ l with ready:=r,fF:=l.fF++[x],row:=0 },x.1,1):=by unfold dP.write;rw[A];simp[hg]
    rw[this]at hw;simp only[Prod.mk.injEq]at hw;rw[<-hw.1]at j;rw[show({ l with ready:=r,fF:=l.fF++[x],row:=0 }:dP).eG=l.eG from rfl,hg]at j;cases j
   rw[if_pos j,if_neg C];obtain⟨y,hy⟩:∃y,R.bh s=Z y:=by
    have:=h.lu s;rw[D]at this;cases q:R.bh s with
    |none=>rw[q]at this;cases this
    |some y=>exact⟨y,rfl⟩
   refine⟨λk m hm=>?_,λk i X=>?_,λk v H P=>?_,λk=>?_,λo st Q=>?_,h.aY,h.pk,?_,λk m hm h1 h2=>?_,h.qu,h.aG⟩
   ·have c:set R.aD s (Z l') k=Z m:=hm;by_cases e:k=s
    ·subst e;rw[dY]at c ⊢;cases c;exact⟨p1.mono (λ_ _ q=>q) (λi hi=>by rw[B]at hi;cases hi),by rw[g2];exact U⟩
    ·rw[da _ _ e]at c ⊢;refine⟨((h.fo k m c).1).mono (λ_ _ q=>q) λi hi=>?_,(h.fo k m c).2⟩;show set R.di s _ k i=Z 0;rw[da _ _ e];exact(h.fo k m c).1.kz i hi
   ·have w:set R.di s (λid=>if R.di s id=Z 0 then Z 7 else R.di s id) k i=Z 0:=X;by_cases e:k=s
    ·subst e;rw[dY]at w;split at w
     ·simp at w
     ·contradiction
    ·rw[da _ _ e]at w;obtain⟨b,v,t,u,F⟩:=h.kz k i w;refine⟨b,v,t,?_,F⟩;show(match R.bh s with | some p=>if p.cL=true then set R.bh s _ else R.bh | none=>R.bh) k=Z v;rw[hy];simp only;split
     ·rw[da _ _ e];exact u
     ·exact u
   ·have d:(match R.bh s with | some p=>if p.cL=true then set R.bh s (Z ⟨p.own,false,0⟩) else R.bh | none=>R.bh) k=Z v:=H;rw[hy]at d;simp only at d;by_cases e:k=s
    ·subst e;split at d
     ·rw[dY]at d;cases d;cases P
     ·rename_i S;rw[hy]at d;cases d;exact absurd P S
    ·have T:R.bh k=Z v:=by
      split at d
      ·rw[da _ _ e]at d;exact d
      ·exact d
     obtain⟨t,m,u,F⟩:=h.jo k v T P;rw[da _ _ e];exact⟨t,m,by show set R.aD s _ k=_;rw[da _ _ e];exact u,F⟩
   ·show((match R.bh s with | some p=>if p.cL=true then set R.bh s (Z ⟨p.own,false,0⟩) else R.bh | none=>R.bh) k).isSome=(set R.aD s (Z l') k).isSome;rw[hy];simp only;by_cases e:k=s
    ·subst e;rw[dY];split
     ·rw[dY];rfl
     ·rw[hy];rfl
    ·rw[da _ _ e];split
     ·rw[da _ _ e];exact h.lu k
     ·exact h.lu k
   ·obtain⟨t,u⟩:=h.held o st Q;refine⟨t,λv H=>⟨(u v H).1,λk m hm=>?_⟩⟩;have c:set R.aD s (Z l') k=Z m:=hm;by_cases e:k=s
    ·subst e;rw[dY]at c;cases c;rw[B];simp
    ·rw[da _ _ e]at c;exact(u v H).2 k m c
   ·intro Y k m hm h1 h2;have c:set R.aD s (Z l') k=Z m:=hm;by_cases e:k=s
    ·subst e;rw[dY]at c;cases c;rw[j]at h2;cases h2
    ·rw[da _ _ e]at c ⊢;exact h.chain Y k m c h1 h2
   ·have c:set R.aD s (Z l') k=Z m:=hm;by_cases e:k=s
    ·subst e;rw[dY]at c;cases c;rw[j]at h2;cases h2
    ·rw[da _ _ e]at c;obtain⟨v,t,u⟩:=h.za k m c h1 h2;refine⟨v,?_,u⟩;show(match R.bh s with | some p=>if p.cL=true then set R.bh s _ else R.bh | none=>R.bh) k=Z v;rw[hy];simp only;split
     ·rw[da _ _ e];exact t
     ·exact t
  ·have k:=h.Bq D (g:=iR l R.dA.aT a (G s)) g1 p1 (by rw[g2];exact U) (λid hid=>.inl (p2 id hid)) (λt u _=>⟨by rw[E];exact t,by simpa using j⟩) (λt u=>.inl ⟨by rw[<-E];exact t,hg⟩)
    (λt u F=>by rw[M,F,N,g2];exact h.chain t s l D (by rw[<-E];exact u) hg)
   rw[if_neg j];split
   ·rename_i hf;exact k.bR s x.1 aR λm hm=>by
     have c:set R.aD s (Z l') s=Z m:=hm;rw[dY]at c;cases c;exact p3 hf
   ·exact k
def Inv.xE(h:Inv R G n)(d:R.cN=true)(s:Int){l l':dP}(f:R.aD s=Z l){g:ij}(hg:g.jo=(G s).jo)(j:g.H=(G s).H)(o:iv R.aO (R.di s) l' g)(hi:∀i∈ids l',i∈ids l)(hw:l'.wanted=l.wanted/\l'.eG=l.eG)
  (gs:List Nat) (e:∀i∈gs,i∉ids l'):Inv (Room.fI { R with aD:=set R.aD s (Z l') } s gs) (set G s g) n:=by
 have k:=h.Bq f hg o (by rw[j];exact(h.fo s l f).2) (λid hid=>.inl (hi id hid)) (λa b _=>⟨by rw[hw.1];exact a,by rw[hw.2];exact b⟩) (λa b=>.inl ⟨by rw[<-hw.1];exact a,by rw[<-hw.2];exact b⟩) (λq=>by rw[d]at q;cases q);refine Inv.fI s gs k λid hid m hm=>?_;have c:set R.aD s (Z l') s=Z m:=hm;rw[dY]at c;cases c;exact e id hid
def ym:∀(k:Nat) (b:mf),jz ((mf.iu k b).bD.map js.id) (b.bD.map js.id)
 |0,b=>gf _
 |k+1,b=>by
  refine(ym k b.least).trans ?_;unfold mf.least;split
  ·exact gf _
  ·rename_i q;rw[q];exact oq _ _
def vl(id:Nat)(f:Int):∀(l:List Int) (r:Room),(l.foldl (λr s=>r.bR s id f) r).aD=r.aD
 |[],_=>rfl
 |s::l,r=>by rw[eN,vl id f l,(nW r s id f).1]
def Inv.Ey:∀(l:List Nat) {R:Room},Inv R G n->(∀id∈l,∀s m,R.aD s=Z m->id∉ids m)->Inv (l.foldl (λr id=>gF.foldl (λr sub=>r.bR sub id 8) r) R) G n
 |[],_,h,_=>h
 |i::l,R,h,a=>by
  rw[eN];refine Inv.Ey l (Inv.lJ i aR gF h (a i dt)) λid hid s m hm=>?_;rw[vl]at hm;exact a id (by simp[hid]) s m hm
def Inv.cP(h:Inv R G n)(o:bN):Inv (R.cP o) G n:=by
 unfold Room.cP;cases a:R.az o with
 |none=>exact h
 |some s =>
  refine Inv.Ey _ (h.fO (FH:={ s with bQ:=mf.iu s.bQ.bD.length s.bQ }) a (ym _ _)) λid hid k m hm=>?_;obtain⟨x,b,rfl⟩:=eU.1 hid;exact((h.held o s a).2 x b).2 k m hm
def Inv.wM:∀(l:List bN) {R:Room},Inv R G n->Inv (l.foldl Room.cP R) G n
 |[],_,h=>h
 |o::l,_,h=>Inv.wM l (h.cP o)
def pJ(w:eK)(g:ij):ij:=if w.1=2\/w.1=3 then g else { g with Q:=[] }
def Inv.returned(h:Inv R G n)(w:eK)(c:Prop)[Decidable c]:Inv (if c then { R with returned:=R.returned++[w] } else R) G n:=by
 split
 ·exact { h with }
 ·exact h
def Inv.ku(h:Inv R G n)(e:R.cN=true)(w:eK):Inv (R.ku w) (if w.1=0\/w.1=1 then G else match R.aD w.2 with | none=>G | some _=>set G w.2 (pJ w (G w.2))) n:=by
 unfold Room.ku;by_cases h0:w.1=0
 ·simp only[h0,if_true,true_or];exact Inv.returned (R:={ R with dm:=[],bp:={ R.bp with jw:=R.bp.jw+R.dm.length } }) { h with qu:=λb m=>by cases m } w _
 ·simp only[if_neg h0];by_cases h1:w.1=1
  ·simp only[h1,if_true,or_true];exact Inv.returned (Inv.wM eX h) w _
  ·simp only[if_neg h1,if_neg (z:¬(w.1=0\/w.1=1))];cases k:R.aD w.2 with
   |none=>exact h.returned w _
   |some l =>
    simp only;obtain⟨kl,p⟩:=h.fo w.2 l k;have o:=kl.nodup;have d:=jj.1 o;have f:=jj.1 d.2.1;have ge:l.eG=true->ids l=[]:=kl.eG;by_cases h2:w.1=2
    ·simp only[if_pos h2];have j:pJ w (G w.2)={ G w.2 with Q:=(G w.2).Q.drop 0 }:=by unfold pJ;rw[if_pos (.inl h2)];rfl
     obtain⟨a,b⟩:=kl.less [] l.bF 0 l.row l.eG (.inr rfl) (.inl rfl) (.inl rfl) (λq=>by
      have:=ge q;unfold ids at this;simp at this;simp[this]) (.inl rfl)
     rw[j];exact Inv.returned (h.xE e w.2 k (g:={ G w.2 with Q:=(G w.2).Q.drop 0 }) rfl rfl a b ⟨rfl,rfl⟩ _ (λi hi c=>by
      unfold ids at c;simp only[mI,jk,qd]at c
      exact d.2.2 i hi i c rfl)) w _
    ·simp only[if_neg h2];by_cases h3:w.1=3
     ·simp only[if_pos h3];have j:pJ w (G w.2)={ G w.2 with Q:=(G w.2).Q.drop 0 }:=by unfold pJ;rw[if_pos (.inr h3)];rfl
      obtain⟨a,b⟩:=kl.less l.cK [] 0 l.row l.eG (.inl rfl) (.inr rfl) (.inl rfl) (λq=>by
       have:=ge q;unfold ids at this;simp at this;simp[this]) (.inl rfl)
      rw[j];exact Inv.returned (h.xE e w.2 k (g:={ G w.2 with Q:=(G w.2).Q.drop 0 }) rfl rfl a b ⟨rfl,rfl⟩ _ (λi hi c=>by
       unfold ids at c;simp only[mI,jk,qd,bt]at c
       rcases c with q|q
       ·exact d.2.2 i q i (bt.2 (.inl hi)) rfl
       ·exact f.2.2 i hi i q rfl)) w _
     ·simp only[if_neg h3];have j:pJ w (G w.2)={ G w.2 with Q:=(G w.2).Q.drop l.ready.length }:=by
       unfold pJ;rw[if_neg z];have:(G w.2).Q.drop l.ready.length=[]:=by rw[List.drop_eq_nil_iff,kl.ready];exact aj _
       rw[this]
      obtain⟨a,b⟩:=kl.less l.cK l.bF l.ready.length l.row l.eG (.inl rfl) (.inl rfl) (.inr (aj _)) (λq=>by
       have:=ge q;unfold ids at this;simp at this;simp[this]) (.inr (aj _))
      rw[kb]at a b;rw[j];exact Inv.returned (h.xE e w.2 k (g:={ G w.2 with Q:=(G w.2).Q.drop l.ready.length }) rfl rfl a b ⟨rfl,rfl⟩ _ (λi hi c=>by
       unfold ids at c;simp only[jk,List.append_nil,bt]at c
       rcases c with q|q
       ·exact d.2.2 i q i (bt.2 (.inr hi)) rfl
       ·exact f.2.2 i q i hi rfl)) w _
end M
end
namespace M
def Rd.Ok(r:Rd):Prop:=r.nc≠0->r.left=[]
def Rd.Ok.new(b:cQ):Rd.Ok ⟨b,0⟩:=λh=>absurd rfl h
def Rd.Ok.fail{r:Rd}(h:r.Ok)(e:Int):(r.fail e).Ok:=by
 unfold Rd.fail;split
 ·exact h
 ·exactλ_=>rfl
def Rd.Ok.take{r:Rd}(h:r.Ok)(n:Int):(r.take n).2.Ok:=by
 unfold Rd.take;split
 ·exact h
 ·split
  ·exact h.fail 3
  ·intro q;show r.left.drop n.toNat=[];rw[h q];simp
def Rd.Ok.num{r:Rd}(h:r.Ok)(s:Nat):(r.num s).2.Ok:=h.take s
def GN{r:Rd}(h:r.Ok){e:Int}(he:e≠0):(r.fail e).left=[]:=by
 unfold Rd.fail;split
 ·rename_i q;exact h (q.resolve_left he)
 ·rfl
def se(r:Rd)(e:Int):(r.fail e).left.length<=r.left.length:=by
 unfold Rd.fail;split
 ·exact aj _
 ·exact gG _
def Cb{r:Rd}(h:r.Ok){n:Nat}(a:0<n):(r.take n).2.left.length<=r.left.length-n:=by
 unfold Rd.take;rw[if_neg z];split
 ·rw[GN h aR];simp
 ·simp
def Dp(r:Rd)(n:Int):(r.take n).2.left.length<=r.left.length:=by
 unfold Rd.take;split
 ·exact aj _
 ·split
  ·exact se _ _
  ·simp
def jn{r:Rd}(h:r.Ok){s:Nat}(a:0<s):(r.num s).2.left.length<=r.left.length-s:=Cb h a
def uR(r:Rd)(s:Nat):(r.num s).2.left.length<=r.left.length:=Dp r s
def Im:∀(l:List Nat) {r:Rd},r.Ok->(iD l r).Ok
 |[],_,h=>h
 |s::l,_,h=>Im l (h.num s)
def tR(r:Rd):∃(a b c:Int) (d1 d2 d3 d5:Rd) (body:cQ),r.num 1=(a,d1)/\d1.num 1=(b,d2)/\d2.num 2=(c,d3) /\
  (if a<128\/191<a then d3.fail 2 else d3).take (4*c)=(body,d5) /\
  fJ r=(⟨a % 32,b,(if a / 32 % 2=1 then(match pg body with | some kept=>(kept,if 0<d5.left.length then d5.fail 2 else d5) | none=>([],d5.fail 2)) else(body,d5)).1⟩,
   (if a / 32 % 2=1 then(match pg body with | some kept=>(kept,if 0<d5.left.length then d5.fail 2 else d5) | none=>([],d5.fail 2)) else(body,d5)).2):=by
 refine⟨(r.num 1).1,((r.num 1).2.num 1).1,(((r.num 1).2.num 1).2.num 2).1,(r.num 1).2,((r.num 1).2.num 1).2,(((r.num 1).2.num 1).2.num 2).2,_,_,rfl,rfl,rfl,rfl,?_⟩;rfl
def Cs{r:Rd}(h:r.Ok):(fJ r).2.Ok/\(fJ r).2.left.length<=r.left.length-4:=by
 obtain⟨a,j,b,d1,d2,d3,d5,body,c,f,g,i,e⟩:=tR r;rw[e];have h1:d1.Ok:=by have:=h.num 1;rw[c]at this;exact this
 have h2:d2.Ok:=by have:=h1.num 1;rw[f]at this;exact this
 have h3:d3.Ok:=by have:=h2.num 2;rw[g]at this;exact this
 have l1:d1.left.length<=r.left.length-1:=by have:=jn h (s:=1) z;rw[c]at this;exact this
 have l2:d2.left.length<=d1.left.length-1:=by have:=jn h1 (s:=1) z;rw[f]at this;exact this
 have l3:d3.left.length<=d2.left.length-2:=by have:=jn h2 (s:=2) z;rw[g]at this;exact this
 have h4:(if a<128\/191<a then d3.fail 2 else d3).Ok:=by split;exact h3.fail 2;exact h3
 have l4:(if a<128\/191<a then d3.fail 2 else d3).left.length<=d3.left.length:=by split;exact se _ _;exact aj _
 have h5:d5.Ok:=by have:=h4.take (4*b);rw[i]at this;exact this
 have l5:d5.left.length<=d3.left.length:=by have:=Dp (if a<128\/191<a then d3.fail 2 else d3) (4*b);rw[i]at this;exact aP this l4
 have key:∀d:Rd,(d=d5\/d=d5.fail 2)->d.Ok/\d.left.length<=r.left.length-4:=by
  rintro d (rfl|rfl)
  ·exact⟨h5,z⟩
  ·exact⟨h5.fail 2,by have:=se d5 2;omega⟩
 refine key _ ?_;split
 ·split
  ·split
   ·exact .inr rfl
   ·exact .inl rfl
  ·exact .inr rfl
 ·exact .inl rfl
end M
namespace M
def eQ(r:Room):Room:={ r with bp:={ r.bp with cI:=r.bp.cI+1 } }
end M
def numOf(l:List UInt8):Int:=l.foldl (λn c=>10*n+((c.toNat:Int)-48)) 0
def Ka(l:List UInt8):Bool:=l.all λc=>decide (48<=c.toNat)&&decide (c.toNat<=57)
def zx(l:List UInt8)(c:UInt8):numOf (l++[c])=10*numOf l+((c.toNat:Int)-48):=by unfold numOf;rw[List.foldl_append];rfl
def Ez{l:List UInt8}(h:Ka l=true){c:UInt8}(a:c∈l):48<=c.toNat/\c.toNat<=57:=by
 unfold Ka at h;have:=List.all_eq_true.1 h c a;simpa using this
def DW(l:List UInt8)(h:Ka l=true):∀k,k<=9->k<=l.length->0<=numOf (l.take k)/\numOf (l.take k)+1<=10 ^ k
 |0,_,_=>by simp[numOf]
 |k+1,h9,a=>by
  obtain⟨i1,i2⟩:=DW l h k z z;have b:=Ez h (dy (z:k<l.length));rw[dK z,zx];have:(10:Int) ^ (k+1)=10*10 ^ k:=by rw[Int.pow_succ];omega
  omega
def xg(s:ByteArray)(aT:Int)(w:aw)(o:Ka s.data.toList=true)(h1:1<=s.size)(h9:s.size<=9)(hm:numOf s.data.toList<=aT) :
  aF af 201 #[.string s,J V aT] w λe w'=>e=av (J V (numOf s.data.toList))/\aC w w':=by
 have p:=λw=>run_bytes_of_string (P:=af) w 9 38 5 s underlying9 underlying38 underlying5;have l:=DW _ o;have hlen:s.data.toList.length=s.size:=dt;obtain⟨B,C,D,f⟩:=cA hm o l hlen;have b1:decide ((s.size:Int)<1)=false:=dZ;have E:decide (9<(s.size:Int))=false:=dZ;clear hm o l hlen;go_enter func201,ntmps201;go_wp2_with fail;clear b1 E p;obtain⟨g,hg⟩:=dH w.heap.size;rw[<-hg];refine aW (λX=>(∀j (h:j<s.data.size),X.cell? ⟨g,j,I⟩=Z (J bI (s.data[j].toNat:Int)))/\aC w X) ⟨λj h=>?_,cd ((Below.refl _ w).alloc (aj _) _) 1⟩ ?_
 ·show(w.alloc _).cell? ⟨g,j,I⟩=_;rw[hg,cell_of_row _ _ j _ _ _ (heap_alloc_new w _)];exact bytesRow_at s _ j h
 clear hg;rintro X ⟨x,y⟩;obtain⟨F,q⟩:=bu x y;clear x y;go_loop [5,20] (λn i=>∃k:Nat,k<=s.size/\i=J V k/\n=J V (numOf (s.data.toList.take k))) (λ_ i=>s.size-(intOf i).toNat);case atStart=>exact⟨0,gG _,rfl,rfl⟩
 case round =>
  obtain⟨k,L,rfl,rfl⟩:=hrel;have m:=D.O k z (lE f.O);have hp:(10:Int) ^ k<=10 ^ 9:=by
   have G:k<=9:=z;rcases(z:k=0\/k=1\/k=2\/k=3\/k=4\/k=5\/k=6\/k=7\/k=8\/k=9) with rfl|rfl|rfl|rfl|rfl|rfl|rfl|rfl|rfl|rfl<;>decide
  have r:numOf (s.data.toList.take k)<=1000000000:=by have:(10:Int) ^ 9=1000000000:=aR;omega
  have t:=m.1;clear m hp;by_cases u:k<s.size
  ·have d:=F.O k u;have a:=Ez C.O (dy (show k<s.data.toList.length by have:=f.O;omega));have b:numOf (s.data.toList.take (k+1))=10*numOf (s.data.toList.take k)+((s.data.toList[k]'(by have:=f.O;omega)).toNat-48:Int):=by
    rw[dK (lE f.O),zx]
   have A:(s.data.toList[k]'(by have:=f.O;omega))=s.data[k]:=dt;rw[A]at b a;generalize s.data[k]=c at d a b;have HS:=au b;have d1:decide ((c.toNat:Int)<48)=false:=dZ;have d2:decide (57<(c.toNat:Int))=false:=dZ;clear b A;have H:=a.1;have K:=a.2;clear a;go_wp2_with fail;go_round;case rel=>exact⟨k+1,z,by go_num,by rw[HS.O]⟩
   case measure=>simp[intOf];omega
  ·have v:k=s.size:=z;subst v;have hm:=B.O;have e:s.data.toList.take s.size=s.data.toList:=List.take_of_length_le (lE f.O);rw[e]at r t ⊢;have d3:decide (aT<numOf s.data.toList)=false:=dZ;clear e;go_wp2_with fail;go_ret;exact⟨rfl,q.O⟩
end Go.Proofs.YtkfblammcilfhaaGreatDoor
