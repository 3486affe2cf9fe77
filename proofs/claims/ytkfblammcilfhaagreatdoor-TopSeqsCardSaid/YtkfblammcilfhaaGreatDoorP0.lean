import Derived.Test.YtkfblammcilfhaaGreatDoorProg
import Derived.KernelRfl
import Derived.WalkKit
import Derived.ProofKit
import Derived.OpenShut
import Derived.Lib.Hide
import Derived.RegionTactic
import Derived.ChangeAlike
import Derived.BigRegion
import Derived.Deep.RegionHeld3
import Derived.Deep.QuietTactic
import Derived.BigQuiet
import Derived.Deep.Slices
import Derived.Deep.Fields
import Derived.Laws.CopyRow
set_option linter.all false
set_option maxRecDepth 100000
set_option maxHeartbeats 100000000
open Go.ChangeShapes Go.WideShapes Go.ChangeAt Go.RowKit Go.Proofs.Tryz
open Go renaming World->aw,Program->jB,IntKind->jC
open Nat renaming lt_or_ge->iL,le_refl->aj,le_trans->aP,lt_of_lt_of_le->iU
open Go.Value renaming ownBlock->eR,int->J,slice->ae
open Option.some renaming injEq->bf
open List renaming getElem?_eq_getElem->ay,getElem?_toArray->iC,append_assoc->dL,getElem?_append_right->dG,getElem?_append_left->dk,getElem?_take_of_lt->dp,getElem?_drop->kt,getD_eq_getElem?_getD->bE
open Go.IntKind renaming i64->V,u32->ar,u8->bI
open Option renaming none->I,some->Z
namespace Go.Proofs.YtkfblammcilfhaaGreatDoor
theorem pqq{α:Type}:(∀{xs:List α} {i:Nat} (h:i<xs.toArray.size),xs.toArray[i]=xs[i]'(by simpa using h))/\(∀{a:α} {xs:List α} (h:0<(a::xs).length),(a::xs)[0]=a)/\(∀{a:α} {xs:List α} {i:Nat} (h:i+1<(a::xs).length),(a::xs)[i+1]=xs[i]'(by simpa using h))/\(∀(l:List α) (i:Nat) (a:α),l.toArray.setIfInBounds i a=(l.set i a).toArray)/\(∀{x:α} {xs:List α} {a:α},(x::xs).set 0 a=a::xs)/\(∀{x:α} {xs:List α} {n:Nat} {a:α},(x::xs).set (n+1) a=x::xs.set n a):=by refine⟨?_,?_,?_,?_,?_,?_⟩<;>intros<;>simp
abbrev aC (w w':aw):Prop:=Below w.heap.size w w'
def Hd (p:Prop):Prop:=p
def au {p:Prop} (h:p):Hd p:=h
def Hd.out {p:Prop} (h:Hd p):p:=h
def Hd.O {p:Prop} (h:Hd p):p:=h
def bu {a b:Prop} (m:a) (n:b):Hd a/\Hd b:=⟨m,n⟩
def bU {a b c:Prop} (m:a) (n:b) (o:c):Hd a/\Hd b/\Hd c:=⟨m,n,o⟩
def cA {a b c d:Prop} (m:a) (n:b) (o:c) (p:d):Hd a/\Hd b/\Hd c/\Hd d:=⟨m,n,o,p⟩
def gY {a b c d e:Prop} (m:a) (n:b) (o:c) (p:d) (q:e):Hd a/\Hd b/\Hd c/\Hd d/\Hd e:=⟨m,n,o,p,q⟩
def lH {a b c d e f:Prop} (m:a) (n:b) (o:c) (p:d) (q:e) (r:f):Hd a/\Hd b/\Hd c/\Hd d/\Hd e/\Hd f:=⟨m,n,o,p,q,r⟩
def lV {a b c d e f g:Prop} (m:a) (n:b) (o:c) (p:d) (q:e) (r:f) (s:g):Hd a/\Hd b/\Hd c/\Hd d/\Hd e/\Hd f/\Hd g:=⟨m,n,o,p,q,r,s⟩
def qh {a b c d e f g h:Prop} (m:a) (n:b) (o:c) (p:d) (q:e) (r:f) (s:g) (t:h):Hd a/\Hd b/\Hd c/\Hd d/\Hd e/\Hd f/\Hd g/\Hd h:=⟨m,n,o,p,q,r,s,t⟩
def By {a b c d e f g h i:Prop} (m:a) (n:b) (o:c) (p:d) (q:e) (r:f) (s:g) (t:h) (u:i):Hd a/\Hd b/\Hd c/\Hd d/\Hd e/\Hd f/\Hd g/\Hd h/\Hd i:=⟨m,n,o,p,q,r,s,t,u⟩
def PG {a b c d e f g h i j:Prop} (m:a) (n:b) (o:c) (p:d) (q:e) (r:f) (s:g) (t:h) (u:i) (v:j):Hd a/\Hd b/\Hd c/\Hd d/\Hd e/\Hd f/\Hd g/\Hd h/\Hd i/\Hd j:=⟨m,n,o,p,q,r,s,t,u,v⟩
def tk {p:Prop} (h:p:=by intro u hu;simp at hu;repeat (first|(subst hu;rfl)|(rcases hu with rfl|hu;rfl))):p:=h
def lE {p g:Prop} (h:p) (k:p->g:=by intro;omega):g:=k h
def aR {p:Prop} (h:p:=by decide):p:=h
def z {p:Prop} (h:p:=by omega):p:=h
def dt {p:Prop} (h:p:=by simp):p:=h
def jP {p:Prop} (h:p:=by rfl):p:=h
def cC {p:Prop} (h:p:=by kernel_rfl):p:=h
def dZ {p:Prop} (h:p:=by simp;omega):p:=h
def SF {p:Prop} (h:p:=by go_simp):p:=h
def QW {α:Type} {xs:List α} {i:Nat} (h:i<xs.toArray.size):xs.toArray[i]=xs[i]'(by simpa using h):=List.getElem_toArray h
def QV {α:Type} {a:α} {xs:List α} (h:0<(a::xs).length):(a::xs)[0]=a:=List.getElem_cons_zero ..
def QU {α:Type} {a:α} {xs:List α} {i:Nat} (h:i+1<(a::xs).length):(a::xs)[i+1]=xs[i]'(by simpa using h):=List.getElem_cons_succ ..
def jY {α:Type} (l:List α) (i:Nat) (a:α):l.toArray.setIfInBounds i a=(l.set i a).toArray:=List.setIfInBounds_toArray l i a
def jX {α:Type} {x:α} {xs:List α} {a:α}:(x::xs).set 0 a=a::xs:=List.set_cons_zero
def jW {α:Type} {x:α} {xs:List α} {n:Nat} {a:α}:(x::xs).set (n+1) a=x::xs.set n a:=List.set_cons_succ
def pk:(∀{xs:List Value} {i:Nat} (h:i<xs.toArray.size),xs.toArray[i]=xs[i]'(by simpa using h))/\(∀{a:Value} {xs:List Value} (h:0<(a::xs).length),(a::xs)[0]=a)/\(∀{a:Value} {xs:List Value} {i:Nat} (h:i+1<(a::xs).length),(a::xs)[i+1]=xs[i]'(by simpa using h))/\(∀(l:List Value) (i:Nat) (a:Value),l.toArray.setIfInBounds i a=(l.set i a).toArray)/\(∀{x:Value} {xs:List Value} {a:Value},(x::xs).set 0 a=a::xs)/\(∀{x:Value} {xs:List Value} {n:Nat} {a:Value},(x::xs).set (n+1) a=x::xs.set n a):=⟨QW,QV,QU,jY,jX,jW⟩
def Fj {P:jB} {md:Region.Mode} {ops:Array Oper} {Q:Exit->Act->aw->Prop} {S:aw->Prop} {fuel:Nat} {listed:Array Bool} {a:Act} {w:aw} {b:Oper} (i:Nat) (v:Value) (hi:ops[i]? = Z b) (hy:YieldsIf P ops S b v a) (e:S w) (h:wpAnyH P md ops Q S fuel (listed.setIfInBounds i true) (a.put b.dst v) w) (d:(Region.noSelect ops&&Region.free md ops listed i&&(Region.ready md ops listed).contains i)=true:=by kernel_rfl) (f:∀{c a w},Q (.panic c) (a.put b.dst v) w->Q (.panic c) a w:=by exact id):wpAnyH P md ops Q S (fuel+1) listed a w:=by
 simp only[Bool.and_eq_true]at d;exact wpAnyH_take hi d.1.1 d.1.2 d.2 (λ_ _ _=>f) hy e h
def fS {P:jB} {md:Region.Mode} {ops:Array Oper} {Q:Exit->Act->aw->Prop} {S:aw->Prop} {fuel:Nat} {listed:Array Bool} {a:Act} {w:aw} {b:Oper} (i:Nat) (v:Value) (hi:ops[i]? = Z b) (d:S w) (h:wpAnyH P md ops Q S fuel (listed.setIfInBounds i true) (a.put b.dst v) w) (e:(Region.noSelect ops&&Region.free md ops listed i&&(Region.ready md ops listed).contains i)=true:=by kernel_rfl) (f:∀{c a w},Q (.panic c) (a.put b.dst v) w->Q (.panic c) a w:=by exact id) (hg:Region.wanted b (yielded ops a.tmps)=true:=by rfl) (hy:∀W,S W->(execOp a.eval b).run P W=.ok (.value v) W:=by intro _ _;go_simp):wpAnyH P md ops Q S (fuel+1) listed a w:=Fj i v hi (Or.inl ⟨hg,hy⟩) d h e f
def dH {α:Sort _} (a:α):∃r,r=a:=⟨_,rfl⟩
def ui {p:Prop} (h:p:=by unfold maxLen;omega):p:=h
section
def aK(w:aw)(g:Nat)(t:TypeId)(cs:Array Value):Prop:=w.heap[g]? = Z (.cells cs t (0,0))
section
variable {w w':aw} {g:Nat} {t:TypeId} {cs:Array Value}
def aK.lt(h:aK w g t cs):g<w.heap.size:=by
 rcases iL g w.heap.size with a|b
 ·exact a
 ·unfold aK at h;rw[Array.getElem?_eq_none b]at h;cases h
def aK.cell(h:aK w g t cs)(i:Nat):w.cell? ⟨g,i,I⟩=cs[i]?:=cell_of_row w g i cs t (0,0) h
def aK.frozen(h:aK w g t cs)(i:Nat):w.frozen? ⟨g,i,I⟩=false:=by
 unfold aK at h;simp[World.frozen?,h]
def aK.below{B:Nat}(h:aK w g t cs)(a:Below B w w')(hg:g<B):aK w' g t cs:=(a.block g hg).trans h
def aK.kept(h:aK w g t cs)(a:aC w w'):aK w' g t cs:=h.below a h.lt
def aK.new(w:aw)(t:TypeId)(cs:Array Value):aK (w.alloc (.cells cs t)) w.heap.size t cs:=heap_alloc_new w _
def aK.newAt(w:aw)(t:TypeId)(cs:Array Value)(g:Nat)(hg:g=w.heap.size):aK (w.alloc (.cells cs t)) g t cs:=by subst hg;exact aK.new w t cs
def aK.drew(h:aK w g t cs):aK w.drew g t cs:=h
def aK.drewN(h:aK w g t cs)(n:Nat):aK (w.drewN n) g t cs:=h
def aK.alloc(h:aK w g t cs)(o:Obj):aK (w.alloc o) g t cs:=(Below.heap_alloc w o g h.lt).trans h
def aK.bC(h:aK w g t cs)(i:Nat)(u:Value):aK (w.setCell ⟨g,i,I⟩ u) g t (cs.setIfInBounds i u):=by
 unfold aK at h ⊢;simp[World.setCell,Array.getElem?_modify,h]
def aK.grown{row:Option Nat}(h:aK w g t cs)(a:w.grownBy w' row)(hg:Z g≠row):aK w' g t cs:=(a.block g h.lt hg).trans h
def aK.jf{d:Nat}{e:TypeId}{b:Array Value}(h:aK w g t cs)(a:aK w d e b)(c:t≠e):g≠d:=by
 rintro rfl;unfold aK at h a;rw[h]at a;injection a with a
 injection a with _ ht
 exact c ht
def ej{base:Nat}{e:TypeId}{size n:Nat}{v:Value}{xs:List Value}(h:w.ownsRow base e size v n xs)(hg:aK w g t cs)(a:e≠t):Z g≠v.ownBlock:=by
 rcases h.2 with⟨rfl,_⟩ | ⟨b,cap,dx,rfl,_,hh,_⟩
 ·simp[eR]
 ·intro he;have:b=g:=by simpa[eR]using he.symm
  subst this;exact aK.jf (t:=e) hh hg a rfl
def aK.dS(h:aK w g t cs){p:Addr}(hp:g≠p.block)(u:Value):aK (w.setCell p u) g t cs:=(Below.heap_setCell w p u g hp).trans h
end
def cd{B:Nat}{a w:aw}(h:Below B a w)(n:Nat):Below B a (w.drewN n):=⟨h.os,h.tape,h.output,h.size,h.block⟩
def sh{w W W':aw}(d:aC w W)(b:aC W W'):aC w W':=d.trans (b.mono d.size)
def wR{w W W':aw}{o:Obj}(d:aC w W)(b:Below (W.alloc o).heap.size (W.alloc o) W'):aC w W':=sh (d.alloc d.size o) b
def aK.born{w w':aw}{t:TypeId}{cs:Array Value}(b:Below (w.alloc (.cells cs t)).heap.size (w.alloc (.cells cs t)) w'):aK w' w.heap.size t cs:=(aK.new w t cs).kept b
def gu{P:jB}{f:FuncId}{args:Array Value}{w:aw}{R:Ending->aw->Prop}(S:aw->Prop)(a:S w)(h:∀W,S W->Calls P f args W R):Calls P f args w R:=h w a
def aW{P:jB}{c:Code}{Q:Exit->Act->aw->Prop}{a:Act}{w:aw}(S:aw->Prop)(b:S w)(h:∀W,S W->Code.wp P c Q a W):Code.wp P c Q a w:=h w b
def gN{F:aw->Prop}{w:aw}(S:aw->Prop)(a:S w)(h:∀W,S W->F W):F w:=h w a
def uc{w:aw}{b o:Nat}{v:Value}(h:w.cell? ⟨b,o,I⟩=Z v):b<w.heap.size:=by
 rcases iL b w.heap.size with a|c
 ·exact a
 ·unfold World.cell? at h;rw[Array.getElem?_eq_none c]at h;cases h
def aM{w w':aw}{b o:Nat}{v:Value}(a:aC w w')(h:w.cell? ⟨b,o,I⟩=Z v):w'.cell? ⟨b,o,I⟩=Z v:=(a.cell (p:=⟨b,o,I⟩) (uc h)).trans h
def yN{k:jC}{a b:Int}(h:a=b):Ending.returned (.int k a)=.returned (.int k b):=by rw[h]
end
section
open Go.ChangeShapes Go.WideShapes Go.ChangeAt Go.RowKit Go.Deep
inductive Ah where
 |b
 |i (k:jC)
 |s
def Ah.ok:Ah->Value->Prop
 | .b,v=>∃x,v=.bool x
 | .i k,v=>∃n,v=.int k n/\(Lit.int k n).wf=true
 | .s,v=>∃x,v=.string x/\x.size<=maxLen
def Leaves:List Ah->List Value->Prop
 |[],cs=>cs=[]
 |l::ls,cs=>∃c a,cs=c::a/\l.ok c/\Leaves ls a
def Leaves.append:∀{ls ms:List Ah} {cs ds:List Value},Leaves ls cs->Leaves ms ds->Leaves (ls++ms) (cs++ds)
 |[],_,_,_,h,a=>by cases h;exact a
 |l::ls,_,_,_,h,a=>by obtain⟨c,b,rfl,d,hr⟩:=h;exact⟨c,_,rfl,d,Leaves.append hr a⟩
def Es(P:jB)(a:TypeId->Option (List Ah)):List Field->Nat->Option (List Ah)
 |[],_=>Z []
 |f::r,off=>if f.offset=off then
   match a f.type with
   |some ls=>if ls.length=P.cellsOf f.type then
     match Es P a r (off+P.cellsOf f.type) with
     |some rs=>Z (ls++rs)
     |none=>I
    else I
   |none=>I
  else I
def flat(P:jB):Nat->TypeId->Option (List Ah)
 |0,_=>I
 |n+1,t =>
  match P.underlying t with
  |some .bool=>Z [.b]
  |some (.int k)=>Z [.i k]
  |some .string=>Z [.s]
  |some (.struct a) =>
   match Es P (flat P n) a.toList 0 with
   |some ls=>if ls.length=P.cellsOf t then Z ls else I
   |none=>I
  |_=>I
section
variable {H:Type} {enc:TypeId×Value->H} {P:jB} {w:aw} {base:Nat} {spare:Nat->Bool} {held:Bool}
def Er(c:TypeId->Option (List Ah))(n:Nat)(a:∀t ls,c t=Z ls->∀cs x,DataW.trod enc P w base spare held n t cs=Z x->Leaves ls cs)(cs:List Value) :
  ∀(j:List Field) (off:Nat) (ls:List Ah),Es P c j off=Z ls->(∀f∈j,∃x,DataW.trod enc P w base spare held n f.type ((cs.drop f.offset).take (P.cellsOf f.type))=Z x) ->
   Leaves ls ((cs.drop off).take ls.length)
 |[],off,ls,h,_=>by simp only[Es,bf]at h;subst h;simp[Leaves]
 |f::r,off,ls,h,k=>by
  unfold Es at h;split at h
  ·rename_i b;split at h
   ·rename_i l1 h1;split at h
    ·rename_i l;split at h
     ·rename_i rs d;simp only[bf]at h;subst h;obtain⟨x,i⟩:=k f dt;have a1:=a _ _ h1 _ _ i;rw[b,<-l]at a1;have a2:=Er c n a cs r (off+P.cellsOf f.type) rs d (λg hg=>k g (by simp[hg]));have e:(cs.drop off).take (l1++rs).length=(cs.drop off).take l1.length++(cs.drop (off+P.cellsOf f.type)).take rs.length:=by
       rw[List.length_append,List.take_add,List.drop_drop,l]
      rw[e];exact Leaves.append a1 a2
     ·cases h
    ·cases h
   ·cases h
  ·cases h
def CP:∀(m:Nat) (t:TypeId) (ls:List Ah),flat P m t=Z ls->∀(n:Nat) (cs:List Value) (x:DataW H×List MemPlace),DataW.trod enc P w base spare held n t cs=Z x->Leaves ls cs
 |0,_,_,h=>by cases h
 |m+1,t,ls,h=>by
  intro n cs x a;unfold flat at h;split at h
  ·rename_i hu;cases h;obtain⟨b,rfl,_⟩:=DataW.trod_bool hu a;exact⟨_,_,rfl,⟨b,rfl⟩,rfl⟩
  ·rename_i hu;cases h;obtain⟨k,rfl,_,hw⟩:=DataW.trod_int hu a;exact⟨_,_,rfl,⟨k,rfl,hw⟩,rfl⟩
  ·rename_i hu;cases h;obtain⟨s,rfl,_,hw⟩:=DataW.trod_string hu a;exact⟨_,_,rfl,⟨s,rfl,hw⟩,rfl⟩
  ·rename_i o hu;split at h
   ·rename_i l1 h1;split at h
    ·rename_i B;cases h;obtain⟨xs,p,rfl,_,hlen,q,u⟩:=DataW.trod_struct hu a;have r:=Er (enc:=enc) (w:=w) (base:=base) (spare:=spare) (held:=held) (flat P m) p (λv c y d A e=>CP m v c y p d A e) cs o.toList 0 ls h1 (λf g=>by
      obtain⟨i,hi,j⟩:=List.getElem_of_mem g
      have l:i<o.size:=by simpa using hi
      have:=u i f (by rw[Array.getElem?_eq_getElem l];exact congrArg Z j)
      rw[this]
      exact⟨_,ay z⟩)
     rw[List.drop_zero,List.take_of_length_le z]at r;exact r
    ·cases h
   ·cases h
  ·cases h
end
end
structure cS(F:Nat->Prop)(w w':aw):Prop where
 os:w'.os=w.os
 tape:w'.tape=w.tape
 output:w'.output=w.output
 size:w.heap.size<=w'.heap.size
 block:∀i,i<w.heap.size->¬F i->w'.heap[i]? = w.heap[i]?
def cr:Nat->Prop:=λ_=>False
def One(g:Nat):Nat->Prop:=λi=>i=g
def cS.refl(F:Nat->Prop)(w:aw):cS F w w:=⟨rfl,rfl,rfl,aj _,λ_ _ _=>rfl⟩
def cS.trans{F:Nat->Prop}{a b c:aw}(h:cS F a b)(k:cS F b c):cS F a c:=
 ⟨k.os.trans h.os,k.tape.trans h.tape,k.output.trans h.output,aP h.size k.size,λi hi hF=>(k.block i (iU hi h.size) hF).trans (h.block i hi hF)⟩
def cS.mono{F G:Nat->Prop}{a b:aw}(h:cS F a b)(c:∀i,i<a.heap.size->F i->G i):cS G a b:=
 ⟨h.os,h.tape,h.output,h.size,λi hi d=>h.block i hi λhF=>d (c i hi hF)⟩
def cS.bn{F:Nat->Prop}{a b:aw}(h:aC a b):cS F a b:=⟨h.os,h.tape,h.output,h.size,λi hi _=>h.block i hi⟩
def cS.below{F:Nat->Prop}{B:Nat}{a b:aw}(h:cS F a b)(c:B<=a.heap.size)(hF:∀i,F i->B<=i):Below B a b:=
 ⟨h.os,h.tape,h.output,h.size,λi hi=>h.block i z λq=>by have:=hF i q;omega⟩
def cS.nothing{a b:aw}(h:cS cr a b):aC a b:=h.below (aj _) λ_ q=>q.elim
def cS.alloc{F:Nat->Prop}{a b:aw}(h:cS F a b)(o:Obj):cS F a (b.alloc o):=h.trans (.bn ((Below.refl _ _).alloc (aj _) o))
def cS.drew{F:Nat->Prop}{a b:aw}(h:cS F a b):cS F a b.drew:=⟨h.os,h.tape,h.output,h.size,h.block⟩
def cS.drewN{F:Nat->Prop}{a b:aw}(h:cS F a b)(n:Nat):cS F a (b.drewN n):=⟨h.os,h.tape,h.output,h.size,h.block⟩
def cS.setCell{F:Nat->Prop}{a b:aw}(h:cS F a b){p:Addr}(hp:F p.block\/a.heap.size<=p.block)(v:Value):cS F a (b.setCell p v):=
 ⟨h.os,h.tape,h.output,by simpa using h.size,λi hi hF=>by
  rw[Below.heap_setCell _ _ _ _ (λe=>by rcases hp with q|q;exact hF (e ▸ q);omega)];exact h.block i hi hF⟩
def cS.grown{F:Nat->Prop}{a b c:aw}{row:Option Nat}(h:cS F a b)(g:b.grownBy c row)(hF:∀j,row=Z j->F j\/a.heap.size<=j):cS F a c:=
 ⟨g.os.trans h.os,g.tape.trans h.tape,g.output.trans h.output,aP h.size g.size,λi hi d =>
  (g.block i (iU hi h.size) (λe=>by rcases hF i e.symm with q|q;exact d q;omega)).trans (h.block i hi d)⟩
def cS.step{F G:Nat->Prop}{a b c:aw}(h:cS F a b)(k:cS G b c)(d:∀i,G i->F i\/a.heap.size<=i):cS F a c:=
 ⟨k.os.trans h.os,k.tape.trans h.tape,k.output.trans h.output,aP h.size k.size,λi hi hF =>
  (k.block i (iU hi h.size) (λq=>by rcases d i q with r|r;exact hF r;omega)).trans (h.block i hi hF)⟩
def cS.then{F:Nat->Prop}{a b c:aw}(h:cS F a b)(k:aC b c):cS F a c:=h.trans (.bn k)
def aK.dW{F:Nat->Prop}{w w':aw}{g:Nat}{t:TypeId}{cs:Array Value}(h:aK w g t cs)(u:cS F w w')(hF:¬F g):aK w' g t cs:=(u.block g h.lt hF).trans h
def Typed(w:aw)(F:Nat->Prop)(ts:List TypeId):Prop:=∀i,F i->∃t cs,t∈ts/\aK w i t cs
def aK.typed{F:Nat->Prop}{ts:List TypeId}{w w':aw}{g:Nat}{t:TypeId}{cs:Array Value}(h:aK w g t cs)(u:cS F w w')(T:Typed w F ts)(ht:t∉ts):aK w' g t cs:=
 h.dW u λq=>by
  obtain⟨b,a,h1,h2⟩:=T g q;exact aK.jf h h2 (λe=>ht (e ▸ h1)) rfl
def de(dx:Array Value)(off:Nat)(vs:List Value):Array Value:=(dx.toList.take off++vs++dx.toList.drop (off+vs.length)).toArray
def gU{dx:Array Value}{off:Nat}{vs:List Value}(h:off+vs.length<=dx.size):(de dx off vs).size=dx.size:=by
 simp[de];omega
def qG{dx:Array Value}{off:Nat}{vs:List Value}(h:off+vs.length<=dx.size){j:Nat}(a:j<vs.length):(de dx off vs)[off+j]? = vs[j]?:=by
 unfold de;rw[iC,dL,dG dZ,dk dZ];congr 1;simp;omega
def kT{dx:Array Value}{off:Nat}{vs:List Value}(h:off+vs.length<=dx.size){j:Nat}(a:j<off\/off+vs.length<=j):(de dx off vs)[j]? = dx[j]?:=by
 unfold de;rw[iC];rcases a with a|a
 ·rw[dL,dk dZ,dp a];simp
 ·rw[dG dZ,kt];have:off+vs.length+(j-(dx.toList.take off++vs).length)=j:=dZ;rw[this];simp
namespace M
abbrev cQ:=List Int
def nx(a b:Int):Int:=if(b-a) % 65536<32768 then(b-a) % 65536 else(b-a) % 65536-65536
def nE(s:Int):Int:=65536+s
def jL(a s:Int):Int:=a+nx (a % 65536) s
def bO(b:cQ):Int:=b.foldl (λn x=>n*256+x) 0
def bK:Nat->Int->cQ
 |0,_=>[]
 |k+1,n=>bK k (n / 256)++[n % 256]
structure Rd where
 left:cQ
 nc:Int
def Rd.fail(r:Rd)(e:Int):Rd:=if e=0\/r.nc≠0 then r else⟨[],e⟩
def Rd.take(r:Rd)(n:Int):cQ×Rd:=
 if n<=0 then([],r) else if(r.left.length:Int)<n then([],r.fail 3) else(r.left.take n.toNat,⟨r.left.drop n.toNat,r.nc⟩)
def Rd.num(r:Rd)(size:Nat):Int×Rd:=(bO (r.take size).1,(r.take size).2)
def Rd.end_(r:Rd):Int:=if r.nc≠0 then r.nc else if 0<r.left.length then 4 else 0
structure cR where
 dR:Bool
 type:Int
 dQ:Int
 aU:Int
 bJ:Int
 aQ:List Int
 has:Bool
 bV:Int
 fp:cQ
 cF:cQ
 deriving DecidableEq
def cR.zero:cR:=⟨false,0,0,0,0,[],false,0,[],[]⟩
def cR.size(p:cR):Nat:=12+4*p.aQ.length+p.cF.length+if p.has then 4+p.fp.length else 0
def cR.right(p:cR):Bool:=
 !(decide (127<p.type)||decide (15<p.aQ.length)) && !(!p.has&&(p.bV !=0||decide (0<p.fp.length)))&&(p.fp.length % 4==0&&decide (p.size<=200))
def cR.bytes(p:cR):cQ:=
 bK 1 ((128+p.aQ.length+if p.has then 16 else 0):Int)++bK 1 (p.type+if p.dR then 128 else 0)++bK 2 p.dQ++bK 4 p.aU++bK 4 p.bJ ++
  p.aQ.flatMap (bK 4)++(if p.has then bK 2 p.bV++bK 2 ((p.fp.length / 4:Nat):Int)++p.fp else[])++p.cF
def ic(p:cR):cQ×Int:=if p.right then(p.bytes,0) else([],1)
def jD:Nat->Rd->List Int×Rd
 |0,r=>([],r)
 |k+1,r=>((r.num 4).1::(jD k (r.num 4).2).1,(jD k (r.num 4).2).2)
def sS(b:cQ):Option cQ:=
 match b.getLast? with
 |none=>I
 |some n=>if n=0\/(b.length:Int)<n then I else Z (b.take (b.length-n.toNat))
def h1(b:cQ):Int×Rd:=Rd.num ⟨b,0⟩ 1
def h2(b:cQ):Int×Rd:=(h1 b).2.num 1
def h3(b:cQ):Int×Rd:=(h2 b).2.num 2
def h4(b:cQ):Int×Rd:=(h3 b).2.num 4
def h5(b:cQ):Int×Rd:=(h4 b).2.num 4
def h6(b:cQ):Rd:=if(h1 b).1<128\/191<(h1 b).1 then(h5 b).2.fail 2 else(h5 b).2
def h7(b:cQ):List Int×Rd:=jD ((h1 b).1 % 16).toNat (h6 b)
def JX(b:cQ):Bool:=decide ((h1 b).1 / 16 % 2=1)
def h8(b:cQ):Int×Rd:=(h7 b).2.num 2
def h9(b:cQ):Int×Rd:=(h8 b).2.num 2
def xx(b:cQ):cQ×Rd:=(h9 b).2.take (4*(h9 b).1)
def td(b:cQ):Int:=if JX b then(h8 b).1 else 0
def GJ(b:cQ):cQ:=if JX b then(xx b).1 else[]
def hR(b:cQ):Rd:=if JX b then(xx b).2 else(h7 b).2
def yk(b:cQ):cQ×Rd:=(hR b).take (hR b).left.length
def N9(b:cQ):Bool:=decide ((h1 b).1 / 32 % 2=1)
def zN(b:cQ):cQ:=if N9 b then(match sS (yk b).1 with | some k=>k | none=>[]) else(yk b).1
def KG(b:cQ):Rd:=if N9 b then(match sS (yk b).1 with | some _=>(yk b).2 | none=>(yk b).2.fail 2) else(yk b).2
def wH(b:cQ):cR:=⟨decide (128<=(h2 b).1),(h2 b).1 % 128,(h3 b).1,(h4 b).1,(h5 b).1,(h7 b).1,JX b,td b,GJ b,zN b⟩
def eP(b:cQ):cR×Int:=
 if 200<b.length then(.zero,4) else if(KG b).end_≠0 then(.zero,(KG b).end_) else(wH b,0)
def control(b:cQ):Bool:=decide (2<=b.length)&&(decide (192<=b.getD 1 0)&&decide (b.getD 1 0<=223))
structure Chunk where
 count:Int
 type:Int
 body:cQ
def Chunk.right(c:Chunk):Bool:=decide (c.count<=31)&&(c.body.length % 4==0&&decide (4+c.body.length<=200))
def pg(b:cQ):Option cQ:=
 match b.getLast? with
 |none=>I
 |some n=>if n=0\/n % 4≠0\/(b.length:Int)<n then I else Z (b.take (b.length-n.toNat))
def fJ(r:Rd):Chunk×Rd:=
 let (first,r1):=r.num 1
 let (kind,r2):=r1.num 1
 let (words,a):=r2.num 2
 let r4:=if first<128\/191<first then a.fail 2 else a
 let (body,r5):=r4.take (4*words)
 let (body,b):=if first / 32 % 2=1 then
   match pg body with
   |some kept=>(kept,if 0<r5.left.length then r5.fail 2 else r5)
   |none=>([],r5.fail 2)
  else(body,r5)
 (⟨first % 32,kind,body⟩,b)
def jN:Nat->Rd->List Chunk×Rd
 |0,r=>([],r)
 |k+1,r=>if 0<(fJ r).2.left.length then((fJ r).1::(jN k (fJ r).2).1,(jN k (fJ r).2).2) else([(fJ r).1],(fJ r).2)
def splitB(b:cQ):Option (List Chunk)×Int:=
 if 200<b.length then(I,4) else
 let (l,r):=jN 60 ⟨b,0⟩
 if r.end_≠0 then(I,r.end_) else(Z l,0)
def iD:List Nat->Rd->Rd
 |[],r=>r
 |s::l,r=>iD l (r.num s).2
def kV:Nat->Rd->Rd
 |0,r=>r
 |k+1,r=>kV k (iD [4,1,3,4,4,4,4] r)
def nN(c:Chunk):Int:=
 if !c.right then 1 else
 let r:=(Rd.num ⟨c.body,0⟩ 4).2
 let r:=if c.type=200 then iD [4,4,4,4,4] r else r
 (kV c.count.toNat r).end_
structure Sk where
 kind:Int
 zA:Int
 dJ:List Int
def kindOf(c:Chunk):Int:=if c.type=206/\c.count=1 then 1 else if c.type=206/\c.count=4 then 2 else if c.type=205/\c.count=1 then 3 else 0
def iE:Nat->Rd->List Int×Rd
 |0,r=>([],r)
 |k+1,r=>if 0<r.left.length then((r.num 4).1::(iE k (iD [4,1,3] r)).1,(iE k (iD [4,1,3] r)).2) else([],r)
def lq(bO mask:Int):List Int:=bO::(List.range 16).filterMap λ(k:Nat)=>if mask / 2 ^ k % 2=1 then Z ((bO+(k:Int)+1) % 65536) else I
def lp:Nat->List Int->Rd->Rd
 |0,_,r=>r
 |k+1,l,r=>if 0<r.left.length then
   let (bO,r1):=r.num 2
   let (mask,r2):=r1.num 2
   let a:=match l.getLast? with
    |some x=>if nx x bO<=0 then r2.fail 2 else r2
    |none=>r2
   lp k (l++lq bO mask) a
  else r
def nu(c:Chunk):Sk×Int:=
 if !c.right then(⟨0,0,[]⟩,1) else
 let kind:=kindOf c
 if kind=0 then(⟨0,0,[]⟩,5) else
 let r:=(Rd.num ⟨c.body,0⟩ 4).2
 let (zA,r):=r.num 4
 let (dJ,r):=
  if kind=2 then iE 30 (if zA≠0\/r.left.length=0\/r.left.length % 8≠0 then r.fail 2 else r)
  else if kind=3 then([],lp 60 [] (if r.left.length=0 then r.fail 2 else r))
  else([],r)
 if r.end_≠0 then(⟨0,0,[]⟩,r.end_) else(⟨kind,zA,dJ⟩,0)
def jO(c:Chunk):List Int×Int:=
 if c.type=200\/c.type=201 then([],nN c) else
 let (m,e):=nu c
 if e=5 then([],0) else(if m.kind=1 then[m.zA] else if m.kind=2 then m.dJ else[],e)
def nj:List Int->Int
 |[]=>0
 |e::l=>if e≠0 then e else nj l
def ff(b:cQ):Option (List Int):=
 match splitB b with
 |(none,_)=>I
 |(some l,_)=>if nj (l.map λc=>(jO c).2)≠0 then I else Z (l.flatMap λc=>(jO c).1)
end M
section
def TL(t:TypeId)(k:jC)(w:aw)(A:Option Addr)(n:Nat)(xs:List Int):Prop:=
 xs.length=n/\(∀x∈xs,(Lit.int k x).wf=true)/\(0<n->∃b off cs,A=Z ⟨b,off,I⟩/\aK w b t cs/\∀i,i<n->cs[off+i]? = Z (J k (xs.getD i 0)))
abbrev TB:=TL 5 bI
abbrev TU:=TL 41 ar
section
variable {t:TypeId} {k:jC} {w w':aw} {A:Option Addr} {n:Nat} {xs:List Int}
def TL.len(h:TL t k w A n xs):xs.length=n:=h.1
def TL.wf(h:TL t k w A n xs):∀x∈xs,(Lit.int k x).wf=true:=h.2.1
def TL.empty:TL t k w A 0 []:=⟨rfl,λx h=>absurd h dt,λh=>absurd h z⟩
def TL.map{w':aw}(h:TL t k w A n xs)(a:∀b cs,aK w b t cs->aK w' b t cs):TL t k w' A n xs:=by
 obtain⟨h1,h2,h3⟩:=h;refine⟨h1,h2,λh0=>?_⟩;obtain⟨b,off,cs,e,c,d⟩:=h3 h0;exact⟨b,off,cs,e,a b cs c,d⟩
def TL.typed{F:Nat->Prop}{ts:List TypeId}(h:TL t k w A n xs)(u:cS F w w')(T:Typed w F ts)(ht:t∉ts):TL t k w' A n xs:=h.map λb cs a=>a.typed u T ht
def TL.below(h:TL t k w A n xs)(u:aC w w'):TL t k w' A n xs:=h.map λb cs a=>a.kept u
def TL.one{g:Nat}{b:TypeId}{a:Array Value}(h:TL t k w A n xs)(u:cS (One g) w w')(hg:aK w g b a)(ht:t≠b):TL t k w' A n xs:=
 h.typed u (ts:=[b]) (λi hi=>by cases hi;exact⟨b,a,dt,hg⟩) (by simpa using ht)
def TL.cell(h:TL t k w A n xs)(c:0<n):∃b off,A=Z ⟨b,off,I⟩/\b<w.heap.size/\∀i,i<n->w.cell? ⟨b,off+i,I⟩=Z (J k (xs.getD i 0)):=by
 obtain⟨b,off,cs,e,a,d⟩:=h.2.2 c;exact⟨b,off,e,a.lt,λi hi=>(a.cell _).trans (d i hi)⟩
def TL.part{b off:Nat}(h:TL t k w (Z ⟨b,off,I⟩) n xs)(j m:Nat)(hm:j+m<=n):TL t k w (Z ⟨b,off+j,I⟩) m ((xs.drop j).take m):=by
 obtain⟨h1,h2,h3⟩:=h;refine⟨dZ,λx c=>h2 x (List.mem_of_mem_drop (List.mem_of_mem_take c)),λd=>?_⟩;obtain⟨l,a,cs,he,f,g⟩:=h3 z;simp only[bf,Addr.mk.injEq]at he;obtain⟨rfl,rfl,-⟩:=he;refine⟨b,off+j,cs,rfl,f,λi hi=>?_⟩;have e:=g (j+i) z;rw[Nat.add_assoc,e,bE,bE,dp hi,kt]
def TL.own{base:Nat}{v:Value}(h:w.ownsRow base t 1 v n (xs.map (J k)))(a:∀x∈xs,(Lit.int k x).wf=true):∃A c,v=ae A n c/\n<=c/\c<=maxLen/\TL t k w A n xs:=by
 have b:xs.length=n:=by have:=h.1;simpa using this
 rcases h.2 with⟨rfl,rfl⟩ | ⟨g,cap,dx,rfl,h1,h2,h3,h4,h5,h6⟩
 ·exact⟨I,0,rfl,z,ui,b,a,λd=>absurd d z⟩
 ·refine⟨_,cap,rfl,h3,h4,b,a,λ_=>⟨g,0,dx,rfl,h2,λi hi=>?_⟩⟩;have e:=h.cellAt i z;have f:aK w g t dx:=h2;rw[f.cell]at e;rw[Nat.zero_add,e,List.getElem?_map,bE,ay z];rfl
end
def iG(w:aw)(g:Nat)(r:M.Rd):Prop:=∃A n c,aK w g 231 #[ae A n c,J V r.nc]/\TB w A n r.left/\n<=c/\c<=maxLen/\(0<n->∀b off,A=Z ⟨b,off,I⟩->b<g)
end
end Go.Proofs.YtkfblammcilfhaaGreatDoor
