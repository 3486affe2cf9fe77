import Derived.Deep.MidRow
import Derived.Test.YtkfblammcilfhaaGreatDoorP10
set_option linter.all false
set_option maxRecDepth 100000
set_option maxHeartbeats 100000000
open Go.ChangeShapes Go.WideShapes Go.ChangeAt Go.RowKit Go.Proofs.Tryz
open Array renaming getElem?_eq_some_iff->jm,getElem?_eq_getElem->aE
open Go.IntKind renaming u32->ar,bits->gM,signed->fR,u16->aN,i64->V,u8->bI
open Go.Act renaming put->aA
open Go.AllReadyH renaming cons->bH,nil->cy
open Nat renaming le_refl->aj,lt_irrefl->jy
open Go.Value renaming int->J,slice->ae,bool->ai,pointer->aq,agg->cg
open Go.Ending renaming returned->av
open Option renaming none->I,some->Z
namespace Go.Proofs.YtkfblammcilfhaaGreatDoor
section
section
variable {P:Program} {md:Region.Mode} {ops:Array Oper} {Q:Exit->Act->World->Prop}
def QI(ops:Array Oper):Bool:=(List.range ops.size).all λj=>match ops[j]? with | some o=>o.after.all λe=>decide (e.on<j) | none=>true
def Hp(h:QI ops=true):∀(j:Nat) (o:Oper),ops[j]? = Z o->∀e∈o.after,e.on<j:=by
 intro j o b e he;have a:=(jm.1 b).1;have:=List.all_eq_true.1 h j (List.mem_range.2 a);rw[b]at this;simpa using Array.all_eq_true_iff_forall_mem.1 this e he
def Be{listed:Array Bool}(b:∀(j:Nat) (o:Oper),ops[j]? = Z o->∀e∈o.after,e.on<j)(c:listed.size=ops.size)(hr:Region.ready md ops listed=[]):∀j,j<ops.size->listed.getD j false=true:=by
 intro j;induction j using Nat.strongRecOn with
 |_ j d =>
  intro a;by_cases h:listed.getD j false=true
  ·exact h
  ·exfalso;have hm:j∈Region.ready md ops listed:=mem_ready.2 ⟨by
    have e:listed.getD j true=listed.getD j false:=by simp[Array.getD,c,a]
    rw[e];simpa using h,ops[j],aE a,λe he _=>d e.on (b j _ (aE a) e he) (Nat.lt_trans (b j _ (aE a) e he) a)⟩
   rw[hr]at hm;cases hm
def AR(g:Array Bool->Act->World->Prop)(c:∀listed a w,g listed a w->listed.size=ops.size)(m:∀(j:Nat) (o:Oper),ops[j]? = Z o->∀e∈o.after,e.on<j)
  (q:∀listed a w i o,g listed a w->ops[i]? = Z o->(∀e∈o.after,Region.binds md e=true->listed.getD e.on false=true)->wpOp P ops Q i (λa' w'=>g (listed.setIfInBounds i true) a' w') a w)
  (n:∀listed a w,g listed a w->(∀j,j<ops.size->listed.getD j false=true)->Q .normal a w) :
  ∀(fuel:Nat) (listed:Array Bool) (a:Act) (w:World),listed.toList.countP (λb=>!b)<=fuel->g listed a w->wpAny P md ops Q fuel listed a w
 |0,listed,a,w,r,d=>by
  have hr:Region.ready md ops listed=[]:=by
   rw[List.eq_nil_iff_forall_not_mem];intro j s;obtain⟨h1,o,l,_⟩:=mem_ready.1 s;have f:=(jm.1 l).1;have p:=c listed a w d;have h0:listed.toList.countP (λb=>!b)=0:=z;rw[List.countP_eq_zero]at h0;have hm:listed[j]'(z)∈listed.toList:=dt;have:=h0 _ hm;simp[Array.getD,p,f]at h1;simp[h1]at this
  exact⟨hr,n listed a w d (Be m (c listed a w d) hr)⟩
 |fuel+1,listed,a,w,r,d=>by
  refine⟨λhr=>n listed a w d (Be m (c listed a w d) hr),λi hi=>?_⟩;obtain⟨h1,o,l,h⟩:=mem_ready.1 hi;have f:=(jm.1 l).1;have p:=c listed a w d;refine wpOp_mono (λa' w' t=>AR g c m q n fuel _ a' w' ?_ t) (q listed a w i o d l h);have h2:listed[i]'(z)=false:=by simpa[Array.getD,p,f]using h1
  have k:i<listed.toList.length:=dZ;rw[Array.toList_setIfInBounds,List.countP_set k];have h3:listed.toList[i]=false:=by simpa using h2
  have h4:0<listed.toList.countP (λb=>!b):=List.countP_pos_iff.2 ⟨false,by rw[<-h3];exact List.getElem_mem k,rfl⟩;rw[if_pos (by rw[h3];rfl),if_neg dt];omega
end
end
def AQ{x:Int}(h:0<=x/\x<=4294967295):ar.wrap x=x:=by
 unfold IntKind.wrap;simp[gM,fR];omega
def IT{x:Int}(h:0<=x/\x<=65535):aN.wrap x=x:=by
 unfold IntKind.wrap;simp[gM,fR];omega
def Ph:(Tryz.prog.info? 73).map (·.size)=Z 5:=cC
def JG(bk o c:Nat)(src dQ aU:Int)(k:Sl)(g:M.cQ)(w:World)(d:∀(j:Nat) x,[src,dQ,aU][j]? = Z x->w.cell? ⟨bk,o+j,I⟩=Z (J V x))(hy:k.B w g)
  (h1:0<=src/\src<=4294967295) (h2:0<=dQ/\dQ<=65535) (h3:0<=aU/\aU<=4294967295) (hp:g.length<=400) :
  Calls Tryz.prog 203 #[ae (Z ⟨bk,o,I⟩) 3 c,ae k.a k.n k.c] w λe w'=>(∃s:Sl,e=av (ae s.a s.n s.c)/\s.B w' (M.ic ⟨false,96,dQ,aU,src,[],false,0,[],g⟩).1)/\aC w w':=by
 have E:w.cell? ⟨bk,o,I⟩=Z (J V src):=d 0 _ rfl;have c1:=d 1 _ rfl;have c2:=d 2 _ rfl;have U:ar.wrap src=src:=AQ h1;have X:aN.wrap dQ=dQ:=IT h2;have Y:ar.wrap aU=aU:=AQ h3;obtain⟨r,t,u,H⟩:=cA (λW (b:aC w W)=>aM b E) (λW (b:aC w W)=>aM b c1) (λW (b:aC w W)=>aM b c2) hy;clear d hy E c1 c2;go_enter func203,ntmps203;go_upto_region 1 with fail;go_cut [5] (λa wc=>∃r5:Nat,a=aq (Z ⟨r5,0,I⟩)/\aK wc r5 73 #[ai false,J bI 96,J aN dQ,J ar aU,J ar src]/\aC w wc);case first =>
  refine wp_region_held_drew (S:=λW=>aC w W) cC (eW (Below.refl _ _)) (λf=>?_);refine fS 0 (ae (Z ⟨bk,o,I⟩) 3 c) rfl f ?_;try simp only[aA,pqq]
  refine fS 1 (aq (Z ⟨bk,o,I⟩)) rfl f ?_;simp only[aA,pqq]
  refine fS 2 (J V src) rfl f ?_ (hy:=λW l=>by have q:=r.O W l;go_simp);simp only[aA,pqq]
  refine fS 3 (J ar src) rfl f ?_;simp only[aA,pqq]
  refine fS 4 (ae (Z ⟨bk,o,I⟩) 3 c) rfl f ?_;simp only[aA,pqq]
  refine fS 5 (aq (Z ⟨bk,o+1,I⟩)) rfl f ?_;simp only[aA,pqq]
  refine fS 6 (J V dQ) rfl f ?_ (hy:=λW l=>by have q:=t.O W l;go_simp);simp only[aA,pqq]
  refine fS 7 (J aN dQ) rfl f ?_;simp only[aA,pqq]
  refine fS 8 (ae (Z ⟨bk,o,I⟩) 3 c) rfl f ?_;simp only[aA,pqq]
  refine fS 9 (aq (Z ⟨bk,o+2,I⟩)) rfl f ?_;simp only[aA,pqq]
  refine fS 10 (J V aU) rfl f ?_ (hy:=λW l=>by have q:=u.O W l;go_simp);simp only[aA,pqq]
  refine fS 11 (J ar aU) rfl f ?_;simp only[aA,pqq]
  refine fS 12 (cg #[ai false,J bI 96,J aN dQ,J ar aU,J ar src]) rfl f ?_;simp only[aA,pqq]
  have m:∀v∈(#[ai false,J bI 96,J aN dQ,J ar aU,J ar src]:Array Value).toList,v.oneCell'=true:=tk;refine wpAnyH_ready (rs:=[13]) cC dt ?_;refine bH rfl (λK p=>?_) cy;rw[if_pos jP];go_simp;refine p.out _ _ (f.alloc f.size _) (λh2=>?_);clear p K;try simp only[aA,pqq]
  refine wpAnyH_ready (rs:=[14]) cC dt ?_;refine bH rfl (λK p=>?_) cy;refine lj jP (.tmp 5) (.tmp 20) 73 jP w.drew.heap.size 0 73 #[ai false,J bI 0,J aN 0,J ar 0,J ar 0] rfl #[ai false,J bI 96,J aN dQ,J ar aU,J ar src] rfl Ph (aK.new w.drew 73 #[ai false,J bI 0,J aN 0,J ar 0,J ar 0]) (aj _) m ?_;intro w' y L;refine p.out _ _ (h2.trans (L.below h2.size (λi q=>by cases q;exact aj _))) (λh3=>?_);clear p K;refine wpAnyH_done cC ?_ _;go_wp2_with fail;go_meet;exact⟨_,rfl,y,h3⟩
 case rest =>
  obtain⟨r5,rfl,b5,A⟩:=hcut;have N:=b5.cell 0;have P:=b5.cell 1;have Q:=b5.cell 2;have R:=b5.cell 3;have T:=b5.cell 4;simp at N P Q R T;have pk:iT wc ⟨false,96,dQ,aU,src,[],false,0,[],g⟩ Sl.nil Sl.nil k:=⟨⟨⟨rfl,λ_ h=>(by cases h),λh=>absurd h (jy 0)⟩,aj _,aR,λ_=>rfl⟩,⟨⟨rfl,λ_ h=>(by cases h),λh=>absurd h (jy 0)⟩,aj _,aR,λ_=>rfl⟩,H.O.rows (.inl rfl) (.bn A),dt,h2,h3,h1,dt,⟨dt,dt,hp⟩⟩;obtain⟨C,F⟩:=bu (vw _ _ _ _ wc pk) A;clear b5 A pk;go_wp2_with (go_at_call 193;refine C.O.mono ?_;rintro e w4 ⟨⟨s,rfl,G⟩,b4⟩;have HS:=au G;have D:=au b4;clear G b4);go_ret;exact⟨⟨s,rfl,HS.O⟩,F.O.trans (D.O.mono F.O.size)⟩
end Go.Proofs.YtkfblammcilfhaaGreatDoor
