import Derived.Test.YtkfblammcilfhaaGreatDoorP16
import Derived.Test.YtkfblammcilfhaaGreatDoorP19
set_option linter.all false
set_option maxRecDepth 100000
set_option maxHeartbeats 100000000
open Go.ChangeShapes Go.WideShapes Go.ChangeAt Go.RowKit Go.Proofs.Tryz
open Go renaming World->aw,Calls->aF,wp_region_held_drew->fC,wpAnyH_ready->cH,wpAnyH_done->gV,results->aV
open Go.Proofs.Tryz renaming prog->af
open Go.RowKit.Below renaming refl->ao
open Go.Act renaming put->aA
open Go.IntKind renaming u32->ar,u16->aN,i64->V,u8->bI
open Go.AllReadyH renaming cons->bH,nil->cy
open Nat renaming le_refl->aj,zero_add->cO
open Go.Value renaming int->J,string->jA,slice->ae,bool->ai,pointer->aq,tuple->aB,agg->cg
open List renaming getElem?_eq_some_iff->aS,getElem?_map->dE,length_append->cG
open Go.Ending renaming returned->av
open Option renaming none->I,some->Z
namespace Go.Proofs.YtkfblammcilfhaaGreatDoor
def nG(w:aw)(bk o:Nat)(ns:List Int):Prop:=∀(j:Nat) x,ns[j]? = Z x->w.cell? ⟨bk,o+j,I⟩=Z (J V x)
def vQ(B:RB)(w:aw)(R:M.Room)(N:Nat)(s:ByteArray)(e:Ending)(w':aw):Prop:=∃B',e=av (.string s)/\aL w' B' R N/\fK w w' B B'
def Od(p bk o c:Nat)(w:aw)(hp:aK w p 180 #[aq I])(a:bk≠p)(b:nG w bk o [2,2,1,1,2,1]) :
  aF af 139 #[aq (Z ⟨p,0,I⟩),.string ⟨#[114,111,111,109]⟩,ae (Z ⟨bk,o,I⟩) 6 c] w λe w'=>∃B:RB,e=av (.string ⟨#[]⟩)/\aL w' B M.s0 0/\(∀i,B.all i->w.heap.size<=i)/\aK w' p 180 #[aq (Z ⟨B.g,0,I⟩)]/\cS (One p) w w':=by
 have d:=JY p bk o c 2 2 1 1 2 1 (aq I) w hp a (λj x k=>b j x k) cC;have l:=hp.cell 0;simp at l;have m:=au d;clear d hp b;go_enter func139,ntmps139;go_wp2_with (go_at_call 202;refine m.O.mono ?_;rintro e w2 ⟨B,rfl,hR,f,h,u⟩;have n:=au hR;have q:=au f;have r:=au h;have s:=au u;clear hR f h u);go_ret;exact⟨B,rfl,n.O,q.O,r.O,s.O⟩
def GO{B:RB}{N:Nat}{w:aw}(h:aL w B M.s0 N)(p bk o c:Nat)(hp:aK w p 180 #[aq (Z ⟨B.g,0,I⟩)])(f:¬B.all bk)(A:N<=500000)(n:nG w bk o [0,7,8,9]) :
  aF af 139 #[aq (Z ⟨p,0,I⟩),.string ⟨#[112,117,98,108,105,115,104]⟩,ae (Z ⟨bk,o,I⟩) 4 c] w (vQ B w M.s1 (N+9) ⟨#[]⟩):=by
 have s:=hp.cell 0;simp at s;have hr:aL w.drew B M.s0 N:=h.below (eW (ao _ _));have i:=vZ hr 0 7 8 9 z aR aR aR;rw[M.Rh]at i;obtain⟨t,u⟩:=bu i n;have d:fK w w.drew B B:=fK.fN B (eW (ao _ _));have k:=au d;clear h hp hr i n d;go_enter func139,ntmps139;go_upto_region 8 with fail;refine fC (S:=λW=>nG W bk o [0,7,8,9]) cC (λj x l=>cE (u.O j x l)) (λa=>?_);refine fS 0 (aq (Z ⟨B.g,0,I⟩)) rfl a ?_;try simp only[aA,pqq]
 refine fS 1 (ae (Z ⟨bk,o,I⟩) 4 c) rfl a ?_;simp only[aA,pqq]
 refine fS 2 (aq (Z ⟨bk,o,I⟩)) rfl a ?_;simp only[aA,pqq]
 refine fS 3 (J V 0) rfl a ?_ (hy:=λW b=>by have q:W.cell? ⟨bk,o,I⟩=Z (J V 0):=b 0 _ rfl;go_simp);simp only[aA,pqq]
 refine fS 4 (ae (Z ⟨bk,o,I⟩) 4 c) rfl a ?_;simp only[aA,pqq]
 refine fS 5 (aq (Z ⟨bk,o+1,I⟩)) rfl a ?_;simp only[aA,pqq]
 refine fS 6 (J V 7) rfl a ?_ (hy:=λW b=>by have q:W.cell? ⟨bk,o+1,I⟩=Z (J V 7):=b 1 _ rfl;go_simp);simp only[aA,pqq]
 refine fS 7 (J ar 7) rfl a ?_ (hy:=λW b=>by have q:ar.wrap 7=7:=rfl;go_simp);simp only[aA,pqq]
 refine fS 8 (ae (Z ⟨bk,o,I⟩) 4 c) rfl a ?_;simp only[aA,pqq]
 refine fS 9 (aq (Z ⟨bk,o+2,I⟩)) rfl a ?_;simp only[aA,pqq]
 refine fS 10 (J V 8) rfl a ?_ (hy:=λW b=>by have q:W.cell? ⟨bk,o+2,I⟩=Z (J V 8):=b 2 _ rfl;go_simp);simp only[aA,pqq]
 refine fS 11 (J ar 8) rfl a ?_ (hy:=λW b=>by have q:ar.wrap 8=8:=rfl;go_simp);simp only[aA,pqq]
 refine fS 12 (ae (Z ⟨bk,o,I⟩) 4 c) rfl a ?_;simp only[aA,pqq]
 refine fS 13 (aq (Z ⟨bk,o+3,I⟩)) rfl a ?_;simp only[aA,pqq]
 refine fS 14 (J V 9) rfl a ?_ (hy:=λW b=>by have q:W.cell? ⟨bk,o+3,I⟩=Z (J V 9):=b 3 _ rfl;go_simp);simp only[aA,pqq]
 refine fS 15 (J ar 9) rfl a ?_ (hy:=λW b=>by have q:ar.wrap 9=9:=rfl;go_simp);simp only[aA,pqq]
 refine fS 16 (cg #[J ar 7,J ar 8,J ar 9]) rfl a ?_;simp only[aA,pqq]
 refine cH (rs:=[17]) cC dt ?_;refine bH rfl (λK r=>?_) cy;rw[if_pos jP];go_simp;go_at_call 38;refine t.O.mono ?_;rintro e w2 ⟨B',rfl,hR,m⟩;dsimp only;have h2:nG w2 bk o [0,7,8,9]:=λj x l=>dD m.fr f (a j x l);refine r.out _ _ h2 (λv=>?_);clear v r K;try simp only[aA,pqq]
 refine fS 18 (J V 0) rfl h2 ?_;simp only[aA,pqq]
 refine gV cC ?_ _;obtain⟨y,HS⟩:=bu (hR.mono (M':=N+9) z) (k.O.trans m);clear hR m h2 a;go_wp2_with fail;go_ret;exact⟨B',rfl,y.O,HS.O⟩
def Oe{B:RB}{N:Nat}{w:aw}(h:aL w B M.s1 N)(p bk o c:Nat)(hp:aK w p 180 #[aq (Z ⟨B.g,0,I⟩)])(f:¬B.all bk)(A:N<=500000)(n:nG w bk o [0,50,5,100]) :
  aF af 139 #[aq (Z ⟨p,0,I⟩),.string ⟨#[106,111,105,110]⟩,ae (Z ⟨bk,o,I⟩) 4 c] w (vQ B w M.s2 (N+2) ⟨#[]⟩):=by
 have s:=hp.cell 0;simp at s;have hr:aL w.drew B M.s1 N:=h.below (eW (ao _ _));have i:=Ba hr 0 50 5 100 z aR aR aR;rw[M.Re]at i;obtain⟨t,u⟩:=bu i n;have d:fK w w.drew B B:=fK.fN B (eW (ao _ _));have k:=au d;clear h hp hr i n d;go_enter func139,ntmps139;go_upto_region 10 with fail;refine fC (S:=λW=>nG W bk o [0,50,5,100]) cC (λj x l=>cE (u.O j x l)) (λa=>?_);refine fS 0 (aq (Z ⟨B.g,0,I⟩)) rfl a ?_;try simp only[aA,pqq]
 refine fS 1 (ae (Z ⟨bk,o,I⟩) 4 c) rfl a ?_;simp only[aA,pqq]
 refine fS 2 (aq (Z ⟨bk,o,I⟩)) rfl a ?_;simp only[aA,pqq]
 refine fS 3 (J V 0) rfl a ?_ (hy:=λW b=>by have q:W.cell? ⟨bk,o,I⟩=Z (J V 0):=b 0 _ rfl;go_simp);simp only[aA,pqq]
 refine fS 4 (ae (Z ⟨bk,o,I⟩) 4 c) rfl a ?_;simp only[aA,pqq]
 refine fS 5 (aq (Z ⟨bk,o+1,I⟩)) rfl a ?_;simp only[aA,pqq]
 refine fS 6 (J V 50) rfl a ?_ (hy:=λW b=>by have q:W.cell? ⟨bk,o+1,I⟩=Z (J V 50):=b 1 _ rfl;go_simp);simp only[aA,pqq]
 refine fS 7 (J ar 50) rfl a ?_ (hy:=λW b=>by have q:ar.wrap 50=50:=rfl;go_simp);simp only[aA,pqq]
 refine fS 8 (ae (Z ⟨bk,o,I⟩) 4 c) rfl a ?_;simp only[aA,pqq]
 refine fS 9 (aq (Z ⟨bk,o+2,I⟩)) rfl a ?_;simp only[aA,pqq]
 refine fS 10 (J V 5) rfl a ?_ (hy:=λW b=>by have q:W.cell? ⟨bk,o+2,I⟩=Z (J V 5):=b 2 _ rfl;go_simp);simp only[aA,pqq]
 refine fS 11 (J aN 5) rfl a ?_ (hy:=λW b=>by have q:aN.wrap 5=5:=rfl;go_simp);simp only[aA,pqq]
 refine fS 12 (ae (Z ⟨bk,o,I⟩) 4 c) rfl a ?_;simp only[aA,pqq]
 refine fS 13 (aq (Z ⟨bk,o+3,I⟩)) rfl a ?_;simp only[aA,pqq]
 refine fS 14 (J V 100) rfl a ?_ (hy:=λW b=>by have q:W.cell? ⟨bk,o+3,I⟩=Z (J V 100):=b 3 _ rfl;go_simp);simp only[aA,pqq]
 refine fS 15 (J ar 100) rfl a ?_ (hy:=λW b=>by have q:ar.wrap 100=100:=rfl;go_simp);simp only[aA,pqq]
 refine cH (rs:=[16]) cC dt ?_;refine bH rfl (λK r=>?_) cy;rw[if_pos jP];go_simp;go_at_call 39;refine t.O.mono ?_;rintro e w2 ⟨B',rfl,hR,m⟩;dsimp only;have h2:nG w2 bk o [0,50,5,100]:=λj x l=>dD m.fr f (a j x l);refine r.out _ _ h2 (λv=>?_);clear v r K;try simp only[aA,pqq]
 refine fS 17 (J V 0) rfl h2 ?_;simp only[aA,pqq]
 refine gV cC ?_ _;obtain⟨y,HS⟩:=bu (hR.mono (M':=N+2) z) (k.O.trans m);clear hR m h2 a;go_wp2_with fail;go_ret;exact⟨B',rfl,y.O,HS.O⟩
def Oc{B:RB}{N:Nat}{w:aw}(h:aL w B M.s2 N)(p bk o c:Nat)(hp:aK w p 180 #[aq (Z ⟨B.g,0,I⟩)])(f:¬B.all bk)(C:N<=500000)(r:nG w bk o [0,0,0]) :
  aF af 139 #[aq (Z ⟨p,0,I⟩),.string ⟨#[116,97,107,101]⟩,ae (Z ⟨bk,o,I⟩) 3 c] w (vQ B w M.s3 (N+1) ⟨#[]⟩):=by
 have t:=hp.cell 0;simp at t;have hr:aL w.drew B M.s2 N:=h.below (eW (ao _ _));have i:=uw hr 0 0 0 aR z (λq=>by obtain⟨G,k⟩:=M.Pk;rw[<-k.inv.lu];exact q);rw[M.Rb]at i;obtain⟨u,v⟩:=bu i r;have b:fK w w.drew B B:=fK.fN B (eW (ao _ _));have l:=au b;clear h hp hr i r b;go_enter func139,ntmps139;go_upto_region 12 with fail;refine fC (S:=λW=>nG W bk o [0,0,0]) cC (λj x m=>cE (v.O j x m)) (λa=>?_);refine fS 0 (aq (Z ⟨B.g,0,I⟩)) rfl a ?_;try simp only[aA,pqq]
 refine fS 1 (ae (Z ⟨bk,o,I⟩) 3 c) rfl a ?_;simp only[aA,pqq]
 refine fS 2 (aq (Z ⟨bk,o,I⟩)) rfl a ?_;simp only[aA,pqq]
 refine fS 3 (J V 0) rfl a ?_ (hy:=λW d=>by have q:W.cell? ⟨bk,o,I⟩=Z (J V 0):=d 0 _ rfl;go_simp);simp only[aA,pqq]
 refine fS 4 (ae (Z ⟨bk,o,I⟩) 3 c) rfl a ?_;simp only[aA,pqq]
 refine fS 5 (aq (Z ⟨bk,o+1,I⟩)) rfl a ?_;simp only[aA,pqq]
 refine fS 6 (J V 0) rfl a ?_ (hy:=λW d=>by have q:W.cell? ⟨bk,o+1,I⟩=Z (J V 0):=d 1 _ rfl;go_simp);simp only[aA,pqq]
 refine fS 7 (ae (Z ⟨bk,o,I⟩) 3 c) rfl a ?_;simp only[aA,pqq]
 refine fS 8 (aq (Z ⟨bk,o+2,I⟩)) rfl a ?_;simp only[aA,pqq]
 refine fS 9 (J V 0) rfl a ?_ (hy:=λW d=>by have q:W.cell? ⟨bk,o+2,I⟩=Z (J V 0):=d 2 _ rfl;go_simp);simp only[aA,pqq]
 refine cH (rs:=[10]) cC dt ?_;refine bH rfl (λK s=>?_) cy;rw[if_pos jP];go_simp;go_at_call 40;refine u.O.mono ?_;rintro e w2 ⟨B',rfl,hR,n⟩;dsimp only;have h2:nG w2 bk o [0,0,0]:=λj x m=>dD n.fr f (a j x m);refine s.out _ _ h2 (λy=>?_);clear y s K;try simp only[aA,pqq]
 refine fS 11 (J V 0) rfl h2 ?_;simp only[aA,pqq]
 refine gV cC ?_ _;obtain⟨A,HS⟩:=bu (hR.mono (M':=N+1) z) (l.O.trans n);clear hR n h2 a;go_wp2_with fail;go_ret;exact⟨B',rfl,A.O,HS.O⟩
def PH{B:RB}{N:Nat}{w:aw}(h:aL w B M.s3 N)(p bk o c:Nat)(hp:aK w p 180 #[aq (Z ⟨B.g,0,I⟩)])(H:N<=500000)(t:nG w bk o [7,1,9]) :
  aF af 139 #[aq (Z ⟨p,0,I⟩),.string ⟨#[107,101,121]⟩,ae (Z ⟨bk,o,I⟩) 3 c] w (vQ B w M.s4 (N+1) ⟨#[]⟩):=by
 have v:=hp.cell 0;simp at v;obtain⟨y,A⟩:=bu h t;clear h hp t;go_enter func139,ntmps139;go_upto_region 18 with fail;have hm:∀W r,aC w W->aK W r 5 #[J bI 16,J bI 0]->aF af 203 #[ae (Z ⟨bk,o,I⟩) 3 c,ae (Z ⟨r,0,I⟩) 2 2] W λe w'=>(∃s:Sl,e=av (ae s.a s.n s.c)/\s.B w' M.dg)/\aC W w':=λW r b C =>
  JG bk o c 7 1 9 ⟨Z ⟨r,0,I⟩,2,2⟩ [16,0] W (λj x D=>aM b (A.O j x D)) ⟨⟨rfl,aR,λ_=>⟨r,0,_,rfl,C,λi hi=>by
   rcases i with _|_|i
   ·rfl
   ·rfl
   ·simp only at hi;omega⟩⟩,aj _,(ui:2<=maxLen),λq=>by cases q⟩ aR aR aR aR
 have d:=hm (w.alloc (.cells #[J bI 16,J bI 0] 5)) w.heap.size ((ao _ w).alloc (aj _) _) (aK.newAt _ _ _ _ rfl);have E:=au d;clear hm d;go_wp2_with (first
  |(go_at_call 203;refine E.O.mono ?_;rintro e w2 ⟨⟨s,rfl,f⟩,b2⟩;have b3:=((ao w.heap.size w).alloc (aj _) (.cells #[J bI 16,J bI 0] 5)).trans (b2.mono dt);have k:s.n=14:=(by rw[<-f.tl.1,M.QG];rfl);have l:=tO (y.O.below b3) s M.dg (.of f) z z;rw[M.Q9]at l;have F:=au l;have m:=au b3;clear l f b2 b3 k)
  |(go_at_call 26;refine F.O.mono ?_;rintro e w4 ⟨B',rfl,hR,u⟩;have G:=au hR;have HS:=au ((fK.fN B m.O).trans u);clear hR u))
 go_ret;exact⟨B',rfl,G.O,HS.O⟩
def Ob{B:RB}{N:Nat}{w:aw}(h:aL w B M.s4 N)(p:Nat)(hp:aK w p 180 #[aq (Z ⟨B.g,0,I⟩)])(a:¬B.all p)(f:N<=500000)(bk o c:Nat)(b:nG w bk o [1]) :
  aF af 139 #[aq (Z ⟨p,0,I⟩),.string ⟨#[116,117,114,110]⟩,ae (Z ⟨bk,o,I⟩) 1 c] w (vQ B w M.s5 (N+45) ⟨#[53]⟩):=by
 have ht:=IZ h p hp a f bk o c (b 0 _ rfl);have i:=hp.cell 0;simp at i;have j:=au ht;clear ht h hp a b;go_enter func139,ntmps139;go_wp2_with (go_at_call 205;refine j.O.mono ?_;rintro e w2 ⟨B',rfl,hR,d⟩;have k:=au hR;have HS:=au d;clear hR d);go_ret;exact⟨B',rfl,k.O,HS.O⟩
def MO{B:RB}{N:Nat}{w:aw}(h:aL w B M.s5 N)(p:Nat)(hp:aK w p 180 #[aq (Z ⟨B.g,0,I⟩)])(d:N<=500000)(he:Env w)(bk o c:Nat)(a:nG w bk o [0]) :
  aF af 139 #[aq (Z ⟨p,0,I⟩),.string ⟨#[119,114,111,116,101]⟩,ae (Z ⟨bk,o,I⟩) 1 c] w (vQ B w M.s5 N answer):=by
 have ht:=FA h p hp d he bk o c (a 0 _ rfl);have f:=hp.cell 0;simp at f;obtain⟨i,j⟩:=bu ht h;clear ht h hp a he;go_enter func139,ntmps139;go_wp2_with (go_at_call 205;refine i.O.mono ?_;rintro e w2 ⟨rfl,b2⟩;have b:=au b2;clear b2);go_ret;exact⟨B,rfl,j.O.below b.O,fK.fN B b.O⟩
def mr(w:aw)(g o:Nat)(ws:List ByteArray):Prop:=∀(j:Nat) x,ws[j]? = Z x->w.cell? ⟨g,o+j,I⟩=Z (.string x)
def mr.below{w w':aw}{g o:Nat}{ws:List ByteArray}(h:mr w g o ws)(b:aC w w'):mr w' g o ws:=λj x a=>aM b (h j x a)
def Iy{w:aw}{base:Nat}{v:Value}{ws:List ByteArray}{ns:List Int}(h:w.ownsRow base 3 1 v ws.length (ws.map λx=>J V (numOf x.data.toList)))(b:ws.map (λx=>numOf x.data.toList)=ns)(hp:0<ws.length) :
  ∃g c,v=ae (Z ⟨g,0,I⟩) ws.length c/\nG w g 0 ns/\base<=g/\g<w.heap.size:=by
 obtain⟨g,c,rfl⟩:=Joins.ownsRow_form h hp;obtain⟨e,f⟩:=h.lt g rfl;refine⟨g,c,rfl,λj x a=>?_,e,f⟩;have i:j<ns.length:=(aS.1 a).1;have k:ns.length=ws.length:=by rw[<-b,List.length_map]
 rw[cO,h.cellAt j z];rw[<-b,dE]at a;rw[dE];cases d:ws[j]? with
 |none=>rw[d]at a;cases a
 |some y=>rw[d]at a;simp at a;simp[a]
def JK{w:aw}(p:Nat)(hp:aK w p 180 #[aq I])(g o c:Nat)(hw:mr w g o Sc.w0)(Tf:7<=c) :
  aF af 78 #[aq (Z ⟨p,0,I⟩),ae (Z ⟨g,o,I⟩) 7 c] w λe w'=>∃B:RB,e=av (.string ⟨#[111,107]⟩)/\aL w' B M.s0 0/\(∀i,B.all i->w.heap.size<=i)/\aK w' p 180 #[aq (Z ⟨B.g,0,I⟩)]/\Fr (One p) w w':=by
 have Tg:∀(fn:Fn) (first cap:Array Value) (w:aw),(Instr.makeFunc fn first cap).run af w=.ok (.func fn first cap) w:=λ_ _ _ _=>rfl;obtain⟨H,L⟩:=bu hp hw;have Ti:¬c=1:=z;have Tj:¬c<1:=z;have Tk:=hp.lt;clear hp hw;go_enter_defers func78,ntmps78;go_upto_region 1 with fail;obtain⟨r4,N⟩:=dH w.heap.size;rw[<-N];have P:w.heap.size<=r4:=z;refine aW (λX=>aK X r4 9 #[.string ⟨#[]⟩]/\aC w X) ⟨aK.newAt _ _ _ _ N,(ao _ w).alloc (aj _) _⟩ ?_;rintro X ⟨b4,F⟩;have k0:X.cell? ⟨g,o,I⟩=Z (.string ⟨#[114,111,111,109]⟩):=L.O.below F 0 _ rfl;have Tl:r4<X.heap.size:=b4.lt;obtain⟨r,a⟩:=bu b4 F;have s:X.cell? ⟨p,0,I⟩=Z (aq I):=by have t:=(H.O.kept F).cell 0;simpa using t
 have Q:=au s;clear b4 F N s;go_upto_region 3 with fail;clear k0;have HF:=au (λW:aw=>J1 W);have h:=au (λ(W:aw) (b:aC X W)=>xY ⟨#[110,110,110,110,110,110]⟩ g (o+1) (c-1) Sc.w0.tail W (λj x hx=>by
  have t:=L.O.below (a.O.trans (b.mono a.O.size)) (j+1) x (by simpa using hx)
  rw[show o+1+j=o+(j+1) by omega];exact t) (by have:=uc (L.O 0 _ rfl);have:=a.O.size;have:=b.size;omega) rfl aR aR)
 refine wp_region_noPanic ?_;refine fC (S:=λW=>aC X W) cC (eW (ao _ _)) (λd=>?_);refine fS 0 (.string ⟨#[114,111,111,109]⟩) rfl d ?_;try simp only[aA,pqq]
 refine fS 2 (ae (Z ⟨g,o,I⟩) 7 c) rfl d ?_;simp only[aA,pqq]
 refine fS 3 (ae (Z ⟨g,o+1,I⟩) 6 (c-1)) rfl d ?_;simp only[aA,pqq]
 refine cH (rs:=[1]) cC dt ?_;refine bH rfl (λK y=>?_) cy;rw[if_pos jP];go_simp;go_at_call 138;refine(HF.O _).mono ?_;rintro e w2 ⟨rfl,rfl⟩;dsimp only;refine y.out _ _ d (λR=>?_);clear R y K;try simp only[aA,pqq]
 refine cH (rs:=[4]) cC dt ?_;refine bH rfl (λK y=>?_) cy;rw[if_pos jP];go_simp;go_at_call 137;refine(h.O _ d).mono ?_;rintro e w3 ⟨v,rfl,hv,b3⟩;dsimp only;have h3:aC X w3:=d.trans (b3.mono d.size);obtain⟨g5,c5,rfl,A,Tm,Tn⟩:=Iy (ns:=[2,2,1,1,2,1]) hv aR aR;refine y.out _ _ h3 (λR=>?_);clear R y K;try simp only[aA,pqq]
 refine fS 5 (ae (Z ⟨g5,0,I⟩) Sc.w0.tail.length c5) rfl h3 ?_;simp only[aA,pqq]
 refine gV cC ?_ _;refine NoPanic.normal ?_;have To:X.heap.size<=g5:=by have:=d.size;omega
 have l:=a.O.trans (h3.mono a.O.size);have m:=H.O.kept l;have c0:=m.cell 0;simp at c0;have C:=r.O.kept h3;have D:=Od p g5 0 c5 w3 m (lE a.O.size) A;obtain⟨T,n,E⟩:=bU D l C;clear D l C m A hv h3 b3 h HF Q d r;go_wp2_with (go_at_call 139;refine T.O.mono ?_;rintro e G ⟨B,rfl,hR,hL,hP,u⟩;have b4:=E.O.dW u (λq=>by have:r4=p:=q;omega);have q4:=b4.cell 0;have f4:=b4.frozen 0;simp at q4;have HR:=au hR;have HL:=au hL;have U:=au hP;have HU:=au u;have k:=au b4;clear hR hL hP u b4);refine leaves_cons (f:=135) (args:=#[aq (Z ⟨r4,0,I⟩)]) dt (by simp[go_sem]) ?_;refine(vJ ⟨r4,0,I⟩ _).mono ?_;rintro e u' Tp ⟨rfl,rfl,rfl⟩;have Y:(G.setCell ⟨r4,0,I⟩ (.string ⟨#[111,107]⟩)).cell? ⟨r4,0,I⟩=Z (.string ⟨#[111,107]⟩):=by have t:=(k.O.bC 0 (.string ⟨#[111,107]⟩)).cell 0;simpa using t
 simp[Go.Leaves,settle,aV,results78,go_sem,Y];have f9:Fr (One r4) G (G.setCell ⟨r4,0,I⟩ (.string ⟨#[111,107]⟩)):=(Fr.refl (One r4) _).setCell k.O (.inl rfl) aR aR 0 _;have Tq:=n.O.size;have f3:Fr (One p) w G:=(Fr.bn n.O).trans (Fr.nY HU.O (ts:=[180]) (λi hi=>by cases hi;exact⟨180,_,dt,H.O.kept n.O⟩) aR aR);exact⟨B,HR.O.fr f9 (λi hi q=>by have:=HL.O i hi;rw[show i=r4 from q]at this;omega),λi hi=>by have:=HL.O i hi;omega,U.O.dW f9.u (λq=>by have:p=r4:=q;omega),f3.step f9 (λi q=>by right;rw[show i=r4 from q];exact P)⟩
def uT{B:RB}{R R':M.Room}{N N':Nat}{w:aw}(D L more Fk:ByteArray)(wt:List ByteArray)(ns:List Int)(m:Nat)(hm:wt.length=m)(Tn:(D.toList==[114,111,111,109])=false)(E:∀W,aF af 138 #[.string D] W λe w'=>e=av (.string L)/\w'=W)
  (hf:L.size=wt.length) (hl:wt.length<=100) (To:∀(j:Nat) (h:j<L.size) x,wt[j]? = Z x->Iz L[j] x=true) (Tp:wt.map (λx=>numOf x.data.toList)=ns) (Q:0<wt.length)
  (T:more=⟨#[]⟩/\Fk=⟨#[111,107]⟩\/(more.toList.isEmpty=false/\more.size<=100)/\Fk=⟨#[111,107,32]⟩++more) (h:aL w B R N) (p:Nat) (hp:aK w p 180 #[aq (Z ⟨B.g,0,I⟩)])
  (r:∀W g5 c5,aC w W->w.heap.size<=g5->nG W g5 0 ns->aF af 139 #[aq (Z ⟨p,0,I⟩),.string D,ae (Z ⟨g5,0,I⟩) m c5] W (vQ B W R' N' more))
  (g o c:Nat) (hw:mr w g o (D::wt)) (Tv:m+1<=c) :
  aF af 78 #[aq (Z ⟨p,0,I⟩),ae (Z ⟨g,o,I⟩) (m+1) c] w λe w'=>∃B',e=av (.string Fk)/\aL w' B' R' N'/\fK w w' B B':=by
 have Tw:∀(fn:Fn) (first cap:Array Value) (w:aw),(Instr.makeFunc fn first cap).run af w=.ok (.func fn first cap) w:=λ_ _ _ _=>rfl;obtain⟨HP,HW⟩:=bu hp hw;have Tx:¬c=1:=z;have Ty:¬c<1:=z;have U:=au r;have Tq:=h.lt;have Tz:¬((m:Int)+1<1):=z;have TA:¬D.toList=[114,111,111,109]:=by simpa using Tn
 have TC:=hp.lt;clear hp hw r h;go_enter_defers func78,ntmps78;go_upto_region 1 with fail;obtain⟨r4,e4⟩:=dH w.heap.size;rw[<-e4];have Y:w.heap.size<=r4:=z;refine aW (λX=>aK X r4 9 #[.string ⟨#[]⟩]/\aC w X) ⟨aK.newAt _ _ _ _ e4,(ao _ w).alloc (aj _) _⟩ ?_;rintro X ⟨b4,bX⟩;have k0:X.cell? ⟨g,o,I⟩=Z (.string D):=HW.O.below bX 0 _ rfl;have TD:r4<X.heap.size:=b4.lt;obtain⟨Tf,n⟩:=bu b4 bX;have Tg:X.cell? ⟨p,0,I⟩=Z (aq (Z ⟨B.g,0,I⟩)):=by have F:=(HP.O.kept bX).cell 0;simpa using F
 have Ts:=au Tg;clear b4 bX e4 Tg;go_upto_region 3 with fail;clear k0;have HF:=au E;have s:=au (λ(W:aw) (b:aC X W)=>xY L g (o+1) (c-1) wt W (λj x hx=>by
  have F:=HW.O.below (n.O.trans (b.mono n.O.size)) (j+1) x (by simpa using hx)
  rw[show o+1+j=o+(j+1) by omega];exact F) (by have:=uc (HW.O 0 _ rfl);have:=n.O.size;have:=b.size;omega) hf hl To)
 rw[hm]at s;refine wp_region_noPanic ?_;refine fC (S:=λW=>aC X W) cC (eW (ao _ _)) (λy=>?_);refine fS 0 (.string D) rfl y ?_;try simp only[aA,pqq]
 refine fS 2 (ae (Z ⟨g,o,I⟩) (m+1) c) rfl y ?_;simp only[aA,pqq]
 refine fS 3 (ae (Z ⟨g,o+1,I⟩) m (c-1)) rfl y ?_;simp only[aA,pqq]
 refine cH (rs:=[1]) cC dt ?_;refine bH rfl (λK hK=>?_) cy;rw[if_pos jP];go_simp;go_at_call 138;refine(HF.O _).mono ?_;rintro e w2 ⟨rfl,rfl⟩;dsimp only;refine hK.out _ _ y (λhq=>?_);clear hq hK K;try simp only[aA,pqq]
 refine cH (rs:=[4]) cC dt ?_;refine bH rfl (λK hK=>?_) cy;rw[if_pos jP];go_simp;go_at_call 137;refine(s.O _ y).mono ?_;rintro e w3 ⟨v,rfl,hv,b3⟩;dsimp only;have h3:aC X w3:=y.trans (b3.mono y.size);rw[<-hm]at hv;obtain⟨g5,c5,rfl,Ti,TE,TF⟩:=Iy hv Tp Q;rw[hm];refine hK.out _ _ h3 (λhq=>?_);clear hq hK K;try simp only[aA,pqq]
 refine fS 5 (ae (Z ⟨g5,0,I⟩) m c5) rfl h3 ?_;simp only[aA,pqq]
 refine gV cC ?_ _;refine NoPanic.normal ?_;have TG:X.heap.size<=g5:=by have:=y.size;omega
 have A:=n.O.trans (h3.mono n.O.size);have Tj:=HP.O.kept A;have c0:=Tj.cell 0;simp at c0;have Tk:=Tf.O.kept h3;have r:=U.O w3 g5 c5 A (lE n.O.size) Ti;obtain⟨Tl,Tm,l⟩:=bU r A Tk;have C:¬B.all r4:=λq=>by have:=Tq r4 q;omega
 clear r A Tk Tj Ti hv h3 b3 s HF Ts y Tf;rcases T with⟨rfl,rfl⟩ | ⟨⟨TH,TI⟩,rfl⟩
 ·go_wp2_with (go_at_call 139;refine Tl.O.mono ?_;rintro e G ⟨B',rfl,hR,a⟩;have b4:=l.O.dW a.fr.u C;have q4:=b4.cell 0;have f4:=b4.frozen 0;simp at q4;have t:¬B'.all r4:=(λq=>by rcases a.own r4 q with k|k;exact C k;have:=l.O.lt;omega);have HR:=au hR;have HS:=au a;have d:=au b4;clear hR a b4);refine leaves_cons (f:=135) (args:=#[aq (Z ⟨r4,0,I⟩)]) dt (by simp[go_sem]) ?_;refine(vJ ⟨r4,0,I⟩ _).mono ?_;rintro e u' Tt ⟨rfl,rfl,rfl⟩;have H:(G.setCell ⟨r4,0,I⟩ (.string ⟨#[111,107]⟩)).cell? ⟨r4,0,I⟩=Z (.string ⟨#[111,107]⟩):=by have F:=(d.O.bC 0 (.string ⟨#[111,107]⟩)).cell 0;simpa using F
  simp[Go.Leaves,settle,aV,results78,go_sem,H];have f9:Fr (One r4) G (G.setCell ⟨r4,0,I⟩ (.string ⟨#[111,107]⟩)):=(Fr.refl (One r4) _).setCell d.O (.inl rfl) aR aR 0 _;have a:=(fK.fN B Tm.O).trans HS.O;exact⟨B',HR.O.fr f9 (λi hi q=>t ((show i=r4 from q) ▸ hi)),a.g,a.fr.step f9 (λi q=>by right;rw[show i=r4 from q];exact Y),a.own⟩
 ·have Tu:=λW:aw=>run_string_add (P:=af) W ⟨#[111,107,32]⟩ more aR z;go_wp2_with (go_at_call 139;refine Tl.O.mono ?_;rintro e G ⟨B',rfl,hR,a⟩;have b4:=l.O.dW a.fr.u C;have q4:=b4.cell 0;have f4:=b4.frozen 0;simp at q4;have t:¬B'.all r4:=(λq=>by rcases a.own r4 q with k|k;exact C k;have:=l.O.lt;omega);have HR:=au hR;have HS:=au a;have d:=au b4;clear hR a b4);refine leaves_cons (f:=135) (args:=#[aq (Z ⟨r4,0,I⟩)]) dt (by simp[go_sem]) ?_;refine(vJ ⟨r4,0,I⟩ _).mono ?_;rintro e u' Tt ⟨rfl,rfl,rfl⟩;have H:(G.setCell ⟨r4,0,I⟩ (.string (⟨#[111,107,32]⟩++more))).cell? ⟨r4,0,I⟩=Z (.string (⟨#[111,107,32]⟩++more)):=by have F:=(d.O.bC 0 (.string (⟨#[111,107,32]⟩++more))).cell 0;simpa using F
  simp[Go.Leaves,settle,aV,results78,go_sem,H];have f9:Fr (One r4) G (G.setCell ⟨r4,0,I⟩ (.string (⟨#[111,107,32]⟩++more))):=(Fr.refl (One r4) _).setCell d.O (.inl rfl) aR aR 0 _;have a:=(fK.fN B Tm.O).trans HS.O;exact⟨B',HR.O.fr f9 (λi hi q=>t ((show i=r4 from q) ▸ hi)),a.g,a.fr.step f9 (λi q=>by right;rw[show i=r4 from q];exact Y),a.own⟩
def CJ{B:RB}{N:Nat}{w:aw}(p:Nat)(h:aL w B M.s0 N)(hp:aK w p 180 #[aq (Z ⟨B.g,0,I⟩)])(d:¬B.all p)(f:N<=400000)(g o c:Nat)(hw:mr w g o Sc.w1)(a:5<=c) :
  aF af 78 #[aq (Z ⟨p,0,I⟩),ae (Z ⟨g,o,I⟩) 5 c] w λe w'=>∃B',e=av (.string ⟨#[111,107]⟩)/\aL w' B' M.s1 (N+9)/\fK w w' B B':=
 uT ⟨#[112,117,98,108,105,115,104]⟩ ⟨#[110,110,110,110]⟩ ⟨#[]⟩ ⟨#[111,107]⟩ Sc.w1.tail [0,7,8,9] 4 rfl cC CO rfl aR aR aR aR (.inl ⟨rfl,rfl⟩) h p hp (λW g c b hg n=>GO (h.below b) p g 0 c (hp.kept b) (λq=>by have:=h.lt g q;omega) z n) g o c hw a
def JL{B:RB}{N:Nat}{w:aw}(p:Nat)(h:aL w B M.s1 N)(hp:aK w p 180 #[aq (Z ⟨B.g,0,I⟩)])(d:¬B.all p)(f:N<=400000)(g o c:Nat)(hw:mr w g o Sc.w2)(a:5<=c) :
  aF af 78 #[aq (Z ⟨p,0,I⟩),ae (Z ⟨g,o,I⟩) 5 c] w λe w'=>∃B',e=av (.string ⟨#[111,107]⟩)/\aL w' B' M.s2 (N+2)/\fK w w' B B':=
 uT ⟨#[106,111,105,110]⟩ ⟨#[110,110,115,110]⟩ ⟨#[]⟩ ⟨#[111,107]⟩ Sc.w2.tail [0,50,5,100] 4 rfl cC J5 rfl aR aR aR aR (.inl ⟨rfl,rfl⟩) h p hp (λW g c b hg n=>Oe (h.below b) p g 0 c (hp.kept b) (λq=>by have:=h.lt g q;omega) z n) g o c hw a
def JJ{B:RB}{N:Nat}{w:aw}(p:Nat)(h:aL w B M.s2 N)(hp:aK w p 180 #[aq (Z ⟨B.g,0,I⟩)])(d:¬B.all p)(f:N<=400000)(g o c:Nat)(hw:mr w g o Sc.w3)(a:4<=c) :
  aF af 78 #[aq (Z ⟨p,0,I⟩),ae (Z ⟨g,o,I⟩) 4 c] w λe w'=>∃B',e=av (.string ⟨#[111,107]⟩)/\aL w' B' M.s3 (N+1)/\fK w w' B B':=
 uT ⟨#[116,97,107,101]⟩ ⟨#[110,110,110]⟩ ⟨#[]⟩ ⟨#[111,107]⟩ Sc.w3.tail [0,0,0] 3 rfl cC J0 rfl aR aR aR aR (.inl ⟨rfl,rfl⟩) h p hp (λW g c b hg n=>Oc (h.below b) p g 0 c (hp.kept b) (λq=>by have:=h.lt g q;omega) z n) g o c hw a
def LV{B:RB}{N:Nat}{w:aw}(p:Nat)(h:aL w B M.s3 N)(hp:aK w p 180 #[aq (Z ⟨B.g,0,I⟩)])(d:¬B.all p)(f:N<=400000)(g o c:Nat)(hw:mr w g o Sc.w4)(a:4<=c) :
  aF af 78 #[aq (Z ⟨p,0,I⟩),ae (Z ⟨g,o,I⟩) 4 c] w λe w'=>∃B',e=av (.string ⟨#[111,107]⟩)/\aL w' B' M.s4 (N+1)/\fK w w' B B':=
 uT ⟨#[107,101,121]⟩ ⟨#[110,115,110]⟩ ⟨#[]⟩ ⟨#[111,107]⟩ Sc.w4.tail [7,1,9] 3 rfl cC ME rfl aR aR aR aR (.inl ⟨rfl,rfl⟩) h p hp (λW g c b hg n=>PH (h.below b) p g 0 c (hp.kept b) z n) g o c hw a
def JI{B:RB}{N:Nat}{w:aw}(p:Nat)(h:aL w B M.s4 N)(hp:aK w p 180 #[aq (Z ⟨B.g,0,I⟩)])(a:¬B.all p)(f:N<=400000)(g o c:Nat)(hw:mr w g o Sc.w5)(d:2<=c) :
  aF af 78 #[aq (Z ⟨p,0,I⟩),ae (Z ⟨g,o,I⟩) 2 c] w λe w'=>∃B',e=av (.string ⟨#[111,107,32,53]⟩)/\aL w' B' M.s5 (N+45)/\fK w w' B B':=
 uT ⟨#[116,117,114,110]⟩ ⟨#[116]⟩ ⟨#[53]⟩ ⟨#[111,107,32,53]⟩ Sc.w5.tail [1] 1 rfl cC JZ rfl aR aR aR aR (.inr ⟨⟨cC,aR⟩,cC⟩) h p hp (λW g c b hg n=>Ob (h.below b) p (hp.kept b) a z g 0 c n) g o c hw d
def Gs{B:RB}{N:Nat}{w:aw}(p:Nat)(h:aL w B M.s5 N)(hp:aK w p 180 #[aq (Z ⟨B.g,0,I⟩)])(d:¬B.all p)(f:N<=400000)(he:Env w)(g o c:Nat)(hw:mr w g o Sc.w6)(a:2<=c) :
  aF af 78 #[aq (Z ⟨p,0,I⟩),ae (Z ⟨g,o,I⟩) 2 c] w λe w'=>∃B',e=av (.string ⟨#[111,107,32,48,58,53,58,49,48,48]⟩)/\aL w' B' M.s5 (N+0)/\fK w w' B B':=
 uT ⟨#[119,114,111,116,101]⟩ ⟨#[110]⟩ ⟨#[48,58,53,58,49,48,48]⟩ ⟨#[111,107,32,48,58,53,58,49,48,48]⟩ Sc.w6.tail [0] 1 rfl cC GK rfl aR aR aR aR (.inr ⟨⟨cC,aR⟩,cC⟩) h p hp (λW g c b hg n=>MO (h.below b) p (hp.kept b) z (he.below b) g 0 c n) g o c hw a
section
namespace Sc
def SR:Nat->M.Room
 |0=>M.s0
 |1=>M.s1
 |2=>M.s2
 |3=>M.s3
 |4=>M.s4
 |_=>M.s5
def Sa:∀k,Nl (SR k)
 |0=>Ri
 |1=>Rf
 |2=>Rc
 |3=>Ra
 |4=>Q8
 |_+5=>QX
def Fk:Nat->ByteArray
 |5=>⟨#[111,107,32,53]⟩
 |6=>⟨#[111,107,32,48,58,53,58,49,48,48]⟩
 |_=>⟨#[111,107]⟩
def ws:Nat->List ByteArray
 |0=>w0
 |1=>w1
 |2=>w2
 |3=>w3
 |4=>w4
 |5=>w5
 |_=>w6
def ln:Nat->ByteArray
 |0=>l0
 |1=>l1
 |2=>l2
 |3=>l3
 |4=>l4
 |5=>l5
 |_=>l6
def fF:Nat->List UInt8
 |0=>[]
 |k+1=>fF k++(Fk k).data.toList++[10]
end Sc
def Hv(w:aw)(base p b gl:Nat):Nat->Prop
 |0=>aK w p 180 #[aq I]
 |k+1=>∃B:RB,aL w B (Sc.SR k) (100*k)/\aK w p 180 #[aq (Z ⟨B.g,0,I⟩)]/\∀i,B.all i->base<=i/\i≠p/\i≠b/\i≠gl
def aL.ni{w:aw}{B:RB}{R:M.Room}{N:Nat}(h:aL w B R N):vP w B.all:=λi ⟨X,hi⟩=>(h.part X).ni i hi
structure KJ(w0:aw)(p b gl:Nat)(w:aw)(k:Nat)(t:List UInt8):Prop where
 st:Hv w w0.heap.size p b gl k
 OR:yA w w0.heap.size b t
 lines:aK w gl 9 (Sc.lines.map jA).toArray
 env:Env w
 fN:aC w0 w
 lo:w0.heap.size<=p/\w0.heap.size<=b/\w0.heap.size<=gl
 ne:p≠b/\gl≠p/\gl≠b
section
variable {w0 w w':aw} {p b gl k:Nat} {t:List UInt8}
def yA.fr{F:Nat->Prop}{base:Nat}(h:yA w base b t)(f:Fr F w w')(a:¬F b)(hm:vP w F):yA w' base b t:=by
 obtain⟨c,v,h1,h2,h3,h4⟩:=h;refine⟨c,v,h1,h2.dW f.u a,h3,h4.dW f.u λi hi q=>?_⟩;obtain⟨cs,d⟩:=h4.PL hi;exact(hm i q).ne d (.inl rfl) rfl
def Hv.below{base:Nat}:∀{k:Nat},Hv w base p b gl k->aC w w'->Hv w' base p b gl k
 |0,h,u=>aK.kept h u
 |k+1,h,u=>by obtain⟨B,h1,h2,h3⟩:=h;exact⟨B,h1.below u,h2.kept u,h3⟩
def KJ.below(h:KJ w0 p b gl w k t)(u:aC w w'):KJ w0 p b gl w' k t:=
 ⟨h.st.below u,h.OR.fr (F:=cr) (.bn u) id (vP.none _),h.lines.kept u,h.env.below u,h.fN.trans (u.mono h.fN.size),h.lo,h.ne⟩
def Env.PM(h:Env w0)(u:aC w0 w):Env w:=h.below u
def KJ.line(h:KJ w0 p b gl w k t)(he:Env w0)(D:k<7)(g o c:Nat)(hw:mr w g o (Sc.ws k))(n:(Sc.ws k).length<=c) :
  aF af 78 #[aq (Z ⟨p,0,I⟩),ae (Z ⟨g,o,I⟩) (Sc.ws k).length c] w λe w'=>e=av (.string (Sc.Fk k))/\KJ w0 p b gl w' (k+1) t:=by
 have fin:∀(B B':RB) (w':aw),aL w B (Sc.SR (k-1)) (100*(k-1))->(∀i,B.all i->w0.heap.size<=i/\i≠p/\i≠b/\i≠gl)->aK w p 180 #[aq (Z ⟨B.g,0,I⟩)] ->
   aL w' B' (Sc.SR k) (100*k)->fK w w' B B'->KJ w0 p b gl w' (k+1) t:=λB B' w' hR j l d m=>by
  have r:Below w0.heap.size w w':=m.fr.below h.fN.size λi hi=>(j i hi).1;have hp:=l.lt;have s:=h.lines.lt;have x:b<w.heap.size:=by obtain⟨y,v,_,q,_⟩:=h.OR;exact q.lt
  refine⟨⟨B',d,?_,λi hi=>?_⟩,h.OR.fr m.fr (λq=>(j b q).2.2.1 rfl) hR.ni,h.lines.dW m.fr.u (λq=>(j gl q).2.2.2 rfl),he.PM (h.fN.trans r),h.fN.trans r,h.lo,h.ne⟩
  ·rw[m.g];exact l.dW m.fr.u (λq=>(j p q).2.1 rfl)
  ·rcases m.own i hi with q|q
   ·exact j i q
   ·have:=h.fN.size;exact⟨z,z,z,z⟩
 have lt7:k=0\/k=1\/k=2\/k=3\/k=4\/k=5\/k=6:=z;rcases lt7 with rfl|rfl|rfl|rfl|rfl|rfl|rfl
 ·refine(JK p h.st g o c hw n).mono ?_;rintro e w' ⟨B,rfl,hR,A,l,f⟩;have hp:aK w p 180 #[aq I]:=h.st;have C:=hp.lt;have s:=h.lines.lt;have x:b<w.heap.size:=by obtain⟨y,v,_,q,_⟩:=h.OR;exact q.lt
  have r:Below w0.heap.size w w':=f.below h.fN.size λi hi=>by cases hi;exact h.lo.1
  refine⟨rfl,⟨B,hR,l,λi hi=>?_⟩,h.OR.fr f (λq=>h.ne.1 (by cases q;rfl)) (λi q=>by cases q;exact .cw hp aR aR),h.lines.dW f.u (λq=>h.ne.2.1 q),he.PM (h.fN.trans r),h.fN.trans r,h.lo,h.ne⟩;have:=A i hi;have:=h.fN.size;exact⟨z,z,z,z⟩
 ·obtain⟨B,a,l,j⟩:=h.st;have hR:aL w B M.s0 0:=a;refine(CJ p hR l (λq=>(j p q).2.1 rfl) aR g o c hw n).mono ?_;rintro e w' ⟨B',rfl,d,m⟩;exact⟨rfl,fin B B' w' a j l (d.mono aR) m⟩
 ·obtain⟨B,a,l,j⟩:=h.st;have hR:aL w B M.s1 100:=a;refine(JL p hR l (λq=>(j p q).2.1 rfl) aR g o c hw n).mono ?_;rintro e w' ⟨B',rfl,d,m⟩;exact⟨rfl,fin B B' w' a j l (d.mono aR) m⟩
 ·obtain⟨B,a,l,j⟩:=h.st;have hR:aL w B M.s2 200:=a;refine(JJ p hR l (λq=>(j p q).2.1 rfl) aR g o c hw n).mono ?_;rintro e w' ⟨B',rfl,d,m⟩;exact⟨rfl,fin B B' w' a j l (d.mono aR) m⟩
 ·obtain⟨B,a,l,j⟩:=h.st;have hR:aL w B M.s3 300:=a;refine(LV p hR l (λq=>(j p q).2.1 rfl) aR g o c hw n).mono ?_;rintro e w' ⟨B',rfl,d,m⟩;exact⟨rfl,fin B B' w' a j l (d.mono aR) m⟩
 ·obtain⟨B,a,l,j⟩:=h.st;have hR:aL w B M.s4 400:=a;refine(JI p hR l (λq=>(j p q).2.1 rfl) aR g o c hw n).mono ?_;rintro e w' ⟨B',rfl,d,m⟩;exact⟨rfl,fin B B' w' a j l (d.mono aR) m⟩
 ·obtain⟨B,a,l,j⟩:=h.st;have hR:aL w B M.s5 500:=a;refine(Gs p hR l (λq=>(j p q).2.1 rfl) aR h.env g o c hw n).mono ?_;rintro e w' ⟨B',rfl,d,m⟩;exact⟨rfl,fin B B' w' a j l (d.mono aR) m⟩
def KJ.wrote(h:KJ w0 p b gl w k t)(he:Env w0){l:List UInt8}(hp:yT w w0.heap.size b l w'):KJ w0 p b gl w' k l:=by
 obtain⟨n,F,⟨o,hF⟩,u⟩:=hp;have a:Below w0.heap.size w w':=u.below h.fN.size λi hi=>(hF i hi).1;have h5:∀{g:Nat} {ty:TypeId} {cs:Array Value},aK w g ty cs->ty≠5->g≠b->¬F g:=λc ht d q=>by
  rcases(hF _ q).2 with e | ⟨f,e⟩
  ·exact d e
  ·exact aK.jf c e ht rfl
 have j:Hv w' w0.heap.size p b gl k:=by
  cases k with
  |zero=>exact aK.dW (show aK w p 180 #[aq I] from h.st) u (h5 h.st aR h.ne.1)
  |succ k =>
   obtain⟨B,hR,m,c⟩:=h.st;refine⟨B,hR.jF u o (Sc.Sa k) (λi hi q=>?_),m.dW u (h5 m aR h.ne.1),c⟩;rcases(hF i q).2 with e | ⟨f,e⟩
   ·exact(c i hi).2.2.1 e
   ·exact(hR.ni i hi).ne e (.inl rfl) rfl
 exact⟨j,n,h.lines.dW u (h5 h.lines aR h.ne.2.2),he.PM (h.fN.trans a),h.fN.trans a,h.lo,h.ne⟩
end
def No(k:Nat)(o:k<7){w:aw}(he:Env w):aF af 76 #[.string (Sc.ln k)] w λe w'=>∃g c,e=av (ae (Z ⟨g,0,I⟩) (Sc.ws k).length c)/\mr w' g 0 (Sc.ws k)/\(Sc.ws k).length<=c/\aC w w':=by
 obtain⟨m,hm⟩:=he.max;have fin:∀(L:List ByteArray),0<L.length->∀(e:Ending) (w':aw),(∃v,e=av v/\w'.ownsRow w.heap.size 9 1 v L.length (L.map jA)/\aC w w')->∃g c,e=av (ae (Z ⟨g,0,I⟩) L.length c)/\mr w' g 0 L/\L.length<=c/\aC w w':=by
  rintro L i e w' ⟨v,rfl,d,b⟩;obtain⟨g,c,rfl⟩:=Joins.ownsRow_form d i;have f:L.length<=c:=by
   rcases d.2 with⟨q,_⟩ | ⟨p,cap,dx,q,_,_,l,_⟩
   ·cases q
   ·injection q with _ _ n
    subst n;exact l
  refine⟨g,c,rfl,λj x h=>?_,f,b⟩;have r:j<L.length:=(aS.1 h).1;rw[cO,d.cellAt j z,dE,h];rfl
 have lt7:k=0\/k=1\/k=2\/k=3\/k=4\/k=5\/k=6:=z;rcases lt7 with rfl|rfl|rfl|rfl|rfl|rfl|rfl
 ·have a:=oW Sc.l0 Sc.w0 Sc.Mj Sc.Mk aR aR m w hm;rw[Sc.Nv]at a;exact a.mono (fin _ aR)
 ·have a:=oW Sc.l1 Sc.w1 Sc.Mh Sc.Mi aR aR m w hm;rw[Sc.Nu]at a;exact a.mono (fin _ aR)
 ·have a:=oW Sc.l2 Sc.w2 Sc.Mf Sc.Mg aR aR m w hm;rw[Sc.Nt]at a;exact a.mono (fin _ aR)
 ·have a:=oW Sc.l3 Sc.w3 Sc.Md Sc.Me aR aR m w hm;rw[Sc.Ns]at a;exact a.mono (fin _ aR)
 ·have a:=oW Sc.l4 Sc.w4 Sc.Mb Sc.Mc aR aR m w hm;rw[Sc.Nr]at a;exact a.mono (fin _ aR)
 ·have a:=oW Sc.l5 Sc.w5 Sc.L8 Sc.Ma aR aR m w hm;rw[Sc.Nq]at a;exact a.mono (fin _ aR)
 ·have a:=oW Sc.l6 Sc.w6 Sc.L4 Sc.L7 aR aR m w hm;rw[Sc.Np]at a;exact a.mono (fin _ aR)
def PQ(k:Nat):∀x∈Lib.strCells (Sc.Fk k),x≠J bI 16:=by
 have key:∀(s:ByteArray),(∀b∈s.data.toList,b≠16)->∀x∈Lib.strCells s,x≠J bI 16:=λs c x a=>by
  unfold Lib.strCells at a;rw[List.mem_map]at a;obtain⟨b,d,rfl⟩:=a;intro e;injection e with _ e
  exact c b d (UInt8.toNat_inj.1 (by simpa using Int.ofNat.inj e))
 refine key _ ?_;unfold Sc.Fk;split<;>decide
def Fc(k:Nat):(Sc.Fk k).size<=10:=by unfold Sc.Fk;split<;>decide
def DQ:∀k,(Sc.fF k).length<=11*k
 |0=>aj _
 |k+1=>by
  have:=DQ k;have h2:=Fc k;have h3:(Sc.Fk k).data.toList.length=(Sc.Fk k).size:=rfl;unfold Sc.fF;simp only[cG,List.length_cons,List.length_nil];omega
def OS(k:Nat):0<(Sc.ws k).length:=by unfold Sc.ws;split<;>decide
def Py(k:Nat)(a:k<7):(Sc.lines.map jA).toArray[k]? = Z (.string (Sc.ln k)):=by
 have lt7:k=0\/k=1\/k=2\/k=3\/k=4\/k=5\/k=6:=z;rcases lt7 with rfl|rfl|rfl|rfl|rfl|rfl|rfl<;>rfl
abbrev said:ByteArray:=⟨#[111,107,10,111,107,10,111,107,10,111,107,10,111,107,10,111,107,32,53,10,111,107,32,48,58,53,58,49,48,48,10]⟩
def LG:(⟨(Sc.fF 7).toArray⟩:ByteArray)=said:=cC
def Lg(w:aw)(he:Env w):aF af 29 #[.string Sc.text] w λe w'=>e=av (aB #[.string said,J V 0])/\aC w w':=by
 obtain⟨m,hm⟩:=he.max;have G:=au he;have h:=λW (b:aC w W)=>Tryz.strings_Split Sc.text ⟨#[10]⟩ m W aR (aM b hm) aR;rw[Sc.Fy,Sc.Fz]at h;have s:=au h;clear he h hm;go_enter func29,ntmps29;go_upto_region 5 with fail;obtain⟨p,hp⟩:=dH (w.heap.size+1);obtain⟨b,H⟩:=dH w.heap.size;try simp only[World.size_alloc]
 rw[<-hp,<-H];have j:aC w ((w.alloc (.cells #[aq I,ae I 0 0] 178)).alloc (.cells #[aq I] 180)):=((ao _ w).alloc (aj _) _).alloc dt _;refine aW (λX=>aK X b 178 #[aq I,ae I 0 0]/\aK X p 180 #[aq I]/\aC w X) ⟨(aK.newAt _ _ _ _ H).alloc _,aK.newAt _ _ _ _ (by simp[hp]),j⟩ ?_;have d:p≠b/\w.heap.size<=p/\w.heap.size<=b:=z;clear j hp H;rintro X ⟨bB,bP,bX⟩;obtain⟨K,L,t⟩:=bU bB bP bX;clear bB bP bX;go_wp2_with (go_at_call 75;refine(s.O _ t.O).mono ?_;rintro e w2 ⟨rfl,rfl⟩);obtain⟨gl,hg⟩:=dH X.heap.size;rw[<-hg];refine aW (λTg=>KJ w p b gl Tg 0 (Sc.fF 0)) ?_ ?_
 ·have j:aC X (X.alloc (.cells (Sc.lines.map jA).toArray 9)):=(ao _ X).alloc (aj _) _;have h1:=K.O.lt;have h2:=L.O.lt;have h3:=t.O.size;refine⟨L.O.kept j,⟨I,ae I 0 0,d.2.2,K.O.kept j,.inl rfl,⟨⟨rfl,.inl ⟨rfl,rfl⟩⟩,λg cs q=>by cases q⟩⟩,aK.newAt _ _ _ _ hg,G.O.below (t.O.trans (j.mono h3)),t.O.trans (j.mono h3),⟨d.2.1,d.2.2,z⟩,d.1,z,z⟩
 clear s K L hg;rintro Tg hZ;have HZ:=au hZ;clear hZ t;go_loopw [15] (λi wr=>∃k:Nat,i=J V k/\k<=7/\KJ w p b gl wr k (Sc.fF k)) (λi _=>7-(intOf i).toNat);case atStart=>exact⟨0,rfl,z,HZ.O⟩
 case round =>
  clear HZ;obtain⟨k,rfl,hk,hR⟩:=hrel;by_cases l:k<7
  ·have Ti:((k:Int)<7):=z;have a:wr.cell? ⟨gl,k,I⟩=Z (.string (Sc.ln k)):=(hR.lines.cell k).trans (Py k l);have u:(0:Int)<((Sc.ws k).length:Int):=by have:=OS k;omega
   have M:=au (No k l hR.env);have Tj:=hR.fN.size;have Tk:=DQ k;have Tl:=Fc k;have HR:=au hR;obtain⟨ls,v⟩:=dH (Sc.ln k);rw[<-v]at a M;clear hR v;go_upto_region 10 with(go_at_call 76;refine M.O.mono ?_;rintro e w3 ⟨g,c,rfl,hW,N,b3⟩;have x:=au hW;have y:=au (HR.O.below b3);clear hW b3)
   clear a M HR u;have A:=au (y.O.line G.O l g 0 c x.O N);go_upto_region 11 with(first
    |(go_at_call 78;refine A.O.mono ?_;rintro e w4 ⟨rfl,f⟩;have P:=f.fN.size;have B:=au f;have C:=au (IP w.heap.size b (Sc.fF k) (Sc.Fk k) w4 f.OR (PQ k) z P);clear f)
    |(go_at_call 77;refine C.O.mono ?_;rintro e w5 ⟨rfl,D⟩;have n:=B.O.wrote G.O D;have Q:=n.fN.size;have E:=au n;clear D n))
   have o:=Fl w.heap.size b (Sc.fF k++(Sc.Fk k).data.toList) 10 w5 E.O.OR aR (by
    have h3:(Sc.Fk k).data.toList.length=(Sc.Fk k).size:=rfl
    rw[cG];omega) Q
   rw[show(((10:UInt8).toNat:Nat):Int)=10 from rfl]at o;have R:=au o;clear o A C B y x;go_wp2_with (go_at_call 79;refine R.O.mono ?_;rintro e w6 ⟨rfl,F⟩;have S:=au (E.O.wrote G.O F);clear F);go_roundw;case rel=>exact⟨k+1,by go_num,z,S.O⟩
   case measure=>simp[intOf];omega
  ·have T:k=7:=z;subst T;have r:=Og w.heap.size b (Sc.fF 7) wr hR.OR hR.fN.size;rw[LG]at r;obtain⟨U,Y⟩:=bu r hR.fN;clear r hR;go_wp2_with (go_at_call 80;refine U.O.mono ?_;rintro e w3 ⟨rfl,b3⟩;have Tf:=au b3;clear b3);refine bodyPost_ret (results_tmp2 rfl _ _ _) rfl ?_;exact⟨rfl,Y.O.trans Tf.O⟩
def BO(w:aw)(he:Env w):aF af 8 #[] w λe w'=>e=av (ai true)/\aC w w':=by
 have hr:=Lg w he;have a:=au hr;clear hr he;go_enter func8,ntmps8;go_wp2_with (go_at_call 29;refine a.O.mono ?_;rintro e w2 ⟨rfl,b2⟩;have b:=au b2;clear b2);go_ret;exact⟨rfl,b.O⟩
end
end Go.Proofs.YtkfblammcilfhaaGreatDoor
