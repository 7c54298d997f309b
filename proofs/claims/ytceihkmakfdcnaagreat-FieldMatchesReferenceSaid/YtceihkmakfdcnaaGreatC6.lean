/- Own work; no condition. -/
import Derived.Test.YtceihkmakfdcnaaGreatProg
import Derived.KernelRfl
import Derived.Test.YtceihkmakfdcnaaGreatC5
import Derived.Test.YtceihkmakfdcnaaGreatC4
import Derived.Test.YtceihkmakfdcnaaGreatC2
import Derived.Test.YtceihkmakfdcnaaGreatC1
set_option linter.all false
set_option maxHeartbeats 16000000
set_option maxRecDepth 100000
open Array renaming replicate->sD
open Bool renaming false->ah,true->ae
open Go renaming Program->bW,FuncId->jB,Value->aT,World->cJ,Oper->a8,Code->fJ,TypeId->eI
open Go.Act renaming put->iK
open Go.Deferred renaming ofValue->zs
open Go.El renaming iJ->o,bI->h,jz->w,NB->F
open Go.Instr renaming sliceBounds->yY
open Go.IntKind renaming wrap->ax,signed->KR
open Go.Proofs.Tryz renaming prog->O
open Go.Region renaming wanted->iv
open Go.World renaming putObj_heap_other->DR,putObj_heap_same->VC,alloc_heap_new->VO
open Int renaming toNat->af
open List renaming length->Z,replicate->bx,drop->az,getD->I,range->bJ,range'->KB,take->r
open Nat renaming ble->fa,blt->dZ,strongRecOn->Ky
open Option renaming some->ad
open _root_ renaming Nat->G,List->E,Int->V
namespace Go.El
open Go Go.Proofs Go.RowKit
noncomputable def aee(f:TT)(a:Func)(dep:G)(g:AV):jE SR->Bool
 | .dQ s=>(match G5 f dep a.ntmps s.t s.ms a.results.toList with
  |some b=>DG (λd=>o d s.ms.flatten) b g
  |none=>ah)
 | .ret s=>(match G5 f dep a.ntmps s.t s.ms a.results.toList with
  |some b=>DG (λd=>o d s.ms.flatten) b g
  |none=>ah)
 |_=>ah
noncomputable def VT(P:bW)(b:TT)(a:jB->E AV->Ms->Option (E AV×AV))(d g i:G)(f:jB)(vs:E AV)(k:AV):Bool:=match P.funcs[f]? with
 |some fn=>(match fn.body with
  |some c=>(match fn.name != "runtime.NumGoroutine" &&fa (Z vs) fn.ntmps&&fa fn.ntmps 4096 with
   |true=>aee b fn (fH fn.ntmps) k<|gen (Pg P b a d g (fH fn.ntmps) fn.ntmps) (Ph (fH fn.ntmps) fn.ntmps) i c ⟨oO (fH fn.ntmps) vs 0 .e,[[]],0⟩
   |false=>ah)
  |none=>ah)
 |none=>ah
section
variable{P:bW}{tt:TT}{eK:jB->E AV->Ms->Option (E AV×AV)}
def VU{n:Func}{a:Array aT}{p:Ending->cJ->Prop}{B:G}:∀(mk:E G)(W:cJ),(∀D∈mk,W.heap[D]? =ad (.deferred<|ad [])/\B<=D)->mk.Nodup->
  (∀d,WX B W d->∃v,(results n a).run P d= .ok v d/\p (.returned v) d)->LeavesInM (dP none) 0 P n a p (mk.map kK) .returning W
 |[],W,_,_,g=>g W<|WX.refl _ _
 |D::mk,W,hm,f,g=>by
  have i:=hm D au;refine⟨au,.inl ⟨D,_,J,run_takeDeferred i.1,VU mk _ (λk b=>⟨?_,(hm k<|by simp[b]).2⟩) (AT.1 f).2<|λd l=>g d<|(WX.putObj (B:=B) (.deferred none) i.1 J i.2).trans l⟩⟩;have m:k≠D:=λe=>(AT.1 f).1<|e▸b
  rw[DR m];exact(hm k<|by simp[b]).1
def aef(lu:P.follows .mixedOrders=ae)(cK:cE P tt=ae)(By:∀f vs ms oc a7,eK f vs ms=ad (oc,a7)->w P f oc a7) fu fy fr{f}{a}{dU}(hf:P.funcs[f]? =ad a)(hb:a.body=ad dU)(qY:(a.name != "runtime.NumGoroutine")=ae){vs}(hle:Z vs<=a.ntmps)(iu:a.ntmps<=4096)
  {s:SR} {rr:jE SR} (jL:gen (Pg P tt eK fu fy (fH a.ntmps) a.ntmps) (Ph (fH a.ntmps) a.ntmps) fr dU ⟨oO (fH a.ntmps) vs 0 .e,[[]],0⟩=rr) (hrr:rr= .dQ s\/rr= .ret s) {a7}(hr:G5 tt (fH a.ntmps) a.ntmps s.t s.ms a.results.toList=ad a7) (hm:cX vs=[]):CX P f vs [] 0 a7 s.ms.flatten s.k:=by
 refine⟨zc,bg _,?_⟩
 intro F g W C hn lA Q
 have hn4:a.ntmps<=4^fH a.ntmps:=Vl iu
 refine callsIn_wide.1<|callsIn_of_wp_marks (n:=0) (F:=dP none) hf hb j ?_
 have hds:F.ds=[]:=Q.defers.symm
 have h:(C.toArray++sD (a.ntmps-C.toArray.size) undef).size=a.ntmps:=cd
 have E:∀d v,(bA (fH a.ntmps) a.ntmps (oO (fH a.ntmps) vs 0 .e) []).kn (.s d)=ad (.v v)->o d (dT 0 vs)=ad v:=by
  intro d v p;rw[GJ]at p;simp only at p;by_cases G:d<a.ntmps
  .rw[q G,DO _ vs 0 .e d Y Y,Bl]at p;cases hl:o d (dT 0 vs)with
   |none=>rw[hl]at p;simp at p
   |some x=>rw[hl]at p;simp only[xK,aq,Info.v.injEq]at p;rw[p]
  .rw[y G]at p;simp at p
 have h0:aR {F with n:=a.ntmps,ds:=[].map kK,rd:=none} (·<0) (bA (fH a.ntmps) a.ntmps (oO (fH a.ntmps) vs 0 .e) ([[]]:Ms).flatten).kn g W {tmps:=C.toArray++sD (a.ntmps-C.toArray.size) undef,defers:=[]}:=by
  refine⟨h,J,λd v p=>?_,λi b hb=>?_,λi I b b' kk L=>?_,λT x l i z=>?_,λi x l=>?_,Q.sub,Q.below,Q.le,Q.fresh,Q.fT⟩
  .have hl:=E d v p;have jK:=(Bx vs 0 d v hl).1;have:(C.toArray++sD (a.ntmps-C.toArray.size) undef).getD d undef=C.toArray.getD d undef:=by rw[l7,l7,uW cd]
   rw[this];exact Q.dW d v Df
  .simp[bA,St.kn,o]at hb
  .simp[bA,St.kn,o]at L
  .cases T with
   |m d=>simp[bA,St.kn,o]at l
   |s d=>
    cases x with
    |b _=>simp[bA,St.kn]at l
    |v V=>
     have:=(Bx vs 0 d V<|E d V l).2 i z
     rw[hm]at this
     cases this
  .simp[bA,St.kn,o]at l
 have M:eV (fH a.ntmps) a.ntmps (oO (fH a.ntmps) vs 0 .e) 0:=by
  intro d v p hv i z;rw[DO _ vs 0 .e d Y Y,Bl]at hv;split at hv
  next u hu=>cases hv;have:=(Bx vs 0 d v hu).2 i z;rw[hm]at this;cases this
  .cases hv
 have yc:IR F (fH a.ntmps) a.ntmps ⟨oO (fH a.ntmps) vs 0 .e,[[]],0⟩ {tmps:=C.toArray++sD (a.ntmps-C.toArray.size) undef,defers:=[]} W:=
  ⟨g,[],M,λi b hb=>(by simp[bO,oa]at hb),h0,λD hD=>(by cases hD),List.nodup_nil⟩
 have K:∀(N:Act)(H:cJ),IR F (fH a.ntmps) a.ntmps s N H->LeavesInM (dP none) 0 P a N.tmps (λe H=>∃v g',e= .returned v/\aR {F with n:=1} (·<s.k) (St.kn ⟨[(0,a7)],s.ms.flatten,0,[]⟩) g' H (n7 [v])) N.defers .returning H:=by
  intro N H O;let ⟨g',mk,m6,kZ,h',nW,lv⟩:=O;have hd:N.defers=mk.map kK:=h'.defers;rw[hd];refine VU (B:=F.w0.heap.size) mk H nW lv ?_;intro W2 l;have A:=h'.wx l;have R:=adG hr;let ⟨u,hu,S⟩:=A' (P:=P) (tt:=tt) (st:=bA (fH a.ntmps) a.ntmps s.t s.ms.flatten) cK A (fn:=a) (rs:=a.results.toList) au R;refine⟨u,hu,u,g',J,⟨J,hds.symm,?_,?_,?_,?_,?_,A.sub,A.below,A.le,A.fresh,A.fT⟩⟩
  .intro t x l;simp only[St.kn,o,bY]at l;let ⟨V,X,he⟩:=l;cases he;split at X
   next e=>subst e;cases X;simpa[n7]using S
   .cases X
  .intro i b hb;exact A.cM i b hb
  .intro i I b b' kk hb nq L h3;exact A.inj i I b b' kk hb nq L h3
  .intro T x l i z;cases T with
   |s t=>
    simp only[St.kn,o,bY]at l
    let ⟨V,X,he⟩:=l
    subst he
    split at X
    .cases X;exact (acr (tt:=tt) A R) i z
    .cases X
   |m d=>exact A.ak (.m d) x l i z
  .intro i x l;exact A.dX i x l
 refine wpIn_mono (F:=dP none) (adU (P:=P) (Fe:=dP none) (ap6 (F:=F) lu cK By fu fy hn4) ap5 fr dU _ rr jL (by rcases hrr with e|e<;>rw[e]<;>simp) _ W yc) ?_
 intro e N H hp
 rcases hrr with e1|e1
 .rw[e1]at hp;obtain⟨rfl,O⟩:=hp;exact K N H O
 .rw[e1]at hp;obtain⟨rfl,O⟩:=hp;exact K N H O
def aqb(l:P.follows .mixedOrders=ae)(m:cE P tt=ae)(g:∀f vs D n p,eK f vs D=ad (n,p)->w P f n p) u v x{f}{vs}{z}
  (a:VT P tt eK u v x f vs z=ae) (t:cX vs=[]) (A:z.ak=[]):w P f vs z:=by
 unfold VT at a
 split at a
 .rename_i H B;split at a
  .rename_i c C;split at a
   .rename_i i;simp only[cP]at i;let ⟨⟨b,hlen⟩,iu⟩:=i;unfold aee at a;split at a
    .rename_i s d;split at a
     next p k=>exact Vt (aef l m g u v x B C b (c7 hlen) (c7 iu) d (.inl J) k t) t A a
     .cases a
    .rename_i s d;split at a
     next p k=>exact Vt (aef l m g u v x B C b (c7 hlen) (c7 iu) d (.inr J) k t) t A a
     .cases a
    .cases a
   .cases a
  .cases a
 .cases a
end
def dM:TT:=[
 (2,⟨.int .i64,1,8,[],[.i .i64]⟩),
 (3,⟨.int .i64,1,8,[],[.i .i64]⟩),
 (4,⟨.bool,1,1,[],[.b]⟩),
 (5,⟨.int .u8,1,1,[],[.i .u8]⟩),
 (6,⟨.int .u8,1,1,[],[.i .u8]⟩),
 (9,⟨.str,1,16,[],[.t]⟩),
 (10,⟨.str,1,16,[],[.t]⟩),
 (11,⟨.str,1,16,[],[.t]⟩),
 (12,⟨.int .u64,1,8,[],[.i .u64]⟩),
 (21,⟨.int .i32,1,4,[],[.i .i32]⟩),
 (22,⟨.sl 53,1,24,[],[.s]⟩),
 (23,⟨.st,2,32,[(0,1,ah),(1,1,ah)],[.i .u8,.s]⟩),
 (24,⟨.st,2,32,[(0,1,ah),(1,1,ah)],[.i .u8,.s]⟩),
 (25,⟨.sl 57,1,24,[],[.s]⟩),
 (26,⟨.sl 57,1,24,[],[.s]⟩),
 (28,⟨.sl 44,1,24,[],[.s]⟩),
 (29,⟨.sl 44,1,24,[],[.s]⟩),
 (33,⟨.int .i64,1,8,[],[.i .i64]⟩),
 (40,⟨.sl 142,1,24,[],[.s]⟩),
 (41,⟨.st,2,32,[(0,1,ah),(1,1,ah)],[.b,.s]⟩),
 (42,⟨.st,2,32,[(0,1,ah),(1,1,ah)],[.b,.s]⟩),
 (43,⟨.st,4,64,[(0,2,ae),(2,2,ae)],[.b,.s,.b,.s]⟩),
 (44,⟨.st,4,64,[(0,2,ae),(2,2,ae)],[.b,.s,.b,.s]⟩),
 (51,⟨.arr 3 26,3,72,[],[.s,.s,.s]⟩),
 (53,⟨.int .i8,1,1,[],[.i .i8]⟩),
 (55,⟨.arr 2 26,2,48,[],[.s,.s]⟩),
 (56,⟨.st,3,3,[(0,1,ah),(1,1,ah),(2,1,ah)],[.i .i8,.i .i8,.i .u8]⟩),
 (57,⟨.st,3,3,[(0,1,ah),(1,1,ah),(2,1,ah)],[.i .i8,.i .i8,.i .u8]⟩),
 (68,⟨.sl 26,1,24,[],[.s]⟩),
 (69,⟨.arr 3 68,3,72,[],[.s,.s,.s]⟩),
 (70,⟨.sl 29,1,24,[],[.s]⟩),
 (77,⟨.sl 129,1,24,[],[.s]⟩),
 (78,⟨.st,1,24,[(0,1,ah)],[.s]⟩),
 (79,⟨.st,1,24,[(0,1,ah)],[.s]⟩),
 (80,⟨.arr 2 79,2,48,[],[.s,.s]⟩),
 (81,⟨.arr 8 29,8,192,[],[.s,.s,.s,.s,.s,.s,.s,.s]⟩),
 (82,⟨.sl 132,1,24,[],[.s]⟩),
 (83,⟨.sl 132,1,24,[],[.s]⟩),
 (90,⟨.sl 22,1,24,[],[.s]⟩),
 (101,⟨.map 3 104,1,8,[],[.m]⟩),
 (103,⟨.st,2,48,[(0,1,ah),(1,1,ah)],[.s,.s]⟩),
 (104,⟨.st,2,48,[(0,1,ah),(1,1,ah)],[.s,.s]⟩),
 (110,⟨.sl 114,1,24,[],[.s]⟩),
 (113,⟨.st,2,32,[(0,1,ah),(1,1,ah)],[.s,.i .i64]⟩),
 (114,⟨.st,2,32,[(0,1,ah),(1,1,ah)],[.s,.i .i64]⟩),
 (126,⟨.arr 8 3,8,64,[],[.i .i64,.i .i64,.i .i64,.i .i64,.i .i64,.i .i64,.i .i64,.i .i64]⟩),
 (127,⟨.arr 8 3,8,64,[],[.i .i64,.i .i64,.i .i64,.i .i64,.i .i64,.i .i64,.i .i64,.i .i64]⟩),
 (129,⟨.arr 5 53,5,5,[],[.i .i8,.i .i8,.i .i8,.i .i8,.i .i8]⟩),
 (131,⟨.st,12,128,[(0,4,ae),(4,8,ae)],[.b,.s,.b,.s,.i .i64,.i .i64,.i .i64,.i .i64,.i .i64,.i .i64,.i .i64,.i .i64]⟩),
 (132,⟨.st,12,128,[(0,4,ae),(4,8,ae)],[.b,.s,.b,.s,.i .i64,.i .i64,.i .i64,.i .i64,.i .i64,.i .i64,.i .i64,.i .i64]⟩),
 (142,⟨.int .u32,1,4,[],[.i .u32]⟩),
 (150,⟨.int .u64,1,8,[],[.i .u64]⟩),
 (161,⟨.sl 42,1,24,[],[.s]⟩),
 (167,⟨.sl 150,1,24,[],[.s]⟩),
 (173,⟨.sl 178,1,24,[],[.s]⟩),
 (176,⟨.sl 167,1,24,[],[.s]⟩),
 (177,⟨.st,2,32,[(0,1,ah),(1,1,ah)],[.s,.i .i64]⟩),
 (178,⟨.st,2,32,[(0,1,ah),(1,1,ah)],[.s,.i .i64]⟩),
 (181,⟨.sl 161,1,24,[],[.s]⟩),
 (192,⟨.int .u64,1,8,[],[.i .u64]⟩),
 (200,⟨.st,2,48,[(0,1,ah),(1,1,ah)],[.s,.s]⟩),
 (201,⟨.st,2,48,[(0,1,ah),(1,1,ah)],[.s,.s]⟩),
 (207,⟨.st,2,48,[(0,1,ah),(1,1,ah)],[.s,.s]⟩),
 (208,⟨.st,2,48,[(0,1,ah),(1,1,ah)],[.s,.s]⟩),
 (220,⟨.st,2,32,[(0,1,ah),(1,1,ah)],[.s,.i .u64]⟩),
 (221,⟨.st,2,32,[(0,1,ah),(1,1,ah)],[.s,.i .u64]⟩),
 (226,⟨.sl 221,1,24,[],[.s]⟩),
 (230,⟨.int .i64,1,8,[],[.i .i64]⟩),
 (264,⟨.int .u64,1,8,[],[.i .u64]⟩),
 (274,⟨.arr 4 150,4,32,[],[.i .u64,.i .u64,.i .u64,.i .u64]⟩),
 (277,⟨.sl 3,1,24,[],[.s]⟩),
 (286,⟨.st,4,40,[(0,1,ah),(1,1,ah),(2,1,ah),(3,1,ah)],[.p,.p,.p,.t]⟩),
 (287,⟨.st,4,40,[(0,1,ah),(1,1,ah),(2,1,ah),(3,1,ah)],[.p,.p,.p,.t]⟩),
 (288,⟨.arr 0 16,0,0,[],[]⟩),
 (291,⟨.int .u8,1,1,[],[.i .u8]⟩),
 (292,⟨.int .u8,1,1,[],[.i .u8]⟩),
 (295,⟨.int .i32,1,4,[],[.i .i32]⟩),
 (296,⟨.int .i32,1,4,[],[.i .i32]⟩),
 (297,⟨.st,11,48,[(0,1,ah),(1,1,ah),(2,1,ah),(3,1,ah),(4,1,ah),(5,1,ah),(6,1,ah),(7,1,ah),(8,1,ah),(9,1,ah),(10,1,ah)],[.i .u64,.i .u64,.i .u32,.i .u8,.i .u8,.i .u8,.i .u8,.f,.p,.i .i32,.i .i32]⟩)]
def cq:cE O dM=ae:=fh
def MX:Tryz.prog.follows .mixedOrders=ae:=fh
abbrev ao:ET:= .int .u32
abbrev ar:ET:= .int .u64
abbrev oR:ET:= .int .i64
abbrev I8:ET:= .int .i8
abbrev cI(n:V):AV:= .c<|.I .i64 n
abbrev cU(n:V):AV:= .c<|.I .u64 n
abbrev cW(n:V):AV:= .c<|.I .u32 n
abbrev cB(b:Bool):AV:= .c<|.B b
abbrev cS(T:ET)(xs:E T.den):AV:= .c<|.S T xs
abbrev aZ(z:V):AV:= .a<|av .z z
abbrev aQ(b:Rat):AV:= .a<|av .q b
section
variable{n:G}{Q:iD}{sl sl':E (G×AV)}{mem bT:E (G×aA)}{nx:G}{gd gd':E (G×Bool)}{id:G}{ops:Array a8}{draw:Bool}{y:fJ}{p:Pr}{ks dC:E Ks}{i i' n0 cw:G}
def rr(b:runs dM n nx draw ops.toList ops.toList 0 ⟨sl,mem,nx,gd⟩ .t []=([],i',⟨sl',bT,n0,gd'⟩,p,ks))(d:TR O n y ⟨sl',bT,nx+1,[]⟩ Q)
  (hp:p:=by exact m5) (f:(!draw||sd ops.toList ks)=ae:=by kernel_rfl) (a:fa ops.size 1000=ae:=by rfl):TR O n (.seq (.region id ops draw) y) ⟨sl,mem,nx,gd⟩ Q:=
 h (NC MX<|jO cq b hp<|Ju d f a)
def rt(b:runs dM n nx draw ops.toList ops.toList 0 ⟨sl,mem,nx,gd⟩ .t []=([],i',⟨sl',bT,n0,gd'⟩,p,ks))(d:gy n .normal ⟨sl',bT,nx+1,[]⟩ Q)
  (hp:p:=by exact m5) (f:(!draw||sd ops.toList ks)=ae:=by kernel_rfl) (a:fa ops.size 1000=ae:=by rfl):TR O n (.region id ops draw) ⟨sl,mem,nx,gd⟩ Q:=
 NC MX (jO cq b hp<|Ju d f a)
def rb(b:RG O n ops draw nx 0 ops.toList ⟨sl,mem,nx,gd⟩ [] (λa=>TR O n y a Q)):TR O n (.seq (.region id ops draw) y) ⟨sl,mem,nx,gd⟩ Q:=h<|NC MX b
def cG(b:RG O n ops draw nx 0 ops.toList ⟨sl,mem,nx,gd⟩ [] (λa=>gy n .normal a Q)):TR O n (.region id ops draw) ⟨sl,mem,nx,gd⟩ Q:=NC MX b
variable{R:St->Prop}{os:E a8}{d f:G}{args:Array Operand}{kH:Array eI}{ty:eI}{pos:String}{iF:Array Edge}{dR:E a8}{vs:E AV}{r:AV}
def rc(b:runs dM n nx draw ops.toList os i ⟨sl,mem,n0,gd⟩ .t ks=(⟨ad d,.call ⟨.value<|.func f,args,kH⟩,ty,pos,iF,none⟩::dR,i',⟨sl',bT,cw,gd'⟩,p,dC))(g:kF ⟨sl',bT,cw,gd'⟩ args.toList=ad vs)(k:w O f vs r)
  (l:RG O n ops draw nx (i'+1) dR ⟨(d,r)::sl',bT,cw,gd'⟩ (ix draw dC (bN args.toList,[.s d])) R)
  (hp:p:=by exact m5) (m:cX vs=[]:=by rfl) (a:dZ d n=ae:=by rfl):RG O n ops draw nx i os ⟨sl,mem,n0,gd⟩ ks R:=
 jO cq b hp (anb g k l m a)
def jF{m g}{a b}(u:runs dM n nx draw ops.toList os i ⟨sl,mem,n0,gd⟩ .t ks=(⟨ad d,.call ⟨.value<|.func f,args,kH⟩,ty,pos,iF,ad (m,a)⟩::dR,i',⟨sl',bT,cw,gd'⟩,p,dC))(v:tG ops.toList m=ad g)(x:o g sl'=ad (.c<|.B b))(k:b=a)(z:kF ⟨sl',bT,cw,gd'⟩ args.toList=ad vs)(A:w O f vs r)
  (D:RG O n ops draw nx (i'+1) dR ⟨(d,r)::sl',bT,cw,gd'⟩ (ix draw dC (.s g::bN args.toList,[.s d])) R)
  (hp:p:=by exact m5) (H:cX vs=[]:=by rfl) (l:dZ d n=ae:=by rfl):RG O n ops draw nx i os ⟨sl,mem,n0,gd⟩ ks R:=
 jO cq u hp (anc v x k z A D H l)
def re(b:runs dM n nx draw ops.toList os i ⟨sl,mem,n0,gd⟩ .t ks=([],i',⟨sl',bT,cw,gd'⟩,p,dC))(g:R ⟨sl',bT,nx+1,[]⟩)
  (hp:p:=by exact m5) (ho:(!draw||sd ops.toList dC)=ae:=by kernel_rfl) (a:fa ops.size 1000=ae:=by rfl):RG O n ops draw nx i os ⟨sl,mem,n0,gd⟩ ks R:=
 jO cq b hp (Ju g ho a)
def rg t{b}{a}(g:runs dM n nx draw ops.toList os i ⟨sl,mem,n0,gd⟩ .t ks=(a::dR,i',⟨sl',bT,cw,gd'⟩,p,dC))(k:o t sl'=ad (.c<|.B b))
  (l:b=ae->RG O n ops draw nx i' (a::dR) ⟨(t,.c<|.B ae)::sl',bT,cw,(t,ae)::gd'⟩ dC R) (m:b=ah->RG O n ops draw nx i' (a::dR) ⟨(t,.c<|.B ah)::sl',bT,cw,(t,ah)::gd'⟩ dC R)
  (s:p:=by exact m5):RG O n ops draw nx i os ⟨sl,mem,n0,gd⟩ ks R:=
 jO cq g s (ane t k l m)
def rm{t:G}{x}T(m:G)(N:runs dM n nx draw ops.toList os i ⟨sl,mem,n0,gd⟩ .t ks=(⟨ad d,.makeSlice t x x,ty,pos,iF,none⟩::dR,i',⟨sl',bT,cw,gd'⟩,p,dC)){k}{v}(P:St.ev ⟨sl',bT,cw,gd'⟩ x=ad (.c<|.I k v)){b}{H a}(l:o t dM=ad H)(u:H.kind= .sl b)(z:o b dM=ad a)(A:a.size=T.n)
  (W:∀g:Gh,a6 g (av T T.eP) (a.zero.map ZV.fU)) (hv:v=(m:V)) (hb:m*a.bytes<=281474976710656) (B:m*T.n<=140737488355328)
  (hk:RG O n ops draw nx (i'+1) dR ⟨(d,.c<|.X<|1000000*nx+1000*i')::sl',(1000000*nx+1000*i',.vec b T<|bx m T.eP)::bT,cw,gd'⟩ (ix draw dC (bN [x,x],[.s d,.m<|1000000*nx+1000*i'])) R)
  (hp:p:=by exact m5) (D:dZ d n=ae:=by rfl):RG O n ops draw nx i os ⟨sl,mem,n0,gd⟩ ks R:=
 jO cq N hp (anl cq T m P hv l u z A W hb B hk D)
end
def oe k g:a6 g (av (.int k)<|ET.eP<|.int k) ([ZV.i k].map ZV.fU):=⟨_,_,J,J,J⟩
def aeh H:Fw H [] (.slice none 0 0):=⟨none,0,J,aL _,au,.inl J⟩
def Pp g:a6 g (av .z (0:V)) ([ZV.b,ZV.s].map ZV.fU):=M4 ⟨_,J,aeh _⟩
def VV g:a6 g (av (.pr .z .z) ((0,0):V×V)) ([ZV.b,ZV.s,ZV.b,ZV.s].map ZV.fU):=a6.append (Pp g)<|Pp g
section
variable{n:G}{Q:iD}{sl sl':E (G×AV)}{mem bT:E (G×aA)}{nx:G}{gd gd':E (G×Bool)}{id:G}{ops:Array a8}{draw:Bool}{y y0:fJ}{p q:Pr}{ks dC Oj:E Ks}{i i' n0 cw:G}{st:St}{fn:Func}{rs:E ResultVar}{r r':AV}
variable{R:St->Prop}{os:E a8}{d f:G}{args:Array Operand}{kH:Array eI}{ty:eI}{pos:String}{iF:Array Edge}{dR:E a8}{vs:E AV}
def atR(b:mc dM st rs=ad r)(a:fn.results=rs.toArray:=by rfl)(g:r.ak=[]:=by rfl):gy n .ret st (Dd O fn r):=iX cq b (bu.refl _) a g
def fK(b:mc dM st rs=ad r')(g:r'=r)(a:fn.results=rs.toArray:=by rfl)(k:r.ak=[]:=by rfl):gy n .ret st (Dd O fn r):=iX cq b (bu.of_eq g) a k
def cN(b:mc dM st rs=ad r)(a:fn.results=rs.toArray:=by rfl)(g:r.ak=[]:=by rfl):TR O n .ret st (Dd O fn r):=bX<|atR b a g
def cv(b:mc dM st rs=ad r')(g:r'=r)(a:fn.results=rs.toArray:=by rfl)(k:r.ak=[]:=by rfl):TR O n .ret st (Dd O fn r):=bX<|fK b g a k
def bs{a:Type}{b:a->St}{g:a->Prop}{k:a->G}{x}(l:gy n .normal st Q):TR O n (.exit id) st (vY O y0<|Jv b g k x<|zb id Q):=oJ<|sf<|pB<|oK l
def aE(a:TR O n y st Q):TR O n .skip st (vY O y Q):=di<|aS a
def bP(a:TR O n y st Q):gy n .normal st (zb id<|vY O y Q):=fF<|aS a
def bQ(m:runs dM n nx draw ops.toList ops.toList 0 ⟨sl,mem,nx,gd⟩ .t []=(⟨ad d,.call ⟨.value<|.func f,args,kH⟩,ty,pos,iF,none⟩::dR,i',⟨sl',bT,cw,gd'⟩,p,dC))(u:kF ⟨sl',bT,cw,gd'⟩ args.toList=ad vs)(v:w O f vs r)
 {b}{a}{x z}{g}(A:runs dM n nx draw ops.toList dR (i'+1) ⟨(d,r)::sl',bT,cw,gd'⟩ .t (ix draw dC (bN args.toList,[.s d]))=([],z,⟨b,a,x,g⟩,q,Oj)) (B:TR O n y ⟨b,a,nx+1,[]⟩ Q)
  (D:p:=by exact m5) (H:cX vs=[]:=by rfl) (k:dZ d n=ae:=by rfl) (N:q:=by first|trivial| (simp[Pr.an,Pr.h,num,ia];first|done|omega)| (simp[Pr.an,Pr.h,num,ia];done)| (simp[Pr.an,Pr.h,num,ia];omega)) (P:(!draw||sd ops.toList Oj)=ae:=by kernel_rfl) (l:fa ops.size 1000=ae:=by rfl):TR O n (.seq (.region id ops draw) y) ⟨sl,mem,nx,gd⟩ Q:=
 rb (rc m u v (re A B N P l) D H k)
def aK{f}{fn}{l}{args}{r}(m:Tryz.prog.funcs[f]? =ad fn)(s:TR O n l ⟨dT 0 args,[],0,[]⟩ (Dd O fn r))(t:fn.body=ad l:=by exact KF)(u:fn.ntmps=n:=by exact KF)(b:fa args.length n=ae:=by exact KF)(g:cX args=[]:=by exact KF)(k:r.ak=[]:=by exact KF)(a:(fn.name != "runtime.NumGoroutine")=ae:=by decide):w O f args r:=Gb m t u b g k a s
end
section
variable{n:G}{sl sl':E (G×AV)}{mem bT:E (G×aA)}{nx:G}{gd gd':E (G×Bool)}{ops:Array a8}{draw:Bool}{p:Pr}{ks dC:E Ks}{i i' n0 cw:G}
variable{R:St->Prop}{os:E a8}{d:G}{ty:eI}{pos:String}{iF:Array Edge}{dR:E a8}
def rl T xs{t b:G}{a}(m:runs dM n nx draw ops.toList os i ⟨sl,mem,n0,gd⟩ .t ks=(⟨ad d,.buildSlice t b a,ty,pos,iF,none⟩::dR,i',⟨sl',bT,cw,gd'⟩,p,dC)){u}{l}(v:xP dM ⟨sl',bT,cw,gd'⟩ t b a.toList=ad (u,l,xs.flatMap<|av T))
  (x:RG O n ops draw nx (i'+1) dR ⟨(d,.c<|.S T xs)::sl',bT,cw,gd'⟩ (ix draw dC (bN (Op.buildSlice t b a).operands.toList,[.s d])) R) (z:l.size=T.n:=by rfl) (g:Z xs=b:=by rfl) (f:fa (b*T.n) 16777216=ae:=by rfl)
  (hp:p:=by exact m5) (k:dZ d n=ae:=by rfl):RG O n ops draw nx i os ⟨sl,mem,n0,gd⟩ ks R:=
 jO cq m hp (ano cq T xs v z g f x k)
def gV T xs{t b:G}{a}(v:runs dM n nx draw ops.toList os i ⟨sl,mem,n0,gd⟩ .t ks=(⟨ad d,.buildSlice t b a,ty,pos,iF,none⟩::dR,i',⟨sl',bT,cw,gd'⟩,p,dC)){l}{u}(x:xP dM ⟨sl',bT,cw,gd'⟩ t b a.toList=ad (l,u,xs.flatMap<|av T))
  (z:RG O n ops draw nx (i'+1) dR ⟨(d,.c<|.X<|1000000*nx+1000*i')::sl',(1000000*nx+1000*i',.vec l T xs)::bT,cw,gd'⟩ (ix draw dC (bN (Op.buildSlice t b a).operands.toList,[.s d,.m<|1000000*nx+1000*i'])) R) (A:u.size=T.n:=by rfl) (g:Z xs=b:=by rfl) (f:fa (b*T.n) 16777216=ae:=by rfl)
  (B:p:=by exact m5) (k:dZ d n=ae:=by rfl):RG O n ops draw nx i os ⟨sl,mem,n0,gd⟩ ks R:=
 jO cq v B (anp cq T xs x A g f z k)
def wF{t:G}{x b}{a m k}{s}{T}{xs}{u}{v}(f:T.den)(z:runs dM n nx draw ops.toList os i ⟨sl,mem,n0,gd⟩ .t ks=(⟨none,.store t x b,ty,pos,iF,none⟩::dR,i',⟨sl',bT,cw,gd'⟩,p,dC))
  (A:St.ev ⟨sl',bT,cw,gd'⟩ x=ad (.c<|.Y a m k 0)) (B:o a bT=ad (.vec s T xs)) (D:St.ev ⟨sl',bT,cw,gd'⟩ b=ad u) (g:l3 u=ad (av T f)) (H:k<Z xs)
  (N:RG O n ops draw nx (i'+1) dR ⟨sl',(a,.vec s T<|xs.set k f)::bT,cw,gd'⟩ (ix draw dC (bN [x,b]++da [a],[.m a])) R) (P:T.n=m:=by rfl) (l:qf dM t=ad (m,v):=by rfl)
  (hp:p:=by exact m5):RG O n ops draw nx i os ⟨sl,mem,n0,gd⟩ ks R:=
 jO cq z hp (anm cq A B D P l f g H N)
def ra{x u}{P Q}{a}{k E2:eI}{T}{xs b}{W f l}(cA:runs dM n nx draw ops.toList os i ⟨sl,mem,n0,gd⟩ .t ks=(⟨ad d,.call ⟨.builtin .append,#[x,u],#[P,Q]⟩,ty,pos,iF,none⟩::dR,i',⟨sl',bT,cw,gd'⟩,p,dC))
  (hx:St.ev ⟨sl',bT,cw,gd'⟩ x=ad (.c<|.X a)) (hl:o a bT=ad (.vec k T xs)) (hy:St.ev ⟨sl',bT,cw,gd'⟩ u=ad (.c<|.S T b)) (v:o P dM=ad W) (hk:W.kind= .sl k) (g:o Q dM=ad f) (z:f.kind= .sl E2) (A:o k dM=ad l)
  (hb:((Z xs+Z b)+(Z xs+Z b)/4+192)*l.bytes<=281474976710656) (B:(Z xs+Z b)*T.n<=140737488355328)
  (hr:RG O n ops draw nx (i'+1) dR ⟨(d,.c<|.X<|1000000*nx+1000*i')::sl',(1000000*nx+1000*i',.vec k T<|xs++b)::uU a bT,cw,gd'⟩ (ix draw dC (bN [x,u]++da [a],[.s d,.m<|1000000*nx+1000*i',.m a])) R) (D:l.size=T.n:=by rfl) (H:Z l.zero=T.n:=by rfl)
  (hp:p:=by exact m5) (N:dZ d n=ae:=by rfl):RG O n ops draw nx i os ⟨sl,mem,n0,gd⟩ ks R:=
 jO cq cA hp (anA cq hx hl hy v hk g z A D H hb B hr N)
def ran{x k}{N P}{l W:eI}{T}{a}{Q b g}(cA:runs dM n nx draw ops.toList os i ⟨sl,mem,n0,gd⟩ .t ks=(⟨ad d,.call ⟨.builtin .append,#[x,k],#[N,P]⟩,ty,pos,iF,none⟩::dR,i',⟨sl',bT,cw,gd'⟩,p,dC))
  (hx:St.ev ⟨sl',bT,cw,gd'⟩ x=ad (.c<|.V<|.slice none 0 0)) (hy:St.ev ⟨sl',bT,cw,gd'⟩ k=ad (.c<|.S T a)) (u:o N dM=ad Q) (hk:Q.kind= .sl l) (f:o P dM=ad b) (v:b.kind= .sl W) (z:o l dM=ad g)
  (hb:(Z a+Z a/4+192)*g.bytes<=281474976710656) (A:Z a*T.n<=140737488355328)
  (hr:RG O n ops draw nx (i'+1) dR ⟨(d,.c<|.X<|1000000*nx+1000*i')::sl',(1000000*nx+1000*i',.vec l T a)::bT,cw,gd'⟩ (ix draw dC (bN [x,k],[.s d,.m<|1000000*nx+1000*i'])) R) (B:g.size=T.n:=by rfl) (D:Z g.zero=T.n:=by rfl)
  (hp:p:=by exact m5) (H:dZ d n=ae:=by rfl):RG O n ops draw nx i os ⟨sl,mem,n0,gd⟩ ks R:=
 jO cq cA hp (anB cq hx hy u hk f v z B D hb A hr H)
end
def aei(W:cJ)(H:FH)(f:eI)(T:ET)(xs:E T.den)(g:Ending)(d:cJ):Prop:=
 ∃v a,g= .returned v/\gW (λb=>W.heap.size<=b) ⟨a,λ_=>v⟩ d 0 (.vec f T xs)/\cL H a/\(∀b o,b<W.heap.size->a b o=H b o)/\Sub a d/\Below W.heap.size W d
structure qq(P:bW)(f:jB)(args:List AV)(E:eI)(T:ET)(xs:List T.den):Prop where
 call:oI P f=ae
 spec:∀H W vs,Sub H W->fV ⟨H,jP⟩ args vs->Calls P f vs.toArray W (aei W H E T xs)
def aej(P:bW)(d:Func)(f:eI)(T:ET)(xs:E T.den):iD:=λF e a W=>(∀b,¬F.own b)->bodyPost P d (aei F.w0 F.H0 f T xs) e a W
section
variable{P:bW}{tt:TT}{n:G}{st:St}
def KG(p:cE P tt=ae){D}{t id}{s}{T}{xs}(N:o t st.sl=ad (.c<|.X id))(Q:o id st.mem=ad (.vec s T xs))(x:D.results= #[.tmp t]:=by rfl):gy n .ret st (aej P D s T xs):=by
 intro F C g W a h d;let ⟨u,hu,f⟩:=A' (rs:=[.tmp t]) (v:= .c<|.X id) p h x (by simp[mc,qW,N]);have i:=h.cM id (.vec s T xs) (by simp[St.kn,Q]);have l:u=g.γ id:=f;refine⟨h.defers.trans C.ds,u,hu,u,g.H,J,?_,h.le,λb K e=>h.fresh b K e<|d b,h.sub,⟨h.below.os,h.below.tape,h.below.output,h.below.size,λk j=>h.below.block k j<|d k⟩⟩;rcases i with⟨z,A⟩|⟨b,B,vs,z,A,q,r,w,y,m,G⟩
 .exact .inl ⟨by rw[l];exact z,A⟩
 .refine .inr ⟨b,B,vs,by rw[l];exact z,A,q,r,w,y,?_,G⟩;rcases m with m|m
  .exact m
  .exact(d b m).elim
def KH{f}{g}{D}{args}{N}{T}{xs}(hf:P.funcs[f]? =ad g)(hb:g.body=ad D)(hN:g.ntmps=n)(i:fa args.length n=ae)(B:cX args=[])(qY:(g.name != "runtime.NumGoroutine")=ae)
  (l:TR P n D ⟨dT 0 args,[],0,[]⟩ (aej P g N T xs)):qq P f args N T xs:=by
 refine⟨zc,?_⟩
 intro H W vs p d
 refine calls_of_wp hf hb ?_
 have K:=xL d
 have i:=c7 i
 refine wp_mono (l {w0:=W,H0:=H,n:=n} ⟨J,bg _,J,J⟩ ⟨H,jP⟩ W _ ⟨?_,J,?_,?_,?_,?_,?_,p,⟨J,J,J,aL _,λ_ _ _=>rfl⟩,cL.refl _,λ_ _ _ _=>rfl,λ_ l=>aF l<|nZ _⟩)<|λe a F X=>X<|λ_ l=>l
 .simp[hN];omega
 .intro t v Q;simp only[St.kn,bY]at Q;let ⟨x,hx,he⟩:=Q;cases he;let ⟨_,u,hu,hr,_⟩:=me args vs 0 d t v hx;have z:vs[t]? =ad u:=v3;have jK:t<Z vs:=(qQ.1 z).1;have:(vs.toArray++sD (g.ntmps-vs.toArray.size) undef).getD t undef=u:=by rw[l7,uW zd];simp[z]
  rw[this];exact hr
 .intro A b e;simp[St.kn,o]at e
 .intro A q b G k e;simp[St.kn,o]at e
 .intro k x e A C;cases k with
  |m j=>simp[St.kn,o]at e
  |s t=>
   simp only[St.kn,bY]at e
   let ⟨y,r,he⟩:=e
   subst he
   let ⟨_,u,_,_,w⟩:=me args vs 0 d t y r
   have:=w A C
   rw[B]at this
   cases this
 .intro A x e;simp[St.kn,o]at e
def aqd{n l}{ops}{i}{aG:a8}(ho:ops[i]? =ad aG)(hg:aG.guard=none){d:G}(hd:aG.dst=ad d)(dG:d<n){f}{args}{kH}(b9:aG.op= .call ⟨.value<|.func f,args,kH⟩)
 {st}{vs}{bt:eI} {T:ET} {xs:E T.den} (hv:kF st args.toList=ad vs) (hm:cX vs=[]) (hf:qq P f vs bt T xs):mZ P n ops i st ((st.pm l<|.vec bt T xs).put d<|.c<|.X l) l (bN args.toList,[.s d,.m l]):=by
 refine⟨args.toList.flatMap<|cQ st,[(.s d,ad<|.v<|.c<|.X l),(.m l,ad<|.b<|.vec bt T xs)],?_,?_,FY st d l _ _,ff st _,λk hk=>kV⟩
 .intro F lM Q q σ g W a K N aX S hK;unfold wpOp;simp only[ho,iv,hg,cz];refine .inl ?_;unfold Oper.wp;have U:(execOp a.eval aG).run P W= .ok (.enter f<|args.map a.eval) W:=by
   have p:=hf.call;unfold oI at p;rw[execOp,b9];cases w:P.funcs[f]? with
   |none=>rw[w]at p;simp at p
   |some fn=>
    rw[w]at p
    simp only[cP,bne_iff_ne,ne_eq]at p
    have h2:fn.body≠none:=by intro hb;rw[hb]at p;simp at p
    simp[resolve,Act.eval,zs,invoke,callFunc,w,p.1,h2]
  rw[U];simp only[Oper.upon];have I:(args.map a.eval)=(args.toList.map a.eval).toArray:=A6;rw[I];refine (hf.spec g.H W _ aX.sub<|(Db aX st _ _ hv S).jh (γ:=jP) hm).mono ?_;rintro e W' ⟨v,H',rfl,L,hle,V,M,A⟩;simp only[hd];have iu:d<a.tmps.size:=nX;let B:Gh:=⟨H',λj=>if j=l then v else g.γ j⟩;have O:gN q g B:=⟨hle,λj z=>by
   have:j≠l:=λe=>N<|e▸z
   simp[B,this]⟩
  refine hK B W' _<|aX.step (chg:=λ_=>False) (g':=B) ⟨O,V,M,A.size,λk hk _=>A.block k hk,A.os,A.tape,A.output⟩ _ l N pj aX.defers ?_ (λ_ h=>h.elim) ?_ ?_ ?_ ?_
  .intro t ht;have eZ:d≠t:=uR;simp[iK,l0 eZ]
  .intro t u ht;simp only[aD]at ht;split at ht
   next e=>simp only[Key.s.injEq]at e;simp only[aq,Info.v.injEq]at ht;subst e;subst ht;simp[iK,iu,bh,de,B]
   .split at ht
    .simp at ht
    .simp at ht
  .intro j b ht;simp only[aD,reduceCtorEq,b8]at ht;split at ht
   .rename_i e;simp only[Key.m.injEq]at e;simp only[aq,Info.b.injEq]at ht;subst e;subst ht;have hs0:=aX.below.size;rcases L with⟨D,e2⟩|⟨b,R,ws,D,e2,e3,e4,e5,e6,e7,e8⟩
    .refine⟨.inl ⟨by simpa[B]using D,e2⟩,.inr ⟨J,λk hk=>?_⟩⟩;have D:v= .slice none 0 0:=D;simp[B,D,cO]at hk
    .have D:v= .slice (ad ⟨b,0,none⟩) (Z xs) R:=D;refine⟨.inr ⟨b,R,ws,by simpa[B]using D,e2,e3,e4,e5,e6,.inl Y,e8⟩,.inr ⟨J,λk hk=>?_⟩⟩;simp[B,D,cO]at hk;exact .inl Y
   .simp at ht
  .intro k y ht;simp only[aD]at ht;split at ht
   .simp only[aq]at ht;subst ht;intro j z;simp[Info.ak,AV.ak,C.ak]at z;exact .inr z
   .split at ht
    .simp only[aq]at ht;subst ht;intro j z;simp[Info.ak,aA.ak]at z
    .simp at ht
  .intro j y ht;simp only[aD,reduceCtorEq,b8]at ht;split at ht
   next e=>simp only[Key.m.injEq]at e;exact .inr e.symm
   .simp at ht
 .intro kx cy;let ⟨x,_,h⟩:=js.1 cy;exact eQ st x kx h
def aqe{n}{b}{a}{g i}{d f:G}{args}{k}{B}{pos}{l}{x}{p}{mem}{t}{u}{z}{Q:St->Prop}{vs}{A}{T}{xs}
  (D:kF ⟨p,mem,t,u⟩ args.toList=ad vs) (H:qq P f vs A T xs) (N:RG P n b a g (i+1) x ⟨(d,.c<|.X<|1000000*g+1000*i)::p,(1000000*g+1000*i,.vec A T xs)::mem,t,u⟩ (ix a z (bN args.toList,[.s d,.m<|1000000*g+1000*i])) Q) (W:cX vs=[]:=by rfl) (v:dZ d n=ae:=by rfl):
  RG P n b a g i (⟨ad d,.call ⟨.value<|.func f,args,k⟩,B,pos,l,none⟩::x) ⟨p,mem,t,u⟩ z Q:=
 nv (λC=>aqd C J J (c7 v) J D W H) (nw N)
end
section
variable{P:bW}{tt:TT}
def aqf(l:cE P tt=ae){n f}{g}{i}{b:a8}(u:g[i]? =ad b)(z:b.guard=none){d:G}(A:b.dst=ad d)(m:d<n){a}{x}{p}(B:xT tt a b.op=ad (x,p))(D:p):mZ P n g i a (a.put d x) f (bN b.op.operands.toList,[.s d]):=by refine⟨qe a b.op,[(.s d,ad<|.v x)],UJ l u z A m B D f,?_,qR a d x,ff a _,λk hk=>kV⟩;intro C t;let ⟨x,_,h⟩:=js.1 t;exact eQ a x C h
def aqg{n}{b}{a}{u i}{d}{op:Op}{A}{pos}{f}{v}{g}{mem}{k}{l}{z}{Q:St->Prop}(m:cE P tt=ae){x}{p}(B:xT tt ⟨g,mem,k,l⟩ op=ad (x,p))(D:p)
  (H:RG P n b a u (i+1) v ⟨(d,x)::g,mem,k,l⟩ (ix a z (bN op.operands.toList,[.s d])) Q) (t:dZ d n=ae:=by rfl):
  RG P n b a u i (⟨ad d,op,A,pos,f,none⟩::v) ⟨g,mem,k,l⟩ z Q:=
 nv (λC=>aqf m C J J (c7 t) B D) (nw H)
end
section
variable{n:G}{Q:iD}{sl sl':E (G×AV)}{mem bT:E (G×aA)}{nx:G}{gd gd':E (G×Bool)}{ops:Array a8}{draw:Bool}{p:Pr}{ks dC:E Ks}{i i' n0 cw:G}{os dR:E a8}{d:G}{ty:eI}{pos:String}{iF:Array Edge}{R:St->Prop}
def rx{op:Op}{x}{pm}(f:runs dM n nx draw ops.toList os i ⟨sl,mem,n0,gd⟩ .t ks=(⟨ad d,op,ty,pos,iF,none⟩::dR,i',⟨sl',bT,cw,gd'⟩,p,dC))(g:xT dM ⟨sl',bT,cw,gd'⟩ op=ad (x,pm))(a:pm)
  (k:RG O n ops draw nx (i'+1) dR ⟨(d,x)::sl',bT,cw,gd'⟩ (ix draw dC (bN op.operands.toList,[.s d])) R)
  (hp:p:=by exact m5) (b:dZ d n=ae:=by rfl):RG O n ops draw nx i os ⟨sl,mem,n0,gd⟩ ks R:=
 jO cq f hp (aqg cq g a k b)
def DV{f}{args}{a}{vs}{g}{T}{xs}(k:runs dM n nx draw ops.toList os i ⟨sl,mem,n0,gd⟩ .t ks=(⟨ad d,.call ⟨.value<|.func f,args,a⟩,ty,pos,iF,none⟩::dR,i',⟨sl',bT,cw,gd'⟩,p,dC))(l:kF ⟨sl',bT,cw,gd'⟩ args.toList=ad vs)(u:qq O f vs g T xs)
  (v:RG O n ops draw nx (i'+1) dR ⟨(d,.c<|.X<|1000000*nx+1000*i')::sl',(1000000*nx+1000*i',.vec g T xs)::bT,cw,gd'⟩ (ix draw dC (bN args.toList,[.s d,.m<|1000000*nx+1000*i'])) R)
  (hp:p:=by exact m5) (x:cX vs=[]:=by rfl) (b:dZ d n=ae:=by rfl):RG O n ops draw nx i os ⟨sl,mem,n0,gd⟩ ks R:=
 jO cq k hp (aqe l u v x b)
end
def aek(g:Gh)(W:cJ)(i:eI)(T:ET)(k:AV)(d:E T.den)(l:Ending)(f:cJ):Prop:=
 ∃v a,l= .returned v/\bh ⟨a.H,jP⟩ k v/\gW (λ_=>True) a f 0 (.vec i T d)/\a.γ 0=g.γ 0/\cL g.H a.H/\(∀b o,b<W.heap.size->¬cO (g.γ 0)=ad b->a.H b o=g.H b o)/\Sub a.H f/\Fz (λb=>cO (g.γ 0)=ad b) W f
structure wG(P:bW)(f:jB)(args:List AV)(E:eI)(T:ET)(xs:List T.den)(r:AV)(a:List T.den):Prop where
 call:oI P f=ae
 jh:r.ak=[]
 spec:∀g W vs,Sub g.H W->fV g args vs->gW (λ_=>True) g W 0 (.vec E T xs)->Calls P f vs.toArray W (aek g W E T r a)
def VW(P:bW)(i:Func)(k:eI)(T:ET)(l:AV)(f:E T.den):iD:=λF e a W=>F.k0=1->bodyPost P i (λe g=>∃v d,e= .returned v/\bh ⟨d.H,jP⟩ l v/\gW F.N d g 0 (.vec k T f)/\d.γ 0=F.γ0 0/\cL F.H0 d.H/\(∀b o,b<F.w0.heap.size->¬F.own b->d.H b o=F.H0 b o)/\Sub d.H g/\Fz F.own F.w0 g) e a W
section
variable{P:bW}{tt:TT}{n:G}{st:St}
def BC(f:cE P tt=ae){p}{s}{t i}{v}{T}{b}(x:mc tt st s=ad t)(k:bu t i)(l:o 0 st.mem=ad (.vec v T b))(m:p.results=s.toArray:=by rfl)(z:i.ak=[]:=by rfl):gy n .ret st (VW P p v T i b):=by intro F A g W a h B;let ⟨u,hu,d⟩:=A' f h m x;exact⟨h.defers.trans A.ds,u,hu,u,g,J,(k.1 _ _ d).jh z (cL.refl _) jP,h.cM 0 _ (by simp[St.kn,l]),(h.fT 0 Y).2,h.le,h.fresh,h.sub,h.below⟩
def ael(d:cE P tt=ae){m}{p}{s f}{t}{T}{b}(u:mc tt st p=ad s)(i:bu s f)(k:o 0 st.mem=ad (.vec t T b))(l:m.results=p.toArray:=by rfl)(v:f.ak=[]:=by rfl):gy n .normal st (VW P m t T f b):=
 λF x g W a h=>BC d u i k l v F x g W a h
def Pq:E G->Bool
 |[]=>ae
 |id::a=>Nat.beq id 0&&Pq a
def aem:∀{l:E G},Pq l=ae->∀b∈l,b=0
 |[],_,_,a=>by cases a
 |f::g,d,b,a=>by
  simp only[Pq,cP]at d;rcases b7.1 a with rfl|a
  .exact mi d.1
  .exact aem d.2 b a
def KI{f}{fn}{dU}{args}{D}{T}{xs p}{a7}(hf:P.funcs[f]? =ad fn)(hb:fn.body=ad dU)(hN:fn.ntmps=n)(hle:fa args.length n=ae)(wH:Pq (cX args)=ae)(BB:a7.ak=[])(qY:(fn.name != "runtime.NumGoroutine")=ae)
  (cA:TR P n dU ⟨dT 0 args,[(0,.vec D T xs)],1,[]⟩ (VW P fn D T a7 p)):wG P f args D T xs a7 p:=by
 refine⟨zc,BB,?_⟩
 intro g W vs q l w
 refine calls_of_wp hf hb ?_
 have L:=xL l
 have hle:=c7 hle
 have d:∀i b,St.kn ⟨dT 0 args,[(0,.vec D T xs)],1,[]⟩ (.m i)=ad (.b b)->i=0/\b= .vec D T xs:=by
  intro i b e;simp only[St.kn,o,bY]at e;let ⟨x,hx,he⟩:=e;cases he;split at hx
  next R=>cases hx;exact⟨R.symm,J⟩
  .cases hx
 let F:dO:={w0:=W,H0:=g.H,n:=n,own:=λb=>cO (g.γ 0)=ad b,k0:=1,γ0:=g.γ}
 refine wp_mono (cA F ⟨J,aL _,J,J⟩ g W _ ⟨?_,J,?_,?_,?_,?_,?_,q,⟨J,J,J,aL _,λ_ _ _=>rfl⟩,cL.refl _,λ_ _ _ _=>rfl,?_⟩) ?_
 .simp[hN,F];omega
 .intro t v M;simp only[St.kn,bY]at M;let ⟨x,hx,he⟩:=M;cases he;let ⟨_,u,hu,hr,_⟩:=me args vs 0 l t v hx;have G:vs[t]? =ad u:=v3;have jK:t<Z vs:=(qQ.1 G).1;have:(vs.toArray++sD (fn.ntmps-vs.toArray.size) undef).getD t undef=u:=by rw[l7,uW zd];simp[G]
  rw[this];exact hr
 .intro i b e;obtain⟨rfl,rfl⟩:=d i b e;exact w.Bi (λk U=> .inr U) J J ⟨cL.refl _,λ_ _=>rfl⟩
 .intro i I b V k e Y _ _;rw[(d i b e).1,(d I V Y).1]
 .intro k x e i z;cases k with
  |m j=>
   cases x with
   |v y=>simp only[St.kn,bY]at e;let ⟨_,_,he⟩:=e;cases he
   |b b=>obtain⟨_,rfl⟩:=d j b e;simp[Info.ak,aA.ak]at z
  |s t=>
   simp only[St.kn,bY]at e
   let ⟨y,hy,he⟩:=e
   subst he
   let ⟨_,u,_,_,h6⟩:=me args vs 0 l t y hy
   have:=aem wH i<|h6 i z
   subst this
   show 0<1000000*1
   decide
 .intro i x e;cases x with
  |v y=>simp only[St.kn,bY]at e;let ⟨_,_,he⟩:=e;cases he
  |b b=>rw[(d i b e).1];show 0<1000000*1;decide
 .intro i z;have:i=0:=by have:i<1:=z;omega
  subst this;exact⟨(S:0<1000000*1),J⟩
 .intro e a X B;have B:=B J;have A:∀e X,(∃v C,e=Ending.returned v/\bh ⟨C.H,jP⟩ a7 v/\gW F.N C X 0 (.vec D T p)/\C.γ 0=F.γ0 0/\cL F.H0 C.H/\(∀b O,b<F.w0.heap.size->¬F.own b->C.H b O=F.H0 b O)/\Sub C.H X/\Fz F.own F.w0 X)->aek g W D T a7 p e X:=by rintro e X ⟨v,C,K,h2,Q,h4⟩;exact⟨v,C,K,h2,Q.Bi (λ_ _=>trivial) J J ⟨cL.refl _,λ_ _=>rfl⟩,h4⟩
  cases e with
  |normal=>let ⟨K,v,h2,Q⟩:=B;exact⟨K,v,h2,A _ _ Q⟩
  |ret=>let ⟨K,v,h2,Q⟩:=B;exact⟨K,v,h2,A _ _ Q⟩
  |panic dU=>let ⟨K,Q⟩:=B;exact⟨K,A _ _ Q⟩
  |outgrown=>exact A _ _ B
  |exit _=>exact B
  |goto _=>exact B
def Hi(b:G):C->C
 | .P _ a=> .P b a
 | .X _=> .X b
 | .Y _ n i a=> .Y b n i a
 | .L _ a l d=> .L b a l d
 | .W _ a l=> .W b a l
 |d=>d
def KJ(b:G):AV->AV
 | .c x=> .c<|Hi b x
 | .a cs=> .a<|cs.map<|Hi b
 | .t d=> .t<|d.map λs=>(s.1,s.2.map<|Hi b)
def VX{g:Gh}{b:G}:∀{d:C}{v:aT},de g (Hi b d) v->de ⟨g.H,λ_=>g.γ b⟩ d v
 | .any,_,a=>a
 | .B _,_,a=>a
 | .I _ _,_,a=>a
 | .V _,_,a=>a
 | .S _ _,_,a=>a
 | .P _ _,_,a=>a
 | .X _,_,a=>a
 | .Y _ _ _ _,_,a=>a
 | .E _ _ _,_,a=>a
 | .M _,_,a=>a
 | .L _ _ _ (ad _),_,a=>a
 | .L _ _ _ none,_,a=>a
 | .W _ _ _,_,a=>a
def VY{g:Gh}{b:G}:∀{d:E C}{vs:E aT},a6 g (d.map<|Hi b) vs->a6 ⟨g.H,λ_=>g.γ b⟩ d vs
 |[],_,a=>a
 |_::_,_,a=>by let ⟨v,f,i,k,h2⟩:=a;exact⟨v,f,i,VX k,VY h2⟩
def aen{g:Gh}{k:G}:∀{l:E (Bool×E C)}{vs:E aT},dK g (l.map λs=>(s.1,s.2.map<|Hi k)) vs->dK ⟨g.H,λ_=>g.γ k⟩ l vs
 |[],_,d=>d
 | (b,f)::_,_,d=>by
  let ⟨v,m,i,a,h2⟩:=d;refine⟨v,m,i,?_,aen h2⟩;match b,f,a with
  |true,f,a=>let ⟨vs,i,d⟩:=a;exact⟨vs,i,VY d⟩
  |false,[f],a=>exact VX a
  |false,[],a=>exact a.elim
  |false,_::_::_,a=>exact a.elim
def aqh{g}{d}{x}{v}(b:bh g (KJ d x) v):bh ⟨g.H,λ_=>g.γ d⟩ x v:=by
 cases x with
 |c y=>exact VX b
 |a cs=>let ⟨vs,e,b⟩:=b;exact⟨vs,e,VY b⟩
 |t f=>let ⟨vs,e,b⟩:=b;exact⟨vs,e,aen b⟩
def aeo{g:Gh}{b:G}:∀{xs:E AV}{vs:E aT},fV g (xs.map<|KJ b) vs->fV ⟨g.H,λ_=>g.γ b⟩ xs vs
 |[],_,a=>a
 |_::_,_,a=>by let ⟨v,d,f,i,h2⟩:=a;exact⟨v,d,f,aqh i,aeo h2⟩
def aqi{n new}{ops}{i}{D:a8}(ho:ops[i]? =ad D)(hg:D.guard=none){d:G}(hd:D.dst=ad d)(dG:d<n){f}{args}{kH}(b9:D.op= .call ⟨.value<|.func f,args,kH⟩)
 {st}{vs}{l:G} {bt:eI} {T:ET} {xs Oi:E T.den} {a7:AV} (hv:kF st args.toList=ad (vs.map<|KJ l)) (hl:o l st.mem=ad (.vec bt T xs)) (hf:wG P f vs bt T xs a7 Oi):mZ P n ops i st ((st.pm l<|.vec bt T Oi).put d a7) new (bN args.toList++da [l],[.s d,.m l]):=by
 refine⟨args.toList.flatMap (cQ st)++fZ st [l],[(.s d,ad<|.v a7),(.m l,ad<|.b<|.vec bt T Oi)],?_,?_,FY st d l _ _,?_,λk hk=>kV⟩
 .intro F lM Q O σ g W a K Z aX iB hK;have N:σ (.m l)=ad (.b<|.vec bt T xs):=iB (.m l,.b<|.vec bt T xs) sb;have X:=aX.cM l _ N;have S:gW (λ_=>True) ⟨g.H,λ_=>g.γ l⟩ W 0 (.vec bt T xs):=by
   rcases X with⟨L,e2⟩|⟨b,cap,ws,L,e2,e3,e4,e5,e6,e7,e8⟩
   .exact .inl ⟨L,e2⟩
   .exact .inr ⟨b,cap,ws,L,e2,e3,e4,e5,e6,j,e8⟩
  unfold wpOp;simp only[ho,iv,hg,cz];refine .inl ?_;unfold Oper.wp;have hex:(execOp a.eval D).run P W= .ok (.enter f<|args.map a.eval) W:=by
   have A:=hf.call;unfold oI at A;rw[execOp,b9];cases U:P.funcs[f]? with
   |none=>rw[U]at A;simp at A
   |some fn=>
    rw[U]at A
    simp only[cP,bne_iff_ne,ne_eq]at A
    have h2:fn.body≠none:=by intro hb;rw[hb]at A;simp at A
    simp[resolve,Act.eval,zs,invoke,callFunc,U,A.1,h2]
  rw[hex];simp only[Oper.upon];have aqj:(args.map a.eval)=(args.toList.map a.eval).toArray:=A6;rw[aqj];refine (hf.spec ⟨g.H,λ_=>g.γ l⟩ W _ aX.sub (aeo<|Db aX st _ _ hv<|λkx B=>iB kx<|eT _ B) S).mono ?_;rintro e W' ⟨v,g',rfl,VP,c,p,hle,xM,qZ,q⟩;simp only[hd];have iu:d<a.tmps.size:=nX;let g2:Gh:=⟨g'.H,g.γ⟩;have Gq:gN O g g2:=⟨hle,λ_ _=>rfl⟩;have p:g'.γ 0=g.γ l:=p;have aqk:∀b D,b<W.heap.size->g2.H b D=g.H b D:=by
   intro b D hb;by_cases C:cO (g.γ l)=ad b
   .rcases X with⟨L,_⟩|⟨b1,cap,ws,L,e2,e3,e4,e5,e6,e7,e8⟩
    .rw[L]at C;simp[cO]at C
    .rcases c with⟨z,_⟩|⟨b2,M,ws',z,I,e3',NK,e5',e6',e7',V⟩
     .rw[p,L]at z;simp at z
     .have h1:b1=b:=by rw[L]at C;simpa[cO]using C
      have h2:b2=b:=by rw[<-p,z]at C;simpa[cO]using C
      subst h1;rw[e8 D];subst h2;exact V D
   .exact xM b D hb C
  refine hK g2 W' _<|aX.step (chg:=λgT=>gT=l) (g':=g2) ⟨Gq,aqk,qZ,q.size,?_,q.os,q.tape,q.output⟩ _ new Z pj aX.defers ?_ ?_ ?_ ?_ ?_ ?_
  .intro k hk Y;exact q.block k hk<|Y l J
  .intro t ht;have Y:d≠t:=uR;simp[iK,l0 Y]
  .intro gT hj;subst hj;exact⟨y7,_,N⟩
  .intro t u ht;simp only[aD]at ht;split at ht
   next e=>simp only[Key.s.injEq]at e;simp only[aq,Info.v.injEq]at ht;subst e;subst ht;have:=VP.jh hf.jh (cL.refl _) g.γ;simpa[iK,iu,g2]using this
   .split at ht
    .simp at ht
    .simp at ht
  .intro gT b ht;simp only[aD,reduceCtorEq,b8]at ht;split at ht
   .rename_i e;simp only[Key.m.injEq]at e;simp only[aq,Info.b.injEq]at ht;subst e;subst ht;refine⟨?_,.inl ⟨aX.dX _ _ N,_,N⟩⟩;rcases c with⟨z,I⟩|⟨b2,M,ws',z,I,e3',NK,e5',e6',e7',V⟩
    .exact .inl ⟨by show g.γ l=_;rw[<-p,z],I⟩
    .refine .inr ⟨b2,M,ws',by show g.γ l=_;rw[<-p,z],I,e3',NK,e5',e6',?_,V⟩;exact(X.block (k:=b2)<|by rw[<-p,z];rfl).1
   .simp at ht
  .intro k y ht;simp only[aD]at ht;split at ht
   .simp only[aq]at ht;subst ht;intro l w;simp only[Info.ak]at w;rw[hf.jh]at w;cases w
   .split at ht
    .simp only[aq]at ht;subst ht;intro l w;simp[Info.ak,aA.ak]at w
    .simp at ht
  .intro gT y ht;simp only[aD,reduceCtorEq,b8]at ht;split at ht
   next e=>simp only[Key.m.injEq]at e;exact .inl<|e▸aX.dX _ _ N
   .simp at ht
 .intro kx B;rcases bl.1 B with B|B
  .let ⟨x,_,h⟩:=js.1 B;exact eQ st x kx h
  .exact ly st [l] kx B
 .intro k hk;simp only[dL,gf,bl]at hk;rcases hk with h|h
  .exact eT _<|ff st _ k h
  .exact gO _<|kE st [l] k h
def aqm{n}{b}{a}{A i}{d f:G}{args}{l}{N}{pos}{p}{B}{t}{mem}{u}{v}{D}{Q:St->Prop}{vs}{g}{x}{T}{xs k}{H}
  (W:kF ⟨t,mem,u,v⟩ args.toList=ad (vs.map<|KJ g)) (hl:o g mem=ad (.vec x T xs)) (hf:wG P f vs x T xs H k) (cA:RG P n b a A (i+1) B ⟨(d,H)::t,(g,.vec x T k)::mem,u,v⟩ (ix a D (bN args.toList++da [g],[.s d,.m g])) Q) (z:dZ d n=ae:=by rfl):
  RG P n b a A i (⟨ad d,.call ⟨.value<|.func f,args,l⟩,N,pos,p,none⟩::B) ⟨t,mem,u,v⟩ D Q:=
 nv (λC=>aqi C J J (c7 z) J W hl hf) (nw cA)
def aqn(cK:cE P tt=ae){n N}{Q}{i}{aG:a8}(ho:Q[i]? =ad aG)(hg:aG.guard=none){d:G}(hd:aG.dst=ad d)(dG:d<n){t}{x A B}(b9:aG.op= .slice t x (ad A) (ad B) none)
 {st}{p}{bt}{T:ET} {xs:E T.den} {k1 k2:IntKind} {a b:V} (hx:st.ev x=ad (.c<|.X p)) (hl:o p st.mem=ad (.vec bt T xs)) (hlo:st.ev A=ad (.c<|.I k1 a)) (hhi:st.ev B=ad (.c<|.I k2 b)) (hT:T.n=1) (wh:yW tt t 1=ae)
  {u v:G} (ea:a=(u:V)) (eb:b=(v:V)) (huv:u<v) (hv:v<=Z xs):mZ P n Q i st (st.put d<|.c<|.W p u<|v-u) N (bN [x,A,B]++da [p],[.s d]):=by
 refine⟨(cQ st x++(cQ st A++cQ st B))++fZ st [p],[(.s d,ad<|.v<|.c<|.W p u<|v-u)],?_,?_,qR st d _,?_,λk hk=>kV⟩
 .refine uO ho hg hd dG _ _ N ?_;intro F r σ g W H f D;have w:H.eval x=g.γ p:=dY f st x _ hx<|λz cy=>D z e9;have y:H.eval A= .int k1 a:=dY f st A _ hlo<|λz cy=>D z e9;have L:H.eval B= .int k2 b:=dY f st B _ hhi<|λz cy=>D z e9;have O:σ (.m p)=ad (.b<|.vec bt T xs):=D (.m p,.b<|.vec bt T xs) sb;let ⟨e,i',R,S,hs⟩:=FN cK wh;rcases f.cM p _ O with⟨_,h0⟩|⟨bb,l,vs,q,_,_,xF,_⟩
  .subst h0;simp at hv;omega
  .refine⟨λj hj=>(tx f st x _ hx<|λz cy=>D z e9) j TQ,.slice (ad ⟨bb,u,none⟩) (v-u) (l-u),?_,bb,l-u,by rw[q];rfl,J,Y⟩;have K:execOp H.eval aG=(do pure (.value<|<-Instr.sliceAt t (H.eval x) ((ad A).map H.eval) ((ad B).map H.eval) (none.map H.eval))):=xE;have U:(yY ae (Z xs) l (ad<|.int k1 a) (ad<|.int k2 b) none).run P W= .ok (u,v,l) W:=by have c1:v<=l:=Y;have c2:u<=v:=Y;subst ea eb;simp[yY,Instr.sliceBound,asIntOf,c1,c2,Sem.run,pure]
   have eZ:¬l=u:=Y;rw[K];simp only[xK,Option.map_none,w,y,L,q,Instr.sliceAt,Sem.run_bind,run_underlying R,Result.andThen,Instr.slice,U,run_sizeOf S,hs];simp[eZ,ns,Sem.run,pure]
 .intro z cy;rcases bl.1 cy with h|h
  .rcases bl.1 h with h|h
   .exact eQ _ x z h
   .rcases bl.1 h with h|h
    .exact eQ _ A z h
    .exact eQ _ B z h
  .exact ly _ [p] z h
 .intro k hk;simp only[dL,gf,bl]at hk;rcases hk with(h|h|h)|h
  .exact eT _<|ff st [x,A,B] k uV
  .exact eT _<|ff st [x,A,B] k xH
  .exact eT _ (ff st [x,A,B] k (by simp only[dL,l6,gf,bl];exact .inr<|.inr<|.inl h))
  .exact gO _<|kE st [p] k h
def aeu{g:Gh}(T:ET):∀(xs:E T.den)(vs:E aT),a6 g (xs.flatMap<|av T) vs->Z vs=Z xs*T.n/\∀i(d:i<Z xs),dq g.H T xs[i] ((az (i*T.n) vs).take T.n)
 |[],vs,d=>by have d:vs=[]:=d;subst d;exact⟨au,λi d=>by simp at d⟩
 |x::xs,vs,d=>by
  rw[l6]at d;obtain⟨a,b,rfl,l,m⟩:=IV d;have k:=CR T x a l;have f:=dq.length T _ _ k;let ⟨hl,hc⟩:=aeu T xs b m;refine⟨by simp[f,hl,gY];omega,λi p=>?_⟩;cases i with
  |zero=>
   simp[so,sr,xC]
   rw[<-f,List.take_left']
   .exact k
   .rfl
  |succ i=>
   simp[C2]
   have:=hc i (by simpa using p)
   rw[show(i+1)*T.n=Z a+i*T.n by rw[gY,f];omega,<-se,List.drop_left']
   .exact this
   .rfl
def aqp(cK:cE P tt=ae){n new}{ops}{i}{aG:a8}(ho:ops[i]? =ad aG)(hg:aG.guard=none){d:G}(hd:aG.dst=ad d)(dG:d<n){x p}{t1 t2}(b9:aG.op= .call ⟨.builtin .copy,#[x,p],#[t1,t2]⟩)
 {st}{l}{N E1:eI} {T}{xs f:E T.den} {ei:TI} (hx:st.ev x=ad (.c<|.X l)) (hl:o l st.mem=ad (.vec N T xs)) (hy:st.ev p=ad (.c<|.S T f)) (hT:Bk tt t1 t2=ad (E1,ei)) (uQ:ei.size=T.n) (hle:Z f<=Z xs) (A:xs≠[]):
  mZ P n ops i st ((st.pm l<|.vec N T<|f++az (Z f) xs).put d<|.c<|.I .i64<|Z f) new (bN [x,p]++da [l],[.s d,.m l]):=by
 refine⟨(cQ st x++cQ st p)++fZ st [l],[(.s d,ad<|.v<|.c<|.I .i64<|Z f),(.m l,ad<|.b<|.vec N T<|f++az (Z f) xs)],?_,?_,FY st d l _ _,?_,λk hk=>kV⟩
 .intro F lM Q known σ g W a K O aX q hK;have hT:=N' cK hT;rw[uQ]at hT;have zg:a.eval x=g.γ l:=dY aX st x _ hx<|λr cy=>q r e9;have B:σ (.m l)=ad (.b<|.vec N T xs):=q (.m l,.b<|.vec N T xs) sb;let ⟨e2,jN⟩:=hT.u2;let ⟨inf,z,R,U,Gn,zh,v8⟩:=hT.info;let ⟨us,D,zl,tL,zm⟩:=Dq (P:=P) (st:=st) (sz:=T.n) (y:= .c<|.S T f) (m:=Z f) (cs:=f.flatMap<|av T) (ids:=[]) aX (by simp[we]) (dY aX st p _ hy<|λr cy=>q r e9) (λl aY=>yX) jN<|nY.2<|abG f;let ⟨w,huc⟩:=aeu T f us zl;rcases aX.cM l _ B with⟨_,h0⟩|⟨b,cap,vs,L,hh,V,xF,hlen,hr,hN,hz⟩
  .exact aF h0 A
  have NY:Z us<=Z vs:=by rw[w,V];exact dS _ Y
  have wh:=A1 (P:=P) b us W vs 0 0 hh Y zm;simp only[jZ]at wh;have jL:(Builtin.copy_ #[t1,t2] aG.type #[a.eval x,a.eval p]).run P W= .ok (.int .i64<|Z f) (jy W b (cR vs us 0) N):=by rw[zg,L];have Ul:Nat.min (Z f) (Z xs)=Z f:=uY hle;simp[Builtin.copy_,run_underlying hT.u1,sizeOf,typeInfo,R,D.len,Ul,U,D.cells,wh,goInt,Sem.run,pure]
  have hex:(execOp a.eval aG).run P W= .ok (.value<|.int .i64<|Z f) (jy W b (cR vs us 0) N):=by refine Gk b9<|λcs=>?_;have e:(#[x,p]:Array Operand).map a.eval= #[a.eval x,a.eval p]:=au;rw[e];simp only[Go.builtin,Sem.run_bind,jL,Result.andThen];rfl
  unfold wpOp;simp only[ho,iv,hg,cz];refine .inl ?_;unfold Oper.wp;rw[hex];simp only[Oper.upon,hd];have iu:d<a.tmps.size:=nX;have hb:b<W.heap.size:=(fY.1 hh).1;have M:Z (f++az (Z f) xs)=Z xs:=cd;refine hK g _ _<|aX.step (chg:=λj=>j=l) (g':=g) ⟨⟨cL.refl _,λ_ _=>rfl⟩,λ_ _ _=>rfl,A2 aX.sub hz,A3,?_,J,J,J⟩ _ new O pj aX.defers ?_ ?_ ?_ ?_ ?_ ?_
  .intro k' uT A;have:b≠k':=λe=>A l J (by rw[L,e];rfl)
   exact y4 this
  .intro t ht;have A:d≠t:=uR;simp[iK,l0 A]
  .intro j H;subst H;exact⟨y7,_,B⟩
  .intro t u ht;simp only[aD]at ht;split at ht
   next e=>simp only[Key.s.injEq]at e;simp only[aq,Info.v.injEq]at ht;subst e;subst ht;simp[iK,iu,bh,de]
   .split at ht
    .simp at ht
    .simp at ht
  .intro j bk H;simp only[aD,reduceCtorEq,b8]at H;split at H
   .rename_i e';simp only[Key.m.injEq]at e';subst e';simp only[aq,Info.b.injEq]at H;subst H;refine⟨.inr ⟨b,cap,cR vs us 0,by rw[M];exact L,FQ hb,?_,by rw[M];exact xF,by rw[M];exact hlen,λj H=>?_,hN,hz⟩,.inl ⟨aX.dX _ _ B,_,B⟩⟩
    .rw[y5 _ _ _ Y];exact V
    .have tE:cR vs us 0=us++az (Z us) vs:=by simp[cR]
     rw[tE];by_cases xy:j<Z f
     .rw[sa xy];have h2:j*T.n+T.n<=Z us:=by rw[w,(Ja:j*T.n+T.n=(j+1)*T.n)];exact dS _ Y
      rw[C3 Y,y6 cd];exact huc j xy
     .have JK:j<Z xs:=by omega
      rw[Js Y,vV];have e1:Z f+(j-Z f)=j:=Y;have h3:Z us<=j*T.n:=by rw[w];exact dS _ Y
      have e2:az (j*T.n) (us++az (Z us) vs)=az (j*T.n) vs:=by rw[List.drop_append,vX h3,vW,se,(Y:Z us+(j*T.n-Z us)=j*T.n)]
      rw[e2];simp only[e1];exact hr j JK
   .simp at H
  .intro k p ht;simp only[aD]at ht;split at ht
   .simp only[aq]at ht;subst ht;intro l aY;simp[Info.ak,AV.ak,C.ak]at aY
   .split at ht
    .simp only[aq]at ht;subst ht;intro l aY;simp[Info.ak,aA.ak]at aY
    .simp at ht
  .intro j p ht;simp only[aD,reduceCtorEq,b8]at ht;split at ht
   next e=>simp only[Key.m.injEq]at e;exact .inl<|e▸aX.dX _ _ B
   .simp at ht
 .intro r cy;rcases bl.1 cy with h|h
  .rcases bl.1 h with h|h
   .exact eQ _ x r h
   .exact eQ _ p r h
  .exact ly _ [l] r h
 .intro k hk;simp only[dL,gf,bl]at hk;rcases hk with(h|h)|h
  .exact eT _<|ff st [x,p] k uV
  .exact eT _<|ff st [x,p] k xH
  .exact gO _<|kE st [l] k h
end
section
variable{n:G}{sl sl':E (G×AV)}{mem bT:E (G×aA)}{nx:G}{gd gd':E (G×Bool)}{ops:Array a8}{draw:Bool}{p:Pr}{ks dC:E Ks}{i i' n0 cw:G}{os dR:E a8}{d:G}{ty:eI}{pos:String}{iF:Array Edge}{R:St->Prop}
def BD id{f}{args}{b}{vs}{g}{T}{xs a}{l}(u:runs dM n nx draw ops.toList os i ⟨sl,mem,n0,gd⟩ .t ks=(⟨ad d,.call ⟨.value<|.func f,args,b⟩,ty,pos,iF,none⟩::dR,i',⟨sl',bT,cw,gd'⟩,p,dC))(v:wG O f vs g T xs l a)(x:kF ⟨sl',bT,cw,gd'⟩ args.toList=ad (vs.map<|KJ id))(z:o id bT=ad (.vec g T xs))
  (A:RG O n ops draw nx (i'+1) dR ⟨(d,l)::sl',(id,.vec g T a)::bT,cw,gd'⟩ (ix draw dC (bN args.toList++da [id],[.s d,.m id])) R)
  (hp:p:=by exact m5) (k:dZ d n=ae:=by rfl):RG O n ops draw nx i os ⟨sl,mem,n0,gd⟩ ks R:=
 jO cq u hp (aqm x z v A k)
def rw_(u v:G){t}{x g k}{f}{D}{T}{xs}{H N}{a b}(P:runs dM n nx draw ops.toList os i ⟨sl,mem,n0,gd⟩ .t ks=(⟨ad d,.slice t x (ad g) (ad k) none,ty,pos,iF,none⟩::dR,i',⟨sl',bT,cw,gd'⟩,p,dC))
  (Q:St.ev ⟨sl',bT,cw,gd'⟩ x=ad (.c<|.X f)) (hl:o f bT=ad (.vec D T xs)) (l:St.ev ⟨sl',bT,cw,gd'⟩ g=ad (.c<|.I H a)) (m:St.ev ⟨sl',bT,cw,gd'⟩ k=ad (.c<|.I N b)) (ea:a=(u:V)) (eb:b=(v:V)) (z:u<v) (hv:v<=Z xs)
  (hk:RG O n ops draw nx (i'+1) dR ⟨(d,.c<|.W f u<|v-u)::sl',bT,cw,gd'⟩ (ix draw dC (bN [x,g,k]++da [f],[.s d])) R) (hT:T.n=1:=by rfl) (A:yW dM t 1=ae:=by rfl)
  (hp:p:=by exact m5) (B:dZ d n=ae:=by rfl):RG O n ops draw nx i os ⟨sl,mem,n0,gd⟩ ks R:=
 jO cq P hp (nv (λC=>aqn cq C J J (c7 B) J Q hl l m hT A ea eb z hv)<|nw hk)
def Ps{x f}{v z}{a}{A D:eI}{T}{xs b}{B}(H:runs dM n nx draw ops.toList os i ⟨sl,mem,n0,gd⟩ .t ks=(⟨ad d,.call ⟨.builtin .copy,#[x,f],#[v,z]⟩,ty,pos,iF,none⟩::dR,i',⟨sl',bT,cw,gd'⟩,p,dC))
  (N:St.ev ⟨sl',bT,cw,gd'⟩ x=ad (.c<|.X a)) (P:o a bT=ad (.vec A T xs)) (Q:St.ev ⟨sl',bT,cw,gd'⟩ f=ad (.c<|.S T b)) (W:Bk dM v z=ad (D,B)) (g:Z b<=Z xs) (k:xs≠[])
  (hk:RG O n ops draw nx (i'+1) dR ⟨(d,.c<|.I .i64<|Z b)::sl',(a,.vec A T<|b++az (Z b) xs)::bT,cw,gd'⟩ (ix draw dC (bN [x,f]++da [a],[.s d,.m a])) R) (l:B.size=T.n:=by rfl)
  (hp:p:=by exact m5) (u:dZ d n=ae:=by rfl):RG O n ops draw nx i os ⟨sl,mem,n0,gd⟩ ks R:=
 jO cq H hp (nv (λC=>aqp cq C J J (c7 u) J N P Q W l g k)<|nw hk)
end
section
variable{P:bW}{tt:TT}
def aqr{d}{m}{st}{Q:St->Prop}{F}{id}{T:Exit->Act->cJ->Prop}(B:xx F.rd d)(lu:P.follows .mixedOrders=ae)(cA:RG P F.n d m st.nx 0 d.toList st [] Q)
  (hQ:∀p,Q p->∀g W a,aR F (kb p) p.kn g W a->T .normal a W) {g}{W}{a}(h0:aR F (kb st) st.kn g W a):(Code.region id d m).wpIn (dP F.rd) 0 P T a W:=by
 let ⟨ds,p,hl,G,h2,L,M,O,S,U⟩:=cA au
 have V:Z ds=d.size:=vU
 have r:∀i,i<d.size->uL P F.n d i ((I ds i ([],[])).1) ((I ds i ([],[])).2) (r8 (λi=>1000000*st.nx+1000*i) i):=by intro i X;have:=G i Y;rw[xJ ds _ i Y];simpa using this
 have w:∀i,i<d.size->∀N∈(I ds i ([],[])).1,fold (λi=>(I ds i ([],[])).2) st.kn (bJ i) N.1=ad N.2:=by intro i X N C;rw[F5 ds st.kn i Y];rw[xJ ds _ i Y]at C;exact h2 i Y N C
 have x:∀g W a,aR F (·<1000000*st.nx+1000*d.size) (fold (λi=>(I ds i ([],[])).2) st.kn<|bJ d.size) g W a->T .normal a W:=by intro g W a y;refine hQ p U g W a ?_;rw[L];rw[F5 ds st.kn d.size Y,jM Y]at y;exact y.weaken (λid aY=>by simp[kb,M];omega)
 cases m with
 |false=>exact Tq (c:=λi=>1000000*st.nx+1000*i) (λi=>Nz) h0 r w x B
 |true=>
  let ⟨D,⟨oF,e⟩,H⟩:=S J
  have E:=T0 H
  have s:∀i j,i<j->j<d.size->∀a b:Ks,(D[i]? =ad a->D[j]? =ad b->py a b=ae->np d i j):=by intro i j l v a b ha hb hc;exact E.2 i j a b l v xI tH hc
  have f:∀i(X:i<d.size),∃a,D[i]? =ad a/\(∀k∈dL (I ds i ([],[])).1,k∈a.1)/\∀k∈gw (I ds i ([],[])).2,k∈a.2:=by intro i X;have K:i<Z D:=Y;refine⟨D[i],df K,?_⟩;rw[xJ ds _ i Y];exact e i Y K
  refine Ts (c:=λi=>1000000*st.nx+1000*i) (λi=>Nz) lu E.1 h0 r w ?_ ?_ ?_ x B
  .intro i j l v k t u;let ⟨a,ha,_,z⟩:=f i Y;let ⟨b,hb,_,A⟩:=f j v;exact s i j l v a b ha hb (by simp[py,za (z k t)<|A k u,F6])
  .intro i j l v k t u;let ⟨a,ha,_,z⟩:=f i Y;let ⟨b,hb,o,_⟩:=f j v;exact s i j l v a b ha hb (by simp[py,za (z k t)<|o k u,F6,F7])
  .intro i j l v k t u;let ⟨a,ha,q,_⟩:=f i Y;let ⟨b,hb,_,A⟩:=f j v;exact s i j l v a b ha hb (by simp[py,za (q k t)<|A k u,F7])
def dO.dr(a:dO)(ds:E Deferred):dO:={a with ds:=ds}
abbrev wI:=dO->E Deferred->cJ->Prop
def BE(a:wI):Prop:=∀F b W d,KeepsOthers W d->a F b W->a F b d
variable{n:G}{Q:iD}{st:St}{O:wI}
def iY(n:G)(d:Exit)(st:St)(O:wI)(Q:iD):Prop:=∀F:dO,F.n=n->F.k0<=1->∀b g W a,aR (F.dr b) (kb st) st.kn g W a->O F b W->Q F d a W
def TJ(P:bW)(n:G)(b:fJ)(st:St)(O:wI)(Q:iD):Prop:=∀F:dO,F.n=n->F.k0<=1->nB F.rd b->∀d g W a,aR (F.dr d) (kb st) st.kn g W a->O F d W->b.wpIn (dP F.rd) 0 P (Q F) a W
def DW(P:bW)(b:fJ)(Q:iD):iD:=λF=>Exit.then (λa W=>nB F.rd b->b.wpIn (dP F.rd) 0 P (Q F) a W)<|Q F
def Hj(a:G)(Q:iD):iD:=λF=>Exit.inBlock a<|Q F
def KK{d:Type}(b:d->St)(l:d->Prop)(i:d->G)(x:d)(O:wI)(Q:iD):iD:=λF=>Exit.then (λa W=>∃f g k,l f/\i f<i x/\aR (F.dr k) (kb<|b f) (b f).kn g W a/\O F k W)<|Q F
def og{x d}(i:TJ P n x st O (DW P d Q)):TJ P n (.seq x d) st O Q:=λF k l b m g W a p s=>by
 let ⟨t,h2⟩:=b.seq;refine wpIn_seq<|wpIn_mono (i F k l t m g W a p s) ?_;intro e u v f;cases e with
 |normal=>exact f h2
 |_=>exact f
def wJ(b:iY n .normal st O Q):TJ P n .skip st O Q:=λF d f _ i g W a k l=>wpIn_skip<|b F d f i g W a k l
def VZ{b}(d:iY n (.exit b) st O Q):TJ P n (.exit b) st O Q:=λF f i _ k g W a l m=>wpIn_exit<|d F f i k g W a l m
def V0(b:iY n .ret st O Q):TJ P n .ret st O Q:=λF d f _ i g W a k l=>wpIn_ret<|b F d f i g W a k l
def sK{d}{f}(i:TJ P n f st O (Hj d Q)):TJ P n (.block d f) st O Q:=λF k l b m g W a p s=>wpIn_block<|i F k l b m g W a p s
def vi{d}{x k}{b}(t:st.ev d=ad (.c<|.B b))(u:b=ae->TJ P n x st O Q)(v:b=ah->TJ P n k st O Q):TJ P n (.cond d x k) st O Q:=by intro F l m f p g W a i s;let ⟨z,h2⟩:=f.cond;have A:bh g (.c<|.B b) (a.eval d):=dY i st d _ t<|eQ st d;exact wpIn_cond_split A (λe=>u e F l m z p g W a i s)<|λe=>v e F l m h2 p g W a i s
def sL(m:E (G×aA)):Bool:=m.all λe=>match e.2 with
 | .mp _ _ _=>ah
 | .it _ _ _=>ah
 |_=>ae
def KL{st:St}(d:sL st.mem=ae):Kz st.kn:=by
 intro i y f e;simp only[St.kn,bY,Info.b.injEq]at e;obtain⟨b,g,rfl⟩:=e;have a:=nY.1 d _<|ya g;cases b with
 |mp k l xs=>cases a
 |it m n seen=>cases a
 |_=>cases f
def Pt{v}{d}{b}(i:P.follows .mixedOrders=ae)(x:BE O)(l:sL st.mem=ae)(z:RG P n d b st.nx 0 d.toList st [] (λf=>iY n .normal f O Q)):TJ P n (.region v d b) st O Q:=by intro F A B m p g W a t C;subst A;refine aqr (F:=(F.dr p).re W g<|1000000*st.nx) (st:=st) m.region i z (λf D H u K s=>?_)<|aR.re (k:=1000000*st.nx) t<|KL l;let ⟨N,h2,_⟩:=aR.un (k:=1000000*st.nx) (k':=1000000*f.nx) t s;exact D F J B p H u K N<|x F p W u h2 C
def KM{d}{st'}(k:Wk st st')(l:TJ P n d st' O Q):TJ P n d st O Q:=by intro F m f b i g W a p s;let ⟨t,u⟩:=k (F.dr i) f g W a p;exact l F m f b i t W a u s
def BF{b}{st'}(i:Wk st st')(k:iY n b st' O Q):iY n b st O Q:=by intro F l d f g W a m p;let ⟨s,t⟩:=i (F.dr f) d g W a m;exact k F l d f s W a t p
def nD{d}(f:TJ P n d st O Q):iY n .normal st O (DW P d Q):=λF i k l g W a m p b=>f F i k b l g W a m p
def V1{b}{a}(d:iY n (.exit a) st O Q):iY n (.exit a) st O (DW P b Q):=d
def V2{a}(b:iY n .ret st O Q):iY n .ret st O (DW P a Q):=b
def wK{a}(b:iY n .normal st O Q):iY n .normal st O (Hj a Q):=b
def aew{a}(b:iY n .ret st O Q):iY n .ret st O (Hj a Q):=b
def V3{b}(d:iY n .normal st O Q):iY n (.exit b) st O (Hj b Q):=λF f i k g W a l m=>by simp[Hj,Exit.inBlock,cz];exact d F f i k g W a l m
def V4{a:Type}{b:a->St}{f:a->Prop}{g:a->G}{x}{d}(i:iY n (.exit d) st O Q):iY n (.exit d) st O (KK b f g x O Q):=i
def aqs{a:Type}{b:a->St}{d:a->Prop}{f:a->G}{x}(g:iY n .ret st O Q):iY n .ret st O (KK b d f x O Q):=g
def Hk{f:Type}{b:f->St}{k:f->Prop}{i:f->G}{x}d(m:k d)(p:i d<i x)(s:Wk st (b d)):iY n .normal st O (KK b k i x O Q):=by intro F B t l g W a u v;let ⟨z,A⟩:=s (F.dr l) t g W a u;exact⟨d,z,l,m,p,A,v⟩
def KN{α:Type}(b:α->St)(f:α->Prop)(t:α->G) i{u}(A:f i)(B:Wk st (b i))(round:∀x,f x->TJ P n u (b x) O (KK b f t x O Q)):TJ P n (.loop u) st O Q:=by
 intro F C v k d g W a D l;let ⟨H,K⟩:=B (F.dr d) v g W a D;refine Vp (λx a W=>f x/\∃g d,aR (F.dr d) (kb<|b x) (b x).kn g W a/\O F d W) t i ⟨A,H,d,K,l⟩ ?_;rintro x a W ⟨m,g,d,hg,l⟩;refine wpIn_mono (round x m F C v k.loop d g W a hg l) ?_;intro e j o z;cases e with
 |normal=>
  let ⟨N,p,s,T,h2,X,h⟩:=z
  exact⟨N,⟨T,p,s,X,h⟩,h2⟩
 |_=>exact z
end
section
variable{F:dO}{sl sl':E (G×AV)}{M M':E (G×aA)}{nx nx':G}{gd gd':E (G×Bool)}{g g':Gh}{W W':cJ}{a a':Act}{K:G->Prop}
def aR.frame{n'}{ds'}{rd'}(f:aR F K (St.kn ⟨sl,M,nx,gd⟩) g W a)(H:a'.tmps.size=n')(N:a'.defers=ds')(l:∀t v,o t sl'=ad v->bh g v (a'.tmps.getD t undef)/\∀d∈v.ak,K d)(P:∀d b,o d M'=ad b->o d M=ad b):
  aR {F with n:=n',ds:=ds',rd:=rd'} K (St.kn ⟨sl',M',nx',gd'⟩) g W a':=by
 have p:∀d x,(St.kn ⟨sl',M',nx',gd'⟩) (.m d)=ad x->(St.kn ⟨sl,M,nx,gd⟩) (.m d)=ad x:=by intro d x i;simp only[St.kn,bY]at i⊢;let ⟨b,z,e⟩:=i;exact⟨b,P d b z,e⟩
 refine⟨H,N,λt v D=>?_,λd b z=>f.cM d b<|p _ _ z,λd A b Q k T X c q=>f.inj d A b Q k (p _ _ T) (p _ _ X) c q,λB x i d u=>?_,λd x i=>f.dX d x<|p _ _ i,f.sub,f.below,f.le,f.fresh,f.fT⟩
 .simp only[St.kn,bY]at D;let ⟨y,C,e⟩:=D;cases e;exact(l t v C).1
 .cases B with
  |m j=>exact f.ak (.m j) x (p _ _ i) d u
  |s j=>
   simp only[St.kn,bY]at i
   let ⟨y,C,e⟩:=i
   subst e
   exact(l j y C).2 d u
def aR.re1{k}{d}(l:aR F (·<k) d g W a)(n:1<=k)(f:Kz d):aR (F.re W g 1) (·<k) d g W a:=by have b:=l.re f;exact⟨b.size,b.defers,b.dW,b.cM,b.inj,b.ak,b.dX,b.sub,b.below,b.le,b.fresh,λm i=>⟨by have:m<1:=i;omega,J⟩⟩
def aR.un1{k k'}{D u}(f:aR F (·<k) D g W a)(H:F.k0<=1)(d:aR (F.re W g 1) (·<k') u g' W' a'):
  aR F (·<k') u g' W' a'/\KeepsOthers W W'/\gN (·<1) g g':=by
 refine⟨⟨d.size,d.defers,d.dW,λm b z=>(d.cM m b z).O4 ?_ ?_,d.inj,d.ak,d.dX,d.sub,?_,f.le.trans d.le,?_,?_⟩,?_,d.le,λm n=>(d.fT m n).2⟩
 .intro x vs E p C i;rcases i with i|i
  .exact .inl<|br f.below.size i
  .exact i.1
 .intro x _ i;rcases i with i|i
  .exact .inl<|br f.below.size i
  .exact i.1
 .refine⟨d.below.os.trans f.below.os,d.below.tape.trans f.below.tape,d.below.output.trans f.below.output,br f.below.size d.below.size,λj t l=>?_⟩;rw[<-f.below.block j t l];refine d.below.block j (gK t f.below.size)<|λv=>?_;rcases v.1 with s|s
  .omega
  .exact l s
 .intro b o z l;rw[<-f.fresh b o z l];refine d.fresh b o (gK z f.below.size)<|λv=>?_;rcases v.1 with s|s
  .omega
  .exact l s
 .intro m n;have A:=d.fT m (Y:m<1);exact⟨A.1,A.2.trans (f.fT m n).2⟩
 .refine⟨d.below.size,λj o t B=>?_⟩;rw[<-t];refine d.below.block j (fY.1 t).1<|λv=>?_;rw[v.2 o t]at B;cases B
def oh(b:E aT):aT:= .func (.func 0) #[] b.toArray
def aR.ghost{k}(p:aR F (·<k) (St.kn ⟨sl,M,nx,gd⟩) g W a)(hk:1<=k)(oL:F.k0=0)(hz:∀t v,o t sl=ad v->0∉v.ak)(T:∀d b,o d M=ad b->d≠0/\0∉b.ak){f}{B}(hr:dK g f B)(hc:∀d∈et f,d≠0/\d<k):
  aR {F with k0:=1,γ0:=λ_=>oh B} (·<k) (St.kn ⟨sl,(0,.eB 0 [] f)::M,nx',gd'⟩) (g.new 0<|oh B) W a:=by
 have C:gN (λd=>d≠0) g (g.new 0<|oh B):=⟨cL.refl _,λd i=>by simp[Gh.new,i]⟩
 have w:Ext (λd=>d≠0) (λ_=>False) g W (g.new 0<|oh B) W:=⟨C,λ_ _ _=>rfl,p.sub,aL _,λ_ _ _=>rfl,J,J,J⟩
 have z:(g.new 0<|oh B).γ 0=oh B:=by simp[Gh.new]
 have Q:∀d b,(St.kn ⟨sl,(0,.eB 0 [] f)::M,nx',gd'⟩) (.m d)=ad (.b b)->(d=0/\b= .eB 0 [] f)\/(d≠0/\o d M=ad b):=by
  intro d b H;simp only[St.kn,o,bY]at H;let ⟨y,N,e⟩:=H;cases e;split at N
  next e=>cases N;exact .inl ⟨e.symm,J⟩
  next e=>exact .inr ⟨λp=>e p.symm,N⟩
 have A:∀d b,o d M=ad b->(St.kn ⟨sl,M,nx,gd⟩) (.m d)=ad (.b b):=λd b H=>by simp[St.kn,H]
 refine⟨p.size,p.defers,λt v q=>?_,λd b H=>?_,λd P b r X E G I L=>?_,λc x u d i=>?_,λd x u=>?_,p.sub,p.below,p.le,p.fresh,λd i=>?_⟩
 .simp only[St.kn,bY]at q;let ⟨y,N,e⟩:=q;cases e;exact bh.mono C (λd i e=>hz t v N<|e▸i) (p.dW t v<|by simp[St.kn,N])
 .rcases Q d b H with⟨rfl,rfl⟩|⟨l,n⟩
  .exact⟨[],B,z,J,dK.mono C (λd i=>(hc d i).1) hr⟩
  .exact(p.cM d b<|A d b n).step w l (λj O e=>(T d b n).2<|e▸O)<|λ_ _ R _=>R.elim
 .have l:∀d b,(St.kn ⟨sl,(0,.eB 0 [] f)::M,nx',gd'⟩) (.m d)=ad (.b b)->cO ((g.new 0<|oh B).γ d)=ad X->o d M=ad b/\cO (g.γ d)=ad X:=by
   intro d b H D;rcases Q d b H with⟨rfl,rfl⟩|⟨l,n⟩
   .rw[z]at D;simp[oh,cO]at D
   .rw[C.γ d l]at D;exact⟨n,D⟩
  let ⟨p1,S⟩:=l d b E I;let ⟨q1,U⟩:=l P r G L;exact p.inj d P b r X (A _ _ p1) (A _ _ q1) S U
 .cases c with
  |s j=>
   exact p.ak (.s j) x u d i
  |m j=>
   cases x with
   |v _=>simp[St.kn]at u
   |b y=>
    rcases Q j y u with⟨rfl,rfl⟩|⟨l,n⟩
    .have:d∈et f:=by simpa[Info.ak,aA.ak,et]using i
     exact(hc d this).2
    .exact p.ak (.m j) (.b y) (A j y n) d i
 .cases x with
  |v _=>simp[St.kn]at u
  |b y=>
   rcases Q d y u with⟨rfl,rfl⟩|⟨l,n⟩
   .exact hk
   .exact p.dX d (.b y)<|A d y n
 .have:d=0:=by have:d<1:=i;omega
  subst this;exact⟨hk,z⟩
def aR.Pu{k}{i}(l:aR F (·<k) i g W a){d}(s:F.k0=1)(f:F.γ0 0=oh d){caps}(n:i (.m 0)=ad (.b<|.eB 0 [] caps)):dK g caps d:=by
 let ⟨us,vs,e,_,h2⟩:=l.cM 0 _ n;rw[(l.fT 0 Y).2,f]at e;simp only[oh,Value.func.injEq]at e;have:d=vs:=by have:=e.2.2;simpa using this
 rw[this];exact h2
end
section
variable{P:bW}{tt:TT}
inductive SG(P:bW)(n:G)(a:Array a8)(nx:G):G->St->G->St->Prop
 |nil {i:G} {st b:St} (h:b.kn=st.kn):SG P n a nx i st i b
 |cons {i g:G} {st d f:St} {k:Ks} (h:mZ P n a i st d (1000000*nx+1000*i) k) (t:SG P n a nx (i+1) d g f):SG P n a nx i st g f
def SG.le{n}{a}{f i d}{g b}(k:SG P n a f i g d b):i<=d:=by
 induction k with
 |nil _=>exact aL _
 |cons _ _ l=>omega
def SG.sound{n}{d}{s i m}{x f}(p:SG P n d s i x m f):∀(b:dO),b.n=n->xx b.rd d->∀(Q:Exit->Act->cJ->Prop)(rest:E G) g W a,aR b (·<1000000*s+1000*i) x.kn g W a->
  (∀z u v,aR b (·<1000000*s+1000*m) f.kn z u v->wpOpsIn (dP b.rd) 0 P d Q rest v u)->wpOpsIn (dP b.rd) 0 P d Q (KB i (m-i)++rest) a W:=by
 induction p with
 |nil p=>
  intro b A k Q rest g W a B C
  rw[kg]
  exact C g W a (by rw[p];exact B)
 |@cons i m x T f e p t X=>
  intro b A k Q rest g W a B C
  have c:=t.le
  let ⟨rd,wr,D,H,K,_,_⟩:=p
  rw[(Y:m-i=(m-(i+1))+1),FB,mY,wpOpsIn_cons]
  refine M6 (k i) ?_
  refine D b A _ (·<1000000*s+1000*i) _ g W a _ (Hb _) B H<|λz u v N=>?_
  rw[<-K]at N
  exact X b A k Q rest z u v (N.weaken<|λo l=>by rcases l with l|l<;>omega) C
def aez{n A:G}{b:Array a8}(m:cE P tt=ae):∀(s:E a8)(i:G)(t:St)(p:Pr)(u:E Ks){f:E a8}{v j:G}{d st2:St}{x:Pr}{g:E Ks},runs tt n A ah b.toList s i t p u=(f,v,d,x,g)->x->(∀l z,s[l]? =ad z->b[i+l]? =ad z)->(p->SG P n b A v d j st2->SG P n b A i t j st2)/\p
 |[],i,t,p,u,f,v,j,d,st2,x,g,a,hp,_=>by simp[runs]at a;obtain⟨rfl,rfl,rfl,rfl,rfl⟩:=a;exact⟨λ_ a=>a,hp⟩
 |z::s,i,t,p,u,f,v,j,d,st2,x,g,a,hp,hg=>by
  rw[runs]at a;split at a
  .rename_i B l k K;let ⟨N,g2⟩:=aez m s (i+1) B (.an p l) (ix ah u k) (j:=j) (st2:=st2) a hp (λr Q C=>by have:=hg (r+1) Q (by simpa using C);rwa[(Y:i+(r+1)=i+1+r)]at this);have H:p.h/\l.h:=by have:(Pr.an p l).h:=g2;cases p<;>cases l<;>simp_all[Pr.an,Pr.h]
   refine⟨λ_ D=> .cons (aa9 m (hg 0 z J) K H.2)<|N g2 D,H.1⟩
  .simp at a;obtain⟨rfl,rfl,rfl,rfl,rfl⟩:=a;exact⟨λ_ a=>a,hp⟩
end
structure RgD where
 n0:G
 a0:Act
 S0:E (G×AV)
 caps:E (Bool×E C)
 ws:E aT
 l:G
 D:G
 fnid:jB
 p:G
 fb:fJ
 bd:fJ
 ms:E G
def wL:wI:=λ_ a _=>a=[]
def Hl:BE wL:=λ_ _ _ _ _ h=>h
def KO(f:Bool)(d:G)(Mo:E (G×aA)):iD:=λF e a W=>e=(if f then .normal else .exit d)/\∃g b,1<=b/\aR (F.dr []) (·<1000000*b) (St.kn ⟨[],Mo,b,[]⟩) g W a
def oS(b:Bool)(a:G):Option fJ:=if b then none else ad (.exit a)
section
variable{P:bW}{R:RgD}
def aR.restrict{l}{K K':G->Prop}{i}{g}{W}{a}(b:aR l K i g W a)(n:∀k x,i k=ad x->∀d∈x.ak,K' d)(p:∀d x,i (.m d)=ad x->K' d)(s:∀d,d<l.k0->K' d):aR l K' i g W a:=
 ⟨b.size,b.defers,b.dW,b.cM,b.inj,n,p,b.sub,b.below,b.le,b.fresh,λd f=>⟨s d f,(b.fT d f).2⟩⟩
end
def OM:wI:=λF a W=>F.k0=0/\F.rd=none/\∃mk:E G,a=mk.map kK/\(∀D∈mk,W.heap[D]? =ad (.deferred<|ad [])/\F.w0.heap.size<=D)/\mk.Nodup
def jv:BE OM:=λ_ _ _ _ d ⟨f,g,mk,i,a,k⟩=>⟨f,g,mk,i,λD b=>⟨d.same _ _ (a D b).1 J,(a D b).2⟩,k⟩
def nE(a:E (G×C)):E (G×AV):=a.map λs=>(s.1,.c s.2)
def sO(a:E (G×C)):E (Bool×E C):=a.map λs=>(ah,[s.2])
def Pv{t:G}{v:AV}:∀{b:E (G×C)},o t (nE b)=ad v->∃d,v= .c d/\o t b=ad d
 |[],a=>by simp[nE,o]at a
 |s::b,a=>by
  simp[nE,gX,o]at a⊢;by_cases f:s.1=t
  .rw[q f]at a⊢;cases a;exact⟨s.2,J,J⟩
  .rw[y f]at a⊢;exact Pv a
def aeA{g:Gh}:∀{b d:E (Bool×E C)}{f vs:E aT},dK g b f->dK g d vs->dK g (b++d) (f++vs)
 |[],_,_,_,a,i=>by simp[dK]at a;subst a;exact i
 |s::b,d,f,vs,a,i=>by obtain⟨v,k,rfl,l,m⟩:=a;exact⟨v,k++vs,J,l,aeA m i⟩
def aeB{g:Gh}{f:G->aT}:∀{a:E (G×C)},(∀s∈a,de g s.2 (f s.1))->dK g (sO a) (a.map λs=>f s.1)
 |[],_=>rfl
 |s::a,b=>⟨_,_,J,b s au,aeB λx hx=>b x mW⟩
def V5{g:Gh}{f:G->aT}{i:E (Bool×E C)}{vs:E aT}:∀{a:E (G×C)},dK g (sO a++i) ((a.map λs=>f s.1)++vs)->(∀s∈a,de g s.2 (f s.1))/\dK g i vs
 |[],b=>⟨λs l=>(by cases l),b⟩
 |s::a,b=>by
  let ⟨v,n,k,m,h2⟩:=b;simp[gX,mY]at k;obtain⟨rfl,rfl⟩:=k;let ⟨i1,i2⟩:=V5 h2;refine⟨λx d=>?_,i2⟩;rcases b7.1 d with rfl|d
  .exact m
  .exact i1 x d
structure pH where
 n0:G
 a0:Act
 S0:E (G×AV)
 caps:E (Bool×E C)
 ws:E aT
 l:G
 D:G
 fnid:jB
 p:G
 q:G
 fb:fJ
 bd:fJ
 ms:E G
def pH.O(a:pH)(b:Option fJ):wI:=λF d W=>F.k0=1/\F.γ0 0=oh a.ws/\F.rd=none/\d=[]/\F.w0.heap.size<=a.l/\W.heap[a.l]? =ad (.loop<|kh a.fnid a.a0.tmps [a.p,a.q] a.fb a.bd a.D b)/\∀D∈a.ms,W.heap[D]? =ad (.deferred<|ad [])
def pH.V6(b:pH) pd:BE (b.O pd):=λ_ _ _ _ a ⟨d,f,g,i,k,l,m⟩=>⟨d,f,g,i,k,a.same _ _ l J,λD n=>a.same _ _ (m D n) J⟩
structure pH.Ok(a:pH):Prop where
 hp:a.p<a.n0
 hq:a.q<a.n0
 eZ:a.p≠a.q
 iu:a.a0.tmps.size=a.n0
 oM:a.l∉a.ms
 zD:nz a.fb=ae
 zE:nz a.bd=ae
 cap:∀g,dK g a.caps a.ws->∀t v,o t a.S0=ad v->bh g v (a.a0.tmps.getD t undef)
 sp:o a.p a.S0=none
section
variable{P:bW}{R:pH}
def aqu(x:R.Ok){xid}{i}{v v2}{m}{wM Mo}{bo}(V7:sL wM=ae)(V8:sL i.mem=ae)(Hm:1<=m)(Pw:1<=i.nx)
  (hA:TJ P R.n0 R.fb ⟨(R.q,v2)::(R.p,v)::R.S0,wM,m,[]⟩ wL (λs z a W=>z= .normal/\∃g,aR (s.dr []) (kb i) i.kn g W a))
  (hB:TJ P R.n0 R.bd i wL (KO bo xid Mo))
 {s}{k}{slI}{nxI}{gdI}{g}{W}{aI}(cA:aR s (·<k) (St.kn ⟨slI,wM,nxI,gdI⟩) g W aI) (hk:k<=1000000*m) (Px:o 0 wM=ad (.eB 0 [] R.caps)) (KP:∀t v,o t R.S0=ad v->∀N∈v.ak,N<k)
 {u u2}(hv:bh g v u) (wu:v.ak=[]) (zI:bh g v2 u2) (V9:v2.ak=[]) (hO:R.O none s [] W) {Rr:Ending->cJ->Prop}
  (hR:∀g' W' f a',1<=f->aR {s with n:=R.n0,ds:=[],rd:=ad R.l} (·<1000000*f) (St.kn ⟨[],Mo,f,[]⟩) g' W' a'->cL g.H g'.H->KeepsOthers W W/\R.O (oS bo xid) s [] W'->Rr (.returned<|.bool bo) W'):
  RoundIn (dP none) 0 P R.l R.fnid ((R.a0.tmps.setIfInBounds R.p u).setIfInBounds R.q u2) R.fb R.bd W Rr:=by
 let ⟨L,o2,o3,o4,V,o6,o7⟩:=hO
 have h0:aR {s with n:=R.n0,ds:=[],rd:=ad R.l} (·<1000000*m) (St.kn ⟨(R.q,v2)::(R.p,v)::R.S0,wM,m,[]⟩) g W {tmps:=(R.a0.tmps.setIfInBounds R.p u).setIfInBounds R.q u2,defers:=[]}:=by
  refine aR.frame (cA.weaken<|λN d=>gK d hk) (by simpa using x.iu) J (λt w A=>?_)<|λN b hb=>hb;simp only[o]at A;split at A
  .rename_i z;cases A;subst z;have K:R.q<R.a0.tmps.size:=by rw[x.iu];exact x.hq
   refine⟨by simpa[K]using zI,λN d=>by rw[V9]at d;cases d⟩
  .rename_i e2;have h3:=l0 (xs:=R.a0.tmps.setIfInBounds R.p u) (a:=u2) e2;split at A
   .rename_i z;cases A;subst z;have K:R.p<R.a0.tmps.size:=by rw[x.iu];exact x.hp
    refine⟨?_,λN d=>by rw[wu]at d;cases d⟩;rw[l7,h3];simpa[K]using hv
   .rename_i z;refine⟨?_,λN d=>gK (KP t w A N d) hk⟩;have:=l0 (xs:=R.a0.tmps) (a:=u) z;rw[l7,h3,this,<-l7];exact x.cap g (cA.Pu L o2 (caps:=R.caps) (by simp[St.kn,Px])) t w A
 refine roundIn_of_wpIn (F:=dP none) j ?_
 refine wpIn_mono (F:=dP<|ad R.l) (hA (({s with n:=R.n0,ds:=[],rd:=ad R.l}:dO).re W g 1) J (aL _) (.inr x.zD) [] g W _ (aR.re1 h0 Y<|KL (st:=⟨(R.q,v2)::(R.p,v)::R.S0,wM,m,[]⟩) V7) J) ?_
 rintro e1 a1 W1 ⟨rfl,gB,Z⟩
 let ⟨b1,b2,b3⟩:=aR.un1 h0 (Nat.le_of_eq L) (k':=1000000*i.nx) Z
 have Q:=b2.same _ _ o6 J
 refine⟨_,run_beginRound Q J,?_⟩
 have c:R.l<W1.heap.size:=(fY.1 Q).1
 have r:=b1.wx<|WX.putObj (.loop {kh R.fnid R.a0.tmps [R.p,R.q] R.fb R.bd R.D none with state:= .busy}) Q J V
 refine wpIn_mono (F:=dP<|ad R.l) (hB (({s with n:=R.n0,ds:=[],rd:=ad R.l}:dO).re _ gB 1) J (aL _) (.inr x.zE) [] gB _ _ (aR.re1 (k:=1000000*i.nx) r Y<|KL V8) J) ?_
 rintro e2 a2 S ⟨he2,gC,f,zH,Hh⟩
 let ⟨c1,c2,c3⟩:=aR.un1 r (Nat.le_of_eq L) (k':=1000000*f) Hh
 have T:=c2.same _ _ (VC (o:= .loop {kh R.fnid R.a0.tmps [R.p,R.q] R.fb R.bd R.D none with state:= .busy}) c) J
 have y:R.l<S.heap.size:=(fY.1 T).1
 have E:∀U:Option fJ,U=oS bo xid->R.O U s [] (S.putObj R.l<|.loop<|kh R.fnid R.a0.tmps [R.p,R.q] R.fb R.bd R.D U):=by
  intro U _;refine⟨L,o2,o3,J,V,VC y,λD' G=>?_⟩;have I:D'≠R.l:=λz=>x.oM<|z▸G
  rw[DR I];refine c2.same _ _ ?_ J;rw[DR I];exact b2.same _ _ (o7 D' G) J
 have B:=run_endRound (P:=P) (oS bo xid) T
 have A:∀o',aR {s with n:=R.n0,ds:=[],rd:=ad R.l} (·<1000000*f) (St.kn ⟨[],Mo,f,[]⟩) gC (S.putObj R.l o') a2:=λo'=>c1.wx<|WX.putObj o' T J V
 have C:∀(w:cJ),w=S.putObj R.l (.loop<|kh R.fnid R.a0.tmps [R.p,R.q] R.fb R.bd R.D (oS bo xid))->Rr (.returned<|.bool (oS bo xid).isNone) w:=by
  rintro w rfl;have:(oS bo xid).isNone=bo:=by unfold oS;cases bo<;>rfl
  rw[this];exact hR gC _ f a2 zH (A _) (b3.H.trans c3.H) ⟨KeepsOthers.refl _,E _ J⟩
 subst he2
 cases bo with
 |true=>exact⟨_,_,B,C _ J⟩
 |false=>exact⟨_,_,B,C _ J⟩
def aeC(ok:R.Ok){n}{f}{z A V'}{H i d j x x2:G}{aG:a8}{kH}(ho:f[i]? =ad aG)(VF:aG.dst=ad d)(b9:aG.op= .call ⟨.value<|.tmp j,#[.tmp x,.tmp x2],kH⟩)
  (hgd:aG.guard=none\/∃jA T tg,aG.guard=ad (jA,T)/\tG f.toList jA=ad tg/\o tg A.sl=ad (.c<|.B T))
  (pre:SG P n f z.nx 0 z i A) {v v2}(hj:o j A.sl=ad (.c<|.V<|.func (.yield R.l) #[] #[])) (hx:o x A.sl=ad v) (wu:v.ak=[]) (hx2:o x2 A.sl=ad v2) (V9:v2.ak=[]) (dG:d<n)
 {M Mo}(yd:A.mem=M) (Px:o 0 M=ad (.eB 0 [] R.caps)) (hgo:o 0 Mo=ad (.eB 0 [] R.caps))
 {slk}(sJ:∀t u,o t slk=ad u->o t A.sl=ad u/\t≠d/\(u.ak=[]\/(∀g g' val,dK g R.caps R.ws->bh g u val->dK g' R.caps R.ws->bh g' u val)/\∀H∈u.ak,H<1000000*z.nx))
  (Vo:sL z.mem=ae) (V7:sL M=ae) (aqC:sL Mo=ae) (DX:∀H b,o H Mo=ad b->H<1000000*z.nx/\∀j∈b.ak,j<1000000*z.nx) (hnx:1<=z.nx) (hi:f.size<=1000)
 {xid}{stB:St} {nxr:G} {bo:Bool} (V8:sL stB.mem=ae) (Hm:z.nx+1<=nxr) (Pw:1<=stB.nx) (KP:∀t v,o t R.S0=ad v->∀H∈v.ak,H<1000000*z.nx)
  (hA:TJ P R.n0 R.fb ⟨(R.q,v2)::(R.p,v)::R.S0,M,nxr,[]⟩ wL (λN cH a W=>cH= .normal/\∃g,aR (N.dr []) (kb stB) stB.kn g W a))
  (hB:TJ P R.n0 R.bd stB wL (KO bo xid Mo)) {gd1:E (G×Bool)}
  (suf:SG P n f z.nx (i+1) ⟨(d,.c<|.B bo)::slk,Mo,z.nx,gd1⟩ f.size V') {Q:iD} (cont:iY n .normal ⟨V'.sl,V'.mem,z.nx+1,[]⟩ (R.O<|oS bo xid) Q):
  TJ P n (.region H f ah) z (R.O none) Q:=by
 intro N hF oL lv ds g W a hh hO
 let ⟨o1,o2,o3,o4,o5,o6,o7⟩:=hO
 subst o4
 have r:xx N.rd f:=lv.region
 have apK:i<f.size:=(fY.1 ho).1
 have Z:(dP N.rd:Fence)=dP none:=by rw[o3]
 rw[Z]
 refine wpIn_region ?_
 have h:bJ f.size=KB 0 (i-0)++(i::(KB (i+1) (f.size-(i+1))++[])):=by rw[ji,M8,<-FB];have:f.size-(i+1)+1=f.size-i:=Y;rw[this];have:=List.range'_append (s:=0) (m:=i-0) (n:=f.size-i) (step:=1);simp only[je,fD]at this;rw[DY]at this⊢;rw[this];congr 1;omega
 rw[h]
 have I:=pre.sound ((N.dr []).re W g<|1000000*z.nx) hF r
 have aqE:(dP ((N.dr []).re W g<|1000000*z.nx).rd:Fence)=dP none:=Z
 rw[aqE]at I
 refine I _ _ g W a (aR.re (k:=1000000*z.nx) hh<|KL Vo) ?_
 intro g1 W1 C VG
 let ⟨K,Hg,Pb⟩:=aR.un (k:=1000000*z.nx) hh VG
 rw[wpOpsIn_cons]
 unfold wpOpIn
 rw[ho]
 have VI:iv aG (yielded f C.tmps)=ae:=by
  unfold iv;rcases hgd with hg|⟨jA,T,tg,hg,aqF,hb⟩
  .rw[hg]
  .rw[hg];have:=K.dW tg (.c<|.B T) (by simp[St.kn,hb]);simp only[F1 aqF this];simp
 simp only[VI,cz]
 refine⟨λ_ _=>trivial,?_⟩
 have VH:C.tmps.getD j undef= .func (.yield R.l) #[] #[]:=K.dW j (.c<|.V<|.func (.yield R.l) #[] #[]) (by simp[St.kn,hj])
 have Bh:bh g1 v (C.tmps.getD x undef):=K.dW x v (by simp[St.kn,hx])
 have aqG:bh g1 v2 (C.tmps.getD x2 undef):=K.dW x2 v2 (by simp[St.kn,hx2])
 have X:=Hg.same _ _ o6 J
 have hex:(aG.semAt (dP none).round C.eval).run P W1= .ok (.round R.l R.fnid ((R.a0.tmps.setIfInBounds R.p<|C.tmps.getD x undef).setIfInBounds R.q<|C.tmps.getD x2 undef) R.fb R.bd) W1:=by
  show(execOp C.eval aG).run P W1=_;have L:=run_yield (P:=P) (args:= #[C.tmps.getD x undef,C.tmps.getD x2 undef]) X J;rw[execOp,b9];have e1:C.eval (.tmp j)= .func (.yield R.l) #[] #[]:=VH;have e3:C.eval (.tmp x)=C.tmps.getD x undef:=rfl;have e4:C.eval (.tmp x2)=C.tmps.getD x2 undef:=rfl;have e2:(#[Operand.tmp x,Operand.tmp x2]:Array Operand).map C.eval= #[C.tmps.getD x undef,C.tmps.getD x2 undef]:=by simp[e3,e4]
  simp only[resolve,e1,e2,zs,pure_bind,invoke];simpa[kh]using L
 rw[hex]
 simp only[Oper.uponIn_round]
 refine⟨λhh=>FA,?_⟩
 have r9:St.kn ⟨A.sl,M,A.nx,A.gd⟩=A.kn:=by rw[<-yd]
 have S:aR (N.dr []) (·<1000000*z.nx+1000*i) (St.kn ⟨A.sl,M,A.nx,A.gd⟩) g1 W1 C:=by rw[r9];exact K
 refine aqu (Mo:=Mo) (bo:=bo) (xid:=xid) ok V7 V8 Y Pw hA hB S Y Px (λt w hw H aY=>gK (KP t w hw H aY) Y) Bh wu aqG V9 ⟨o1,o2,o3,J,o5,X,λD hD=>Hg.same _ _ (o7 D hD) J⟩ ?_
 intro g2 W2 nx' a' zH hC aqH Wa
 let ⟨_,Wa⟩:=Wa
 have aqI:=S.Pu o1 o2 (caps:=R.caps) (by simp[St.kn,Px])
 have aqJ:=hC.Pu o1 o2 (caps:=R.caps) (by simp[St.kn,hgo])
 simp only
 rw[VF]
 have BA:aR (N.dr []) (·<1000000*z.nx+1000*(i+1)) (St.kn ⟨(d,.c<|.B bo)::slk,Mo,z.nx,gd1⟩) g2 W2 {C with tmps:=C.tmps.setIfInBounds d<|.bool bo}:=by
  have VR:aR {N with n:=R.n0,ds:=[],rd:=ad R.l} (·<1000000*z.nx+1000*(i+1)) (St.kn ⟨[],Mo,nx',[]⟩) g2 W2 a':=by
   refine hC.restrict (λkey y L H aY=>?_) (λH y L=>?_)<|λH aY=>?_
   .cases key with
    |s t=>simp[St.kn,o]at L
    |m jA=>
     simp only[St.kn,bY]at L
     let ⟨b,hb,cH⟩:=L
     subst cH
     have:=(DX jA b hb).2 H aY
     omega
   .simp only[St.kn,bY]at L;let ⟨b,hb,cH⟩:=L;have:=(DX H b hb).1;omega
   .have:H<N.k0:=aY;omega
  have xM:=aR.frame (sl':=(d,.c<|.B bo)::slk) (M':=Mo) (nx':=z.nx) (gd':=gd1) (n':=N.n) (ds':=[]) (rd':=N.rd) (a':={C with tmps:=C.tmps.setIfInBounds d<|.bool bo}) VR (by have:=K.size;simpa[dO.dr]using this) K.defers (λt w hw=>by
   simp only[o]at hw;split at hw
   .rename_i cH;cases hw;subst cH;have iu:d<C.tmps.size:=by rw[K.size];show d<N.n;rw[hF];exact dG
    refine⟨by show _=_;simp[iu],λH aY=>yX⟩
   .rename_i cH;let ⟨s1,s2,s3⟩:=sJ t w hw;have tP:bh g1 w (C.tmps.getD t undef):=K.dW t w (by simp[St.kn,s1]);have Wb:(C.tmps.setIfInBounds d<|.bool bo).getD t undef=C.tmps.getD t undef:=by have:=l0 (xs:=C.tmps) (a:=Value.bool bo) cH;simp[this]
    rw[Wb];rcases s3 with s3|⟨s3,s4⟩
    .refine⟨?_,λH aY=>by rw[s3]at aY;cases aY⟩;exact tP.jh s3 aqH g2.γ
    .exact⟨s3 g1 g2 _ aqI tP aqJ,λH aY=>by have:=s4 H aY;omega⟩) (λH b hb=>hb)
  exact xM
 have U:=suf.sound ((N.dr []).re W2 g2<|1000000*z.nx+1000*(i+1)) hF r
 have aqK:(dP ((N.dr []).re W2 g2<|1000000*z.nx+1000*(i+1)).rd:Fence)=dP none:=Z
 rw[aqK]at U
 refine U _ _ g2 W2 _ (aR.re (k:=1000000*z.nx+1000*(i+1)) BA<|KL (st:=⟨(d,.c<|.B bo)::slk,Mo,z.nx,gd1⟩) aqC) ?_
 intro g3 W3 a3 VJ
 let ⟨Pc,Pe,VK⟩:=aR.un (k:=1000000*z.nx+1000*(i+1)) BA VJ
 exact cont N hF oL [] g3 W3 a3 (Pc.weaken<|λH aY=>by have:H<1000000*z.nx+1000*f.size:=aY;show H<1000000*(z.nx+1);omega) (R.V6 _ N [] W2 W3 Pe Wa)
end
def pH.Q(f:pH)(i:Bool)(d:G)(Mo:E (G×aA)):iD:=λF e a W=>(e= .normal\/e= .ret)/\(∃g b,1<=b/\aR (F.dr []) (·<1000000*b) (St.kn ⟨[],Mo,b,[]⟩) g W a)/\f.O (oS i d) F [] W
section
variable{P:bW}
def aeE{n0 nI}{N}{p p2}{fb bd}{B}{Q}{cid f:G}{fn}{cb}{capsI}{wsI}{Sc}{M Mo}{bo}{xid}
  (hg:B.ev N=ad (.c<|.X cid)) (oF:o cid B.mem=ad (.eB f [] capsI)) (C8:tM capsI=ad wsI) (DU:P.funcs[f]? =ad fn) (yZ:fn.body=ad cb) (hnI:fn.ntmps=nI) (qY:(fn.name != "runtime.NumGoroutine")=ae) (JN:fn.results= #[]) (hlen:Z wsI+1<=nI)
  (hnx:1<=B.nx) (hp:p<n0) (zJ:p2<n0) (eZ:p≠p2) (zD:nz fb=ae) (zE:nz bd=ae)
  (Py:∀s∈Sc,o s.1 B.sl=ad (.c s.2)) (VE:o p (nE Sc)=none) (hz:∀t v,o t B.sl=ad v->0∉v.ak) (hM:∀d b,o d M=ad b->o d B.mem=ad b) (Wc:∀d b,o d B.mem=ad b->d≠0/\0∉b.ak)
  (DX:∀d b,o d Mo=ad b->d≠0/\d<1000000*B.nx/\∀gT∈b.ak,gT<1000000*B.nx)
  (hI:∀i:pH,i.Ok->i.n0=n0->i.S0=nE Sc->i.caps=sO Sc++capsI->i.p=p->i.q=p2->i.fb=fb->i.bd=bd->TJ P nI cb ⟨(0,.c<|.V<|.func (.yield i.l) #[] #[])::dT 1 wsI,(0,.eB 0 [] (sO Sc++capsI))::M,B.nx,[]⟩ (i.O none) (i.Q bo xid<|(0,.eB 0 [] (sO Sc++capsI))::Mo))
  (hk:iY n0 (if bo then .normal else .exit xid) ⟨nE Sc,Mo,B.nx,[]⟩ OM Q):TJ P n0 (.rangeFunc N ⟨[p,p2]⟩ fb bd) B OM Q:=by
 intro F hF oL lv ds g W a hh hO
 obtain⟨ok0,ord,mk,rfl,nW,aqM⟩:=hO
 let ⟨sl,mem,nx,gd⟩:=B
 simp only at oF hnx Py hz hM Wc DX hI hk
 have DQ:a.eval N=g.γ cid:=dY hh _ N _ hg<|eQ _ N
 have r9:(St.kn ⟨sl,mem,nx,gd⟩) (.m cid)=ad (.b<|.eB f [] capsI):=by simp[St.kn,oF]
 let ⟨Pj,K,hγ,T,Pk⟩:=hh.cM cid _ r9
 have T:Pj=[]:=T
 subst T
 have FC:=JV C8 Pk
 have h:∀gT∈et capsI,gT<1000000*nx/\gT≠0:=λgT hj=>by
  have h1:gT∈(aA.eB f [] capsI).ak:=by simpa[aA.ak,et]using hj
  exact⟨hh.ak (.m cid) _ r9 gT h1,λe=>(Wc cid _ oF).2<|e▸h1⟩
 have aqN:oI P f=ae:=by simp[oI,DU,yZ,qY]
 have aqO:∀s∈Sc,de g s.2 (a.tmps.getD s.1 undef):=λs hs=>hh.dW s.1 (.c s.2) (by simp[St.kn,Py s hs])
 have r:∀s∈Sc,∀d∈s.2.ak,d<1000000*nx/\d≠0:=λs hs d aY=>⟨hh.ak (.s s.1) (.v<|.c s.2) (by simp[St.kn,Py s hs]) d aY,λe=>hz s.1 _ (Py s hs)<|e▸aY⟩
 rw[ord]
 refine wpIn_rangeFunc (F:=dP none)<|λfnid _=>?_
 obtain⟨i,z⟩:∃i:pH,i={n0:=n0,a0:=a,S0:=nE Sc,caps:=sO Sc++capsI,ws:=(Sc.map λs=>a.tmps.getD s.1 undef)++K,l:=W.heap.size+1,D:=W.heap.size,fnid:=fnid,p:=p,q:=p2,fb:=fb,bd:=bd,ms:=W.heap.size::mk}:=⟨_,J⟩
 obtain⟨H,I⟩:∃H,(W.alloc<|.deferred<|ad []).alloc (.loop {state:= .ready,pending:=none,fn:=fnid,tmps:=a.tmps,params:= #[p,p2],assign:=fb,body:=bd,defers:=W.heap.size})=H:=⟨_,J⟩
 refine⟨W.heap.size+1,[kK W.heap.size],H,{target:= .fn (.func f) K.toArray,args:= #[.func (.yield<|W.heap.size+1) #[] #[]]},H,f,#[.func (.yield<|W.heap.size+1) #[] #[]]++K.toArray,H,?_,?_,λ_ _=>trivial,N8 aqN,λhh=>FA,?_⟩
 .rw[<-I];exact run_enterLoop_outer fnid a.tmps #[p,p2] fb bd
 .simp[resolve,DQ,hγ,zs];simp[Act.eval]
 have VM:WX F.w0.heap.size W H:=by rw[<-I];exact(WX.alloc _ _ _).trans<|WX.alloc _ _ _
 have hB:F.w0.heap.size<=W.heap.size:=hh.below.size
 have VN:H.heap[W.heap.size]? =ad (.deferred<|ad []):=by rw[<-I];exact(Below.heap_alloc _ _ _ au).trans<|VO W _
 have KD:H.heap[W.heap.size+1]? =ad (.loop<|kh fnid a.tmps [p,p2] fb bd W.heap.size none):=by rw[<-I];have:=VO (w:=W.alloc<|.deferred<|ad [])<|.loop {state:= .ready,pending:=none,fn:=fnid,tmps:=a.tmps,params:= #[p,p2],assign:=fb,body:=bd,defers:=W.heap.size};rwa[World.size_alloc]at this
 have KE:∀D∈W.heap.size::mk,H.heap[D]? =ad (.deferred<|ad []):=by
  intro D hD;rcases b7.1 hD with rfl|hD
  .exact VN
  .have h1:=(nW D hD).1;rw[<-I];exact(Below.heap_alloc _ _ _<|by have:=(fY.1 h1).1;simp;omega).trans<|(Below.heap_alloc _ _ _ (fY.1 h1).1).trans h1
 have oM:W.heap.size+1∉W.heap.size::mk:=by intro hc;have:=KE _ hc;rw[KD]at this;cases this
 have aqP:dK g i.caps i.ws:=by rw[z];exact aeA (aeB (f:=λt=>a.tmps.getD t undef) aqO) Pk
 have hcm:∀d∈et i.caps,d≠0/\d<1000000*nx:=by
  rw[z];have key:∀{L:E (G×C)},(∀s∈L,∀d∈s.2.ak,d<1000000*nx/\d≠0)->∀d∈et (sO L++capsI),d≠0/\d<1000000*nx:=by
   intro L;induction L with
   |nil=>intro _ d aY;exact⟨(h d aY).2,(h d aY).1⟩
   |cons s L ih=>
    intro hL d aY
    simp[sO,gX,mY,et]at aY
    rcases aY with aY|aY
    .have:d∈s.2.ak:=by simpa[b6]using aY
     exact⟨(hL s au d this).2,(hL s au d this).1⟩
    .exact ih (λx hx=>hL x mW) d aY
  exact key r
 have ok:i.Ok:=by
  rw[z];refine⟨hp,zJ,eZ,?_,oM,zD,zE,λg' zz t v hv=>?_,VE⟩
  .have:=hh.size;simpa[dO.dr,hF]using this
  .obtain⟨c,rfl,hc⟩:=Pv hv;exact(V5 (f:=λt=>a.tmps.getD t undef) zz).1 (t,c)<|ya hc
 have lA:Z K=Z wsI:=xL FC
 have Pl:(#[.func (.yield<|W.heap.size+1) #[] #[]]++K.toArray:Array aT)=(.func (.yield<|W.heap.size+1) #[] #[]::K).toArray:=au
 rw[Pl]
 refine callsIn_of_wp (F:=dP none) DU yZ j ?_
 have VQ:aR ({F with n:=nI,ds:=[],rd:=none,k0:=1,γ0:=λ_=>oh i.ws}:dO) (·<1000000*nx) (St.kn ⟨(0,.c<|.V<|.func (.yield i.l) #[] #[])::dT 1 wsI,(0,.eB 0 [] (sO Sc++capsI))::M,nx,[]⟩) (g.new 0<|oh i.ws) H {tmps:=(.func (.yield<|W.heap.size+1) #[] #[]::K).toArray++sD (fn.ntmps-(.func (.yield<|W.heap.size+1) #[] #[]::K).toArray.size) undef,defers:=[]}:=by
  refine aR.frame (F:={F.dr (mk.map kK)with k0:=1,γ0:=λ_=>oh i.ws}) (aR.ghost (k:=1000000*nx) (hh.wx (W':=H) VM) (nx':=nx) (gd':=[]) Y ok0 hz Wc aqP hcm) (by simp[lA,hnI];omega) J (λt v hv=>?_)<|λd b hb=>?_
  .simp[o]at hv;split at hv
   next e=>cases hv;subst e;refine⟨?_,λd aY=>yX⟩;show _=_;rw[z,l7,uW au];simp
   .rename_i e;let ⟨h1,u,h2,h3,h4⟩:=me wsI K 1 FC t v hv;have jK:t-1<Z K:=(qQ.1 h2).1;have S:∀d∈v.ak,d<1000000*nx/\d≠0:=λd aY=>h d (Ds C8 d<|h4 d aY)
    refine⟨?_,λd aY=>(S d aY).1⟩;rw[l7,uW cd];have Wb:(.func (.yield<|W.heap.size+1) #[] #[]::K).toArray[t]? =ad u:=by rw[vR,(Y:t=(t-1)+1),xB,h2]
    rw[Wb];have yb:gN (λd=>d≠0) g (g.new 0<|oh i.ws):=⟨cL.refl _,λd aY=>by simp[Gh.new,aY]⟩;exact bh.mono yb (λd aY=>(S d aY).2) h3
  .simp[o]at hb⊢;split at hb
   next e=>cases hb;subst e;rw[z];simp
   next e=>rw[y e];exact hM d b hb
 have hO1:i.O none ({F with n:=nI,ds:=[],rd:=none,k0:=1,γ0:=λ_=>oh i.ws}:dO) [] H:=by
  refine⟨J,J,J,J,?_,?_,?_⟩
  .rw[z];show F.w0.heap.size<=W.heap.size+1;omega
  .rw[z];exact KD
  .rw[z];exact KE
 refine wpIn_mono (F:=dP none) (hI i ok (by rw[z]) (by rw[z]) (by rw[z]) (by rw[z]) (by rw[z]) (by rw[z]) (by rw[z]) ({F with n:=nI,ds:=[],rd:=none,k0:=1,γ0:=λ_=>oh i.ws}:dO) J (aL _) (.inl J) [] (g.new 0<|oh i.ws) H _ VQ hO1) ?_
 rintro e a' W' ⟨he,⟨g',nx',zH,Pm⟩,hO'⟩
 let ⟨_,_,_,_,_,U,Pn⟩:=hO'
 have PA:a'.defers=[]:=Pm.defers
 have A:W'.heap[W.heap.size+1]? =ad (.loop<|kh fnid a.tmps [p,p2] fb bd W.heap.size (oS bo xid)):=by rw[z]at U;exact U
 have aqS:∀D∈W.heap.size::mk,W'.heap[D]? =ad (.deferred<|ad []):=by rw[z]at Pn;exact Pn
 have VS:WX F.w0.heap.size W' (W'.putObj (W.heap.size+1)<|.loop {kh fnid a.tmps [p,p2] fb bd W.heap.size (oS bo xid)with state:= .exhausted}):=WX.putObj _ A J Y
 have BA:=Pm.wx VS
 have hgr:dK g' i.caps i.ws:=BA.Pu (caps:=i.caps) J J (by rw[z];simp[St.kn,o])
 have xM:aR (F.dr<|(W.heap.size::mk).map kK) (·<1000000*nx) (St.kn ⟨nE Sc,Mo,nx,[]⟩) g' (W'.putObj (W.heap.size+1)<|.loop {kh fnid a.tmps [p,p2] fb bd W.heap.size (oS bo xid)with state:= .exhausted}) {a with defers:=[kK W.heap.size]++a.defers}:=by
  have h5:aR ({F with n:=F.n,ds:=(W.heap.size::mk).map kK,rd:=F.rd,k0:=1,γ0:=λ_=>oh i.ws}:dO) (λd=>d<1000000*nx'\/d<1000000*nx) (St.kn ⟨nE Sc,(0,.eB 0 [] (sO Sc++capsI))::Mo,nx,[]⟩) g' (W'.putObj (W.heap.size+1)<|.loop {kh fnid a.tmps [p,p2] fb bd W.heap.size (oS bo xid)with state:= .exhausted}) {a with defers:=[kK W.heap.size]++a.defers}:=by refine aR.frame (BA.weaken<|λd aY=> .inl aY) (by have:=hh.size;simpa[dO.dr]using this) (by have:=hh.defers;simp[this];rfl) (λt v hv=>?_)<|λd b hb=>hb;obtain⟨c,rfl,hc⟩:=Pv hv;have aeI:=ya hc;have h6:=(V5 (f:=λt=>a.tmps.getD t undef)<|by rw[z]at hgr;exact hgr).1 (t,c) aeI;exact⟨h6,λd aY=> .inr (r (t,c) aeI d aY).1⟩
  have h6:=h5.restrict (K':=(·<1000000*nx)) (λkey cc hy d aY=>?_) (λd cc hy=>?_) (λd aY=>by have:d<1:=aY;show d<1000000*nx;omega)
  .have h7:=aR.frame (sl':=nE Sc) (M':=Mo) (nx':=nx) (gd':=[]) (n':=F.n) (ds':=(W.heap.size::mk).map kK) (rd':=F.rd) (a':={a with defers:=[kK W.heap.size]++a.defers}) h6 h6.size h6.defers (λt v hv=>⟨h6.dW t v si,λd aY=>h6.ak (.s t) (.v v) si d aY⟩) (λd b hb=>by simp[o];have:d≠0:=(DX d b hb).1;rw[y (λe=>this e.symm)];exact hb);exact⟨h7.size,h7.defers,h7.dW,h7.cM,h7.inj,h7.ak,h7.dX,h7.sub,h7.below,h7.le,h7.fresh,λd aY=>by have:d<F.k0:=aY;omega⟩
  .cases key with
   |s t=>
    simp[St.kn]at hy
    let ⟨w,hw,e⟩:=hy
    subst e
    obtain⟨c,rfl,hc⟩:=Pv hw
    exact(r (t,c) (ya hc) d aY).1
   |m q=>
    simp[St.kn,o]at hy
    let ⟨w,hw,e⟩:=hy
    subst e
    split at hw
    .cases hw;have:d∈et i.caps:=by rw[z];simpa[Info.ak,aA.ak,et]using aY
     exact(hcm d this).2
    .exact(DX q w hw).2.2 d aY
  .simp[St.kn,o]at hy;let ⟨w,hw,e⟩:=hy;split at hw
   next e2=>subst e2;show 0<1000000*nx;omega
   .exact(DX d w hw).2.1
 have hOM:OM F ((W.heap.size::mk).map kK) (W'.putObj (W.heap.size+1)<|.loop {kh fnid a.tmps [p,p2] fb bd W.heap.size (oS bo xid)with state:= .exhausted}):=by
  refine⟨ok0,ord,W.heap.size::mk,J,λD hD=>⟨?_,?_⟩,?_⟩
  .have eZ:D≠W.heap.size+1:=λe=>oM (e▸hD)
   rw[DR eZ];exact aqS D hD
  .rcases b7.1 hD with rfl|hD
   .exact hB
   .exact(nW D hD).2
  .refine AT.2 ⟨λhc=>?_,aqM⟩;have:=(fY.1 (nW _ hc).1).1;omega
 have aeJ:rangePost (dP none) 0 P (W.heap.size+1) (Q F) {a with defers:=[kK W.heap.size]++a.defers} (.returned<|.tuple #[]) W':=by
  refine⟨oS bo xid,_,run_endLoop (P:=P) A (by unfold oS;cases bo<;>simp[kh]),?_⟩;have hq:=hk F hF oL _ g' _ _ xM hOM;unfold oS;cases bo with
  |true=>exact hq
  |false=>exact wpIn_exit hq
 have Po:(results fn a'.tmps).run P W'= .ok (.tuple #[]) W':=by simp[results,JN]
 rcases he with rfl|rfl
 .exact⟨PA,_,Po,aeJ⟩
 .exact⟨PA,_,Po,aeJ⟩
end
def val:E V->V
 |[]=>0
 |a::b=>a+4294967296*val b
def cu(a:E V):Prop:=∀w∈a,0<=w/\w<4294967296
def Wd:cu []:=λ_ h=>by cases h
def BG{a}{b}:cu (a::b)↔(0<=a/\a<4294967296)/\cu b:=by simp[cu]
def kj{a}(b:cu a) n:cu (r n a):=λw d=>b w<|Ho d
def BH{a}(b:cu a) n:cu (az n a):=λw d=>b w<|List.mem_of_mem_drop d
def We{a b}(d:cu a)(k:cu b):cu (a++b):=λw f=>(bl.mp f).elim (d w)<|k w
def BI{b}(d:cu b) i{a}(f:0<=a/\a<4294967296):cu (b.set i a):=λx g=>(List.mem_or_eq_of_mem_set g).elim (d x)<|λe=>e▸f
def tT n:cu (bx n 0):=λw a=>by have:=List.eq_of_mem_replicate a;subst this;decide
def dI{a}(d:cu a) i:0<=I a i 0/\I a i 0<4294967296:=by
 by_cases b:i<Z a
 .simp[aO,df b,tK];exact d _<|sx b
 .simp[aO,iw<|zK b]
def Hp a b:val (a++b)=val a+4294967296^Z a*val b:=by
 induction a with
 |nil=>simp[val]
 |cons w r d=>simp[mY,val,d,gP];grind
def aqU ws i(a:i<Z ws):val (r (i+1) ws)=val (r i ws)+I ws i 0*4294967296^i:=by rw[vj,Hp,iC,uY<|ye a];simp[df a,val,aO];grind
def om ws i(a:Z ws<=i):val (r i ws)=val ws:=by rw[jM a]
def lP ws i:val (r (i+1) ws)=val (r i ws)+I ws i 0*4294967296^i:=by
 by_cases h:i<Z ws
 .exact aqU ws i h
 .rw[om ws _ Y,om ws i Y];simp[aO,iw<|zK h]
def Wf ws i a(h:i<Z ws):val (ws.set i a)=val ws+(a-I ws i 0)*4294967296^i:=by
 induction ws generalizing i with
 |nil=>simp at h
 |cons x r b=>
  cases i with
  |zero=>simp[val];omega
  |succ i=>
   have:=b i fg
   simp[List.set_cons_succ,val,this,Wg,gP];grind
def PB n:val (bx n 0)=0:=by
 induction n with
 |zero=>rfl
 |succ n a=>simp[Bb,val,a]
def nF{a}(b:cu a):0<=val a:=by
 induction a with
 |nil=>exact iZ _
 |cons w r d=>
  let ⟨f,h2⟩:=BG.mp b
  have:=d h2
  simp[val];omega
def oT{a}(b:cu a):val a<4294967296^Z a:=by
 induction a with
 |nil=>decide
 |cons w r d=>
  let ⟨f,h2⟩:=BG.mp b
  have:=d h2
  simp[val,gP];omega
def aqV:∀(f g n:G),n<=f->n<=g->AR f n=AR g n:=by
 intro f;induction f with
 |zero=>
  intro g n h _;have:n=0:=by omega
  subst this;cases g<;>simp[AR]
 |succ f a=>
  intro g n b d
  cases g with
  |zero=>
   have:n=0:=by omega
   subst this;simp[AR]
  |succ g=>
   simp[AR]
   split
   .rfl
   .rw[a g (n/4294967296) Y Y]
def Hq:al 0=[]:=rfl
def zL{n}(a:n≠0):al n=((n%4294967296:G):V)::al (n/4294967296):=by
 unfold al;obtain⟨m,rfl⟩:∃m,n=m+1:=⟨n-1,Y⟩;conv=>lhs;unfold AR
 rw[y a,aqV m _ _ Y<|aL _]
def fv n:val (al n)=n:=by
 induction n using Ky with
 |ind n a=>
  by_cases h:n=0
  .subst h;rfl
  .rw[zL h];simp[val,a (n/4294967296) Y];omega
def fc n:cu (al n):=by
 induction n using Ky with
 |ind n a=>
  by_cases h:n=0
  .subst h;exact Wd
  .rw[zL h];exact BG.mpr ⟨Y,a _ Y⟩
def can(a:E V):Prop:=a=[]\/I a (Z a-1) 0≠0
def aqW{b}(k:cu b)(a:can b):b=al (af<|val b):=by
 induction b with
 |nil=>rfl
 |cons w r f=>
  let ⟨n,h2⟩:=BG.mp k
  have g:can r:=by
   cases r with
   |nil=>exact .inl J
   |cons x s=>exact .inr (by rcases a with a|a;cases a;simpa using a)
  have p:=nF h2
  have d:af (val<|w::r)≠0:=by
   simp only[val];intro t;have i:w=0/\val r=0:=Y;cases r with
   |nil=>rcases a with a|a;cases a;simp at a;exact a i.1
   |cons x s=>
    have:=f h2 g
    rw[i.2]at this
    exact aF this (by simp[Hq])
  rw[zL d]
  have l:af (val<|w::r)/4294967296=af (val r):=by simp only[val];omega
  have m:((af (val<|w::r)%4294967296:G):V)=w:=by simp only[val];omega
  rw[l,m,<-f h2 g]
def yf n:can (al n):=by
 induction n using Ky with
 |ind n b=>
  by_cases h:n=0
  .subst h;exact .inl J
  .rw[zL h];refine .inr ?_;by_cases h2:n/4294967296=0
   .rw[h2,Hq];simp;omega
   .have:=b (n/4294967296) Y;rcases this with a|a
    .exfalso;have:=fv<|n/4294967296;rw[a]at this;simp[val]at this;omega
    .cases hw:al (n/4294967296)with
     |nil=>rw[hw]at a;simp at a
     |cons x s=>rw[hw]at a;simpa using a
def ij(a:E V):G->G
 |0=>0
 |n+1=>if I a n 0=0 then ij a n else n+1
def aU(a:E V):E V:=r (ij a<|Z a) a
def aeK(a:E V):∀n,ij a n<=n
 |0=>aL _
 |n+1=>by simp[ij];split;exact Nat.le_succ_of_le<|aeK a n;exact aL _
def aeL(a:E V):∀n,val (r (ij a n) a)=val (r n a)
 |0=>rfl
 |n+1=>by
  simp only[ij];split
  next b=>rw[aeL a n,lP,b];omega
  .rfl
def aeM(a:E V):∀n,ij a n=0\/I a (ij a n-1) 0≠0
 |0=> .inl J
 |n+1=>by
  simp[ij];split
  .exact aeM a n
  next h=>exact .inr fg
def aeN ws:val (aU ws)=val ws:=by unfold aU;rw[aeL,iG]
def aeO{a}(b:cu a):cu (aU a):=kj b _
def KQ ws:can (aU ws):=by
 unfold aU can;rcases aeM ws (Z ws)with h|h
 .left;rw[h];rfl
 .by_cases b:ij ws (Z ws)=0
  .left;rw[b];rfl
  .right;rw[iC,uY (aeK ws<|Z ws),aO,Jn Y,<-aO];exact h
def rf{a}(b:cu a):aU a=al (af<|val a):=by have:=aqW (aeO b)<|KQ a;rwa[aeN]at this
def Wh n:aU (al n)=al n:=by rw[rf (fc n),fv];simp
def wN{n:G}:(n:V)<4294967296^Z (al n):=by have:=oT<|fc n;rwa[fv]at this
def k4 n:(0:V)<4294967296^n:=pI S
def wO{m n}(a:m<=n):(4294967296:V)^m<=4294967296^n:=by obtain⟨k,rfl⟩:=Nat.exists_eq_add_of_le a;rw[Int.pow_add];have b:=k4 m;have d:=k4 k;have:(4294967296:V)^m*1<=4294967296^m*4294967296^k:=mq Y Y;omega
def PC{a}(d:cu a)(f:can a)(b:a≠[]):(4294967296:V)^(Z a-1)<=val a:=by have g:0<Z a:=cF.mpr b;have i:=lP a<|Z a-1;rw[Wi g,iG]at i;have k:I a (Z a-1) 0≠0:=f.resolve_left b;have l:=dI d<|Z a-1;have m:=nF<|kj d<|Z a-1;have n:=k4<|Z a-1;have p:1*(4294967296:V)^(Z a-1)<=I a (Z a-1) 0*4294967296^(Z a-1):=ja Y Y;omega
def DZ{n k:G}(g:(n:V)<4294967296^k):Z (al n)<=k:=by
 apply Decidable.byContradiction;intro b;have a:al n≠[]:=by intro d;rw[d]at b;simp at b
 have f:=PC (fc n) (yf n) a;rw[fv]at f;have i:(4294967296:V)^k<=4294967296^(Z (al n)-1):=wO Y;omega
def PD{a b}(f:cu a)(g:cu b)(i:can b)(d:Z a<Z b):val a<val b:=by have l:=oT f;have m:=PC g i (by intro k;rw[k]at d;simp at d);have n:(4294967296:V)^Z a<=4294967296^(Z b-1):=wO Y;omega
def PE{a b}(f:cu a)(g:cu b) i(k:az (i+1) a=az (i+1) b)(p:Z a=Z b)(s:i<Z a)(t:I a i 0<I b i 0):val a<val b:=by
 have d:val a=val (r (i+1) a)+4294967296^(i+1)*val (az (i+1) a):=by have:=Hp (r (i+1) a)<|az (i+1) a;rwa[uX,iC,uY Y]at this
 have l:val b=val (r (i+1) b)+4294967296^(i+1)*val (az (i+1) b):=by have:=Hp (r (i+1) b)<|az (i+1) b;rwa[uX,iC,uY Y]at this
 rw[k]at d;rw[lP]at d l;have m:=oT<|kj f i;rw[iC,uY Y]at m;have u:=nF<|kj g i;have v:=k4 i;have n:(I a i 0+1)*(4294967296:V)^i<=I b i 0*4294967296^i:=ja Y Y;rw[pJ]at n;omega
def yg(a:E V):w O 188 [cS ao a] (cS ao<|aU a):=by
 refine aK Tryz.func188<|xN 0 J λm=>?_;simp only[ET.n,rh]at m;refine rr J<|rr J<|h<|ay<|bq (α:=G) (λk=>⟨[(0,cS ao a),(3,cI k)],[],2,[]⟩) (λk=>k<=Z a/\ij a k=ij a (Z a)) (λk=>k) (Z a) ⟨aL _,J⟩ aN ?_;rintro k ⟨s,b⟩;have f:∀v,k=0\/I a (k-1) 0≠0->v=r k a->bu (cS ao v) (cS ao<|aU a):=by
  intro v g d;refine bu.of_eq ?_;subst d;unfold aU;rw[<-b];cases k with
  |zero=>rfl
  |succ k=>
   rcases g with g|g
   .omega
   .simp only[eL]at g;simp only[ij,g,b8]
 refine h<|rb<|rg 8 J J (λl=>?_)<|λl=>?_
 .simp at l;refine re J (F J (λd=>?_)<|λd=>?_)
  .refine aE (ay<|rt J<|fF<|a4 (k-1) ⟨Y,?_⟩ (Y:k-1<k)<|wk ⟨sR J,sE J ?_,j⟩ j)
   .rw[<-b];obtain⟨i,rfl⟩:∃i,k=i+1:=⟨k-1,Y⟩;have p:I a i 0=0:=by have:af (((i+1:G):V)-1)=i:=Y;simpa[this]using d
    simp only[eL,ij,p,cz]
   .congr 2;omega
  .refine bs (aS<|rr J<|bX<|iX cq J<|f _ (.inr ?_) ?_)
   .have:af ((k:V)-1)=k-1:=by omega
    simpa[this]using d
   .simp
 .simp at l;subst l;exact re J<|F J (λd=>by simp at d)<|λ_=>(bs<|aS<|rr J<|bX<|iX cq J<|f _ (.inl J) J)
def BJ(a:E V):w O 163 [cS ao a] (cS ao<|aU a):=by
 refine aK Tryz.func163<|xN 0 J λm=>?_;simp only[ET.n,rh]at m;refine rr J<|rr J<|h<|ay<|bq (α:=G) (λk=>⟨[(0,cS ao a),(3,cI k)],[],2,[]⟩) (λk=>k<=Z a/\ij a k=ij a (Z a)) (λk=>k) (Z a) ⟨aL _,J⟩ aN ?_;rintro k ⟨s,b⟩;have f:∀v,k=0\/I a (k-1) 0≠0->v=r k a->bu (cS ao v) (cS ao<|aU a):=by
  intro v g d;refine bu.of_eq ?_;subst d;unfold aU;rw[<-b];cases k with
  |zero=>rfl
  |succ k=>
   rcases g with g|g
   .omega
   .simp only[eL]at g;simp only[ij,g,b8]
 refine h<|rb<|rg 8 J J (λl=>?_)<|λl=>?_
 .simp at l;refine re J (F J (λd=>?_)<|λd=>?_)
  .refine aE (ay<|rt J<|fF<|a4 (k-1) ⟨Y,?_⟩ (Y:k-1<k)<|wk ⟨sR J,sE J ?_,j⟩ j)
   .rw[<-b];obtain⟨i,rfl⟩:∃i,k=i+1:=⟨k-1,Y⟩;have p:I a i 0=0:=by have:af (((i+1:G):V)-1)=i:=Y;simpa[this]using d
    simp only[eL,ij,p,cz]
   .congr 2;omega
  .refine bs (aS<|rr J<|bX<|iX cq J<|f _ (.inr ?_) ?_)
   .have:af ((k:V)-1)=k-1:=by omega
    simpa[this]using d
   .simp
 .simp at l;subst l;exact re J<|F J (λd=>by simp at d)<|λ_=>(bs<|aS<|rr J<|bX<|iX cq J<|f _ (.inl J) J)
def oo(n:V)(a:0<=n)(b:n<4294967296):ax .u32 n=n:=by simp[ax,IntKind.bits,KR];omega
def bf(n:V)(a:0<=n)(b:n<18446744073709551616):ax .u64 n=n:=by simp[ax,IntKind.bits,KR];omega
def aeP m(b:m<18446744073709551616):aU [((m%4294967296:G):V),((m/4294967296:G):V)]=al m:=by have a:cu [((m%4294967296:G):V),((m/4294967296:G):V)]:=BG.mpr ⟨Y,BG.mpr ⟨Y,Wd⟩⟩;rw[rf a];congr 1;simp[val];omega
def Hr(m:G)(a:m<18446744073709551616):w O 136 [cU m] (cS ao<|al m):=by
 refine aK Tryz.func136 ?_;refine rr J<|rb ?_;have b:ax .u32 ((m:V).tmod 4294967296)=((m%4294967296:G):V):=by rw[oo]<;>(rw[k5 Y];omega)
 have d:ax .u32 (ax .u64<|(m:V).tdiv 4294967296)=((m/4294967296:G):V):=by
  have:(m:V).tdiv 4294967296=((m/4294967296:G):V):=by rw[wP Y];omega
  rw[this,bf _ Y Y,oo _ Y Y]
 refine rl ao [_,_] J J<|rc J J (BJ _)<|re J<|cv J ?_;rw[b,d,aeP m a]
def aqX neg(d:E V):w O 135 [cB neg,cS ao d] (.a [.B (neg&&decide (0<Z (aU d))),.S ao<|aU d]):=by
 refine aK Tryz.func135 ?_;refine rr J<|rb<|rc J J (BJ _)<|re J<|rb<|rg 9 J J (λh=>?_)<|λh=>?_
 .refine re J<|cv J ?_;subst h;have e:decide ((Z (aU d):V)>0)=(ae&&decide (0<Z (aU d))):=au;exact bm (λb=>AV.a [C.B b,C.S ao<|aU d]) e
 .refine re J<|cv J ?_;subst h;rfl
def D0 ws(i:G)(b:cu ws):w O 182 [cS ao ws,cI i] (cU<|I ws i 0):=by
 refine aK Tryz.func182 ?_;refine rr J<|h<|rr J ?_;have:=dI b i;refine F J (λa=>?_)<|λa=>?_
 .simp at a;refine rr J<|bX<|cY<|fK J ?_;have e:ax .u64 (I ws (af (i:V)) 0)=I ws i 0:=by rw[cC,bf _ this.1 Y]
  exact cj e
 .simp at a;refine aE<|rr J<|cv J ?_;have e:I ws i 0=0:=by simp[aO,iw a]
  rw[e];rfl
def eR(a b:V):V:=if a<b then-1 else if b<a then 1 else 0
def aqY a b(m:cu a)(p:cu b)(A:can a)(B:can b):w O 144 [cS ao a,cS ao b] (cI<|eR (val a)<|val b):=by
 refine aK Tryz.func144<|xN 0 J λu=>xN 1 J λv=>?_;simp[ET.n,rh]at u v;refine rr J<|h<|rr J<|F J (λs=>?_)<|λs=>?_
 .simp at s;refine rr J<|bX<|cY<|fK J ?_;rw[eR,q<|PD m p B s];rfl
 .simp at s;refine aE<|h<|rr J<|F J (λt=>?_) (λt=>?_)
  .simp at t;refine rr J<|bX<|cY<|fK J ?_;have:=PD p m A t;rw[eR,y Y,q this];rfl
  .simp at t;have x:Z a=Z b:=Y;refine aE<|h<|rr J<|ay<|bq (α:=G) (λk=>⟨[(0,cS ao a),(1,cS ao b),(5,cI<|(k:V)-1)],[],4,[]⟩) (λk=>k<=Z a/\az k a=az k b) (λk=>k) (Z a) ⟨aL _,by simp[x]⟩ aN ?_;rintro k ⟨D,g⟩;refine h<|rr J<|F J (λz=>?_) (λz=>?_)
   .simp at z;obtain⟨j,rfl⟩:∃j,k=j+1:=⟨k-1,Y⟩;have C:(((j+1:G):V)-1)=j:=Y;have f:j<Z a:=Y;rw[C];refine aE<|h<|ay<|h<|rr J<|F J (λi=>?_) (λi=>?_)
    .simp at i;refine rr J<|bX ?_;repeat(first|refine cY ?_|refine ma ?_|refine m0 ?_)
     refine fK J ?_;rw[eR,q<|PE m p j g x f i];rfl
    .have i:¬(I a j 0<I b j 0):=by simpa using i
     refine aE<|rr J<|F J (λl=>?_)<|λl=>?_
     .simp at l;refine rr J<|bX ?_;repeat(first|refine cY ?_|refine ma ?_|refine m0 ?_)
      refine fK J ?_;have:=PE p m j g.symm x.symm Y l;rw[eR,y Y,q this];rfl
     .have l:¬(I a j 0>I b j 0):=by simpa using l
      refine di<|bP<|rt J<|a4 j ⟨Y,?_⟩ vk aN;have e:I a j 0=I b j 0:=Y;have d:j<Z b:=Y;rw[tU f,tU d,g];simp[aO,df f,df d,tK]at e;rw[e]
   .simp at z;have:k=0:=Y;subst this;refine bs<|aS<|rr J<|bX ?_;repeat(first|refine cY ?_|refine ma ?_|refine m0 ?_)
    refine fK J ?_;simp[sr]at g;rw[g,eR,y Y,y Y];rfl
def wQ b i a(d:V)(f:i<Z b):(b.set i d).getD a 0=if i=a then d else I b a 0:=by
 simp[aO,Wj];by_cases e:i=a
 .subst e;simp[f]
 .simp[e]
def KS a i b(d:i<Z a)(f:I a i 0=0):val (a.set i b)=val a+b*4294967296^i:=by rw[Wf a i b d,f];simp
structure Hs(a b:E V)(m:G)(x:G×E V×V):Prop where
 i:x.1<=m
 len:x.2.1.length=m
 r:cu x.2.1
 z:∀d,x.1<=d->x.2.1.getD d 0=0
 c0:0<=x.2.2
 c1:x.2.2<=1
 v:val x.2.1+x.2.2*4294967296^x.1=val (a.take x.1)+val (b.take x.1)
def Hs.next{a b}{m}{x}(d:Hs a b m x)(f:x.1<m)(g:cu a)(k:cu b):Hs a b m (x.1+1,x.2.1.set x.1<|(I a x.1 0+I b x.1 0+x.2.2)%4294967296,(I a x.1 0+I b x.1 0+x.2.2)/4294967296):=by
 have p:=dI g x.1;have t:=dI k x.1;have u:=d.c0;have A:=d.c1;refine⟨f,by simp[d.len],BI d.r _ ⟨Y,Y⟩,?_,(by show 0<=_/_;omega),(by show _/_<=1;omega),?_⟩
 .intro j i;simp only at i;rw[wQ _ _ _ _ (by rw[d.len];exact f),y Y];exact d.z j Y
 .simp only;rw[KS _ _ _ (by rw[d.len];exact f) (d.z _<|aL _),lP,lP,gP];have l:=d.v;generalize (4294967296:V)^x.1=q at l⊢;generalize ht:I a x.1 0+I b x.1 0+x.2.2=s;have n:s%4294967296+s/4294967296*4294967296=s:=Y;have:val x.2.1=val (List.take x.1 a)+val (List.take x.1 b)-x.2.2*q:=Y;rw[this];have e:s%4294967296*q+s/4294967296*(q*4294967296)=s*q:=by rw[show s/4294967296*(q*4294967296)=s/4294967296*4294967296*q by grind,<-pJ,n]
  have B:s*q=I a x.1 0*q+I b x.1 0*q+x.2.2*q:=by rw[<-ht];grind
  omega
def aeQ(x a:G):(if(a:V)>x then(a:V)else x)=((max x a:G):V):=by
 by_cases h:(a:V)>x
 .rw[q h];omega
 .rw[y h];omega
def aqZ a b(m:cu a)(n:cu b)(la:Z a<=1099511627776)(lb:Z b<=1099511627776):w O 143 [cS ao a,cS ao b] (cS ao<|al<|af<|val a+val b):=by
 refine aK Tryz.func143 ?_;refine rr J<|rr J<|rb<|rm ao (max (Z a) (Z b)+1) J J J J J J (oe .u32) ?_ ?_ ?_ ?_
 .rw[aeQ];rfl
 .show _*4<=_;omega
 .show _*1<=_;omega
 refine re J<|rr J<|h<|rr J ?_;generalize hM:max (Z a) (Z b)+1=M;refine ay<|bq (α:=G×E V×V) (λx=>⟨[(0,cS ao a),(1,cS ao b),(5,cI M),(6,.c<|.X 2001000),(7,cU x.2.2),(8,cI x.1)],[(2001000,.vec 142 ao x.2.1)],5,[]⟩) (Hs a b M) (λx=>M-x.1) (0,bx M 0,0) ?_ ?_ ?_
 .refine⟨bg _,au,tT M,?_,iZ _,KT,D1⟩;intro L _;simp only[aO,nG];split<;>rfl
 .refine wk ⟨sR J,sR J,sE J ?_,sR J,sR J,sR J,j⟩ ⟨bR J,j⟩;rw[aeQ,<-hM];congr 2
 .rintro⟨i,o,c⟩ d;have t:Z o=M:=d.len;have A:0<=c:=d.c0;have B:c<=1:=d.c1;have R:=dI m i;have S:=dI n i;refine h<|rr J<|F J (λf=>?_) (λf=>?_)
  .have f:i<M:=by simpa using f
   refine aE<|h<|ay<|rb<|rc J J (D0 a i m)<|rc J J (D0 b i n)<|re J ?_;have C:ax .u64 (ax .u64 (I a i 0+I b i 0)+c)=I a i 0+I b i 0+c:=by rw[bf (I a i 0+I b i 0) Y Y,bf _ Y Y]
   rw[C];generalize ht:I a i 0+I b i 0+c=s;have D:ax .u32 (s.tmod 4294967296)=s%4294967296:=by rw[k5 Y,oo _ Y Y]
   have H:ax .u64 (s.tdiv 4294967296)=s/4294967296:=by rw[wP Y,bf _ Y Y]
   have u:=d.next f m n;simp only[ht]at u;refine rr J<|rt J<|bP<|rt J<|a4 (i+1,o.set i<|s%4294967296,s/4294967296) u zM<|wk ⟨sR J,sR J,sR J,sR J,sE J<|cj H,sE J ?_,j⟩ ⟨bE J ?_,j⟩
   .rfl
   .rw[D,cC]
  .have f:¬i<M:=by simpa using f
   have K:i=M:=by have:=d.i;simp only at this;omega
   refine bs<|aS<|dv 2001000 J J J<|rb<|rc J J (BJ _)<|re J<|cv J ?_;have g:=d.v;simp only at g;have p:cu o:=d.r;have N:=oT p;have P:=nF p;have k:val (r i a)=val a:=om a i Y;have l:val (r i b)=val b:=om b i Y;have Q:=oT m;have T:=oT n;have U:(4294967296:V)^Z a<=4294967296^(M-1):=wO Y;have pb:(4294967296:V)^Z b<=4294967296^(M-1):=wO Y;have W:(4294967296:V)^M=4294967296^(M-1)*4294967296:=by rw[<-gP];congr 1;omega
   have z:=k4<|M-1;have e:c=0:=by
    rw[k,l,K,W]at g;rcases Int.lt_or_le c 1 with q|y
    .omega
    .have:c=1:=by omega
     subst this;omega
   rw[rf p];subst e;rw[k,l]at g;simp only[oU,tV]at g;rw[g]
end Go.El
