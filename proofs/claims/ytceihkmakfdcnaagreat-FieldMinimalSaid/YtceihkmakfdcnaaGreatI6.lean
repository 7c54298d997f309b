/- Own work; no condition. -/
import Derived.Test.YtceihkmakfdcnaaGreatProg
import Derived.KernelRfl
import Derived.Test.YtceihkmakfdcnaaGreatI5
import Derived.Test.YtceihkmakfdcnaaGreatI4
import Derived.Test.YtceihkmakfdcnaaGreatI2
import Derived.Test.YtceihkmakfdcnaaGreatI1
set_option linter.all false
set_option maxHeartbeats 16000000
set_option maxRecDepth 100000
open Array renaming replicate->rR
open Bool renaming false->ak,true->af
open Go renaming Program->bO,FuncId->jk,Value->aT,World->cA,Oper->a8,Code->fj,TypeId->eh
open Go.Act renaming put->iq
open Go.Deferred renaming ofValue->yJ
open Go.El renaming xe->F,iA->L,bA->h,akB->R
open Go.Instr renaming sliceBounds->yk
open Go.IntKind renaming wrap->ay,signed->J0
open Go.Proofs.Tryz renaming prog->r
open Go.Region renaming wanted->gZ
open Go.World renaming putObj_heap_other->Da,putObj_heap_same->UJ,alloc_heap_new->UX
open Int renaming toNat->ah
open List renaming length->Z,replicate->bt,drop->az,getD->I,range->cy,range'->JI,take->c
open Nat renaming ble->eL,blt->dK,strongRecOn->JF
open Option renaming some->ae
open _root_ renaming Nat->G,List->E,Int->V
namespace Go.El
open Go Go.Proofs Go.RowKit
noncomputable def acV(f:TT)(a:Func)(dep:G)(g:AV):jo SR->Bool
 | .dD s=>(match Gb f dep a.ntmps s.t s.ms a.results.toList with
  |some b=>C0 (λd=>L d s.ms.flatten) b g
  |none=>ak)
 | .ret s=>(match Gb f dep a.ntmps s.t s.ms a.results.toList with
  |some b=>C0 (λd=>L d s.ms.flatten) b g
  |none=>ak)
 |_=>ak
noncomputable def U2(P:bO)(b:TT)(a:jk->E AV->Ms->Option (E AV×AV))(d g i:G)(f:jk)(vs:E AV)(k:AV):Bool:=match P.funcs[f]? with
 |some fn=>(match fn.body with
  |some c=>(match fn.name != "runtime.NumGoroutine" &&eL (Z vs) fn.ntmps&&eL fn.ntmps 4096 with
   |true=>acV b fn (fh fn.ntmps) k<|gen (Ov P b a d g (fh fn.ntmps) fn.ntmps) (Ow (fh fn.ntmps) fn.ntmps) i c ⟨om (fh fn.ntmps) vs 0 .e,[[]],0⟩
   |false=>ak)
  |none=>ak)
 |none=>ak
section
variable{P:bO}{tt:TT}{dZ:jk->E AV->Ms->Option (E AV×AV)}
def U3{n:Func}{a:Array aT}{p:Ending->cA->Prop}{B:G}:∀(mk:E G)(W:cA),(∀D∈mk,W.heap[D]? =ae (.deferred<|ae [])/\B<=D)->mk.Nodup->
  (∀d,WX B W d->∃v,(results n a).run P d= .ok v d/\p (.returned v) d)->LeavesInM (dC none) 0 P n a p (mk.map kq) .returning W
 |[],W,_,_,g=>g W<|WX.refl _ _
 |D::mk,W,hm,f,g=>by
  have i:=hm D ax;have s:=WX.putObj (B:=B) (.deferred none) i.1 J i.2;refine⟨ax,.inl ⟨D,_,J,run_takeDeferred i.1,?_⟩⟩;refine U3 mk _ (λk b=>⟨?_,(hm k<|by simp[b]).2⟩) (Af.1 f).2<|λd l=>g d<|s.trans l;have m:k≠D:=λe=>(Af.1 f).1<|e▸b
  rw[Da m];exact(hm k<|by simp[b]).1
def acW(k8:P.follows .mixedOrders=af)(cC:cw P tt=af)(AU:∀f vs ms nH a7,dZ f vs ms=ae (nH,a7)->aq P f nH a7) fu fy fr{f}{a}{dT}(hf:P.funcs[f]? =ae a)(hb:a.body=ae dT)(qv:(a.name != "runtime.NumGoroutine")=af){vs}(hle:Z vs<=a.ntmps)(gY:a.ntmps<=4096)
  {s:SR} {rr:jo SR} (jx:gen (Ov P tt dZ fu fy (fh a.ntmps) a.ntmps) (Ow (fh a.ntmps) a.ntmps) fr dT ⟨om (fh a.ntmps) vs 0 .e,[[]],0⟩=rr) (hrr:rr= .dD s\/rr= .ret s) {a7}(hr:Gb tt (fh a.ntmps) a.ntmps s.t s.ms a.results.toList=ae a7) (hm:cO vs=[]):CX P f vs [] 0 a7 s.ms.flatten s.k:=by
 refine⟨yv,bm _,?_⟩
 intro F g W C hn lV Q
 have hn4:a.ntmps<=4^fh a.ntmps:=Us gY
 refine callsIn_wide.1<|callsIn_of_wp_marks (n:=0) (F:=dC none) hf hb M ?_
 have hds:F.ds=[]:=Q.defers.symm
 have h:(C.toArray++rR (a.ntmps-C.toArray.size) undef).size=a.ntmps:=b6
 have o:∀d v,(bu (fh a.ntmps) a.ntmps (om (fh a.ntmps) vs 0 .e) []).kn (.s d)=ae (.v v)->L d (dG 0 vs)=ae v:=by
  intro d v p;rw[FQ]at p;simp only at p;by_cases w:d<a.ntmps
  .rw[q w,C8 _ vs 0 .e d Y Y,AI]at p;cases hl:L d (dG 0 vs)with
   |none=>rw[hl]at p;simp at p
   |some x=>rw[hl]at p;simp only[xg,ar,Info.v.injEq]at p;rw[p]
  .rw[j w]at p;simp at p
 have h0:aM {F with n:=a.ntmps,ds:=[].map kq,rd:=none} (·<0) (bu (fh a.ntmps) a.ntmps (om (fh a.ntmps) vs 0 .e) ([[]]:Ms).flatten).kn g W {tmps:=C.toArray++rR (a.ntmps-C.toArray.size) undef,defers:=[]}:=by
  refine⟨h,J,λd v p=>?_,λi b hb=>?_,λi E b b' kk G=>?_,λT x l i z=>?_,λi x l=>?_,Q.sub,Q.below,Q.le,Q.fresh,Q.fB⟩
  .have hl:=o d v p;have G:=Q.dH d v Cx;have jw:=(AT vs 0 d v hl).1;have:(C.toArray++rR (a.ntmps-C.toArray.size) undef).getD d undef=C.toArray.getD d undef:=by rw[lR,lR,ui b6]
   rw[this];exact G
  .simp[bu,St.kn,L]at hb
  .simp[bu,St.kn,L]at G
  .cases T with
   |m d=>simp[bu,St.kn,L]at l
   |s d=>
    cases x with
    |b _=>simp[bu,St.kn]at l
    |v y=>
     have:=(AT vs 0 d y<|o d y l).2 i z
     rw[hm]at this
     cases this
  .simp[bu,St.kn,L]at l
 have I:eI (fh a.ntmps) a.ntmps (om (fh a.ntmps) vs 0 .e) 0:=by
  intro d v p V i z;rw[C8 _ vs 0 .e d Y Y,AI]at V;split at V
  .rename_i u hu;cases V;have:=(AT vs 0 d v hu).2 i z;rw[hm]at this;cases this
  .cases V
 have xG:IR F (fh a.ntmps) a.ntmps ⟨om (fh a.ntmps) vs 0 .e,[[]],0⟩ {tmps:=C.toArray++rR (a.ntmps-C.toArray.size) undef,defers:=[]} W:=
  ⟨g,[],I,λi b hb=>(by simp[bI,nF]at hb),h0,λD hD=>(by cases hD),List.nodup_nil⟩
 have K:∀(N:Act)(H:cA),IR F (fh a.ntmps) a.ntmps s N H->LeavesInM (dC none) 0 P a N.tmps (λe H=>∃v g',e= .returned v/\aM {F with n:=1} (·<s.k) (St.kn ⟨[(0,a7)],s.ms.flatten,0,[]⟩) g' H (nC [v])) N.defers .returning H:=by
  intro N H O;let ⟨g',mk,mC,kQ,h',nt,kd⟩:=O;have hd:N.defers=mk.map kq:=h'.defers;rw[hd];refine U3 (B:=F.w0.heap.size) mk H nt kd ?_;intro W2 l;have A:=h'.wx l;have R:=acm hr;let ⟨u,hu,S⟩:=Av (P:=P) (tt:=tt) (st:=bu (fh a.ntmps) a.ntmps s.t s.ms.flatten) cC A (fn:=a) (rs:=a.results.toList) ax R;have AY:=aa' (tt:=tt) A R;refine⟨u,hu,u,g',J,⟨J,hds.symm,?_,?_,?_,?_,?_,A.sub,A.below,A.le,A.fresh,A.fB⟩⟩
  .intro t x l;simp only[St.kn,L,bS]at l;let ⟨y,X,he⟩:=l;cases he;split at X
   .rename_i e;subst e;cases X;simpa[nC]using S
   .cases X
  .intro i b hb;exact A.cE i b hb
  .intro i E b b' kk hb mU G h3;exact A.inj i E b b' kk hb mU G h3
  .intro T x l i z;cases T with
   |s t=>
    simp only[St.kn,L,bS]at l
    let ⟨y,X,he⟩:=l
    subst he
    split at X
    .cases X;exact AY i z
    .cases X
   |m d=>exact A.al (.m d) x l i z
  .intro i x l;exact A.dI i x l
 have U:=acA (P:=P) (Fe:=dC none) (aop (F:=F) k8 cC AU fu fy hn4) aoo fr dT _ rr jx (by rcases hrr with e|e<;>rw[e]<;>simp) _ W xG
 refine wpIn_mono (F:=dC none) U ?_
 intro e N H hp
 rcases hrr with e1|e1
 .rw[e1]at hp;obtain⟨rfl,O⟩:=hp;exact K N H O
 .rw[e1]at hp;obtain⟨rfl,O⟩:=hp;exact K N H O
def aov(l:P.follows .mixedOrders=af)(m:cw P tt=af)(g:∀f vs D n p,dZ f vs D=ae (n,p)->aq P f n p) u v x{f}{vs}{z}
  (a:U2 P tt dZ u v x f vs z=af) (t:cO vs=[]) (A:z.al=[]):aq P f vs z:=by
 unfold U2 at a
 split at a
 .rename_i H B;split at a
  .rename_i c C;split at a
   .rename_i i;simp only[cG]at i;let ⟨⟨b,hlen⟩,gY⟩:=i;unfold acV at a;split at a
    .rename_i s d;split at a
     .rename_i p k;exact UA (acW l m g u v x B C b (cQ hlen) (cQ gY) d (.inl J) k t) t A a
     .cases a
    .rename_i s d;split at a
     .rename_i p k;exact UA (acW l m g u v x B C b (cQ hlen) (cQ gY) d (.inr J) k t) t A a
     .cases a
    .cases a
   .cases a
  .cases a
 .cases a
end
def dE:TT:=[
 (2,⟨.int .i64,1,8,[],[.i .i64]⟩),
 (3,⟨.int .i64,1,8,[],[.i .i64]⟩),
 (4,⟨.bool,1,1,[],[.b]⟩),
 (5,⟨.int .u8,1,1,[],[.i .u8]⟩),
 (6,⟨.int .u8,1,1,[],[.i .u8]⟩),
 (9,⟨.str,1,16,[],[.t]⟩),
 (10,⟨.str,1,16,[],[.t]⟩),
 (11,⟨.str,1,16,[],[.t]⟩),
 (12,⟨.int .u64,1,8,[],[.i .u64]⟩),
 (21,⟨.int .i32,1,4,[],[.i .i32]⟩),
 (22,⟨.sl 53,1,24,[],[.s]⟩),
 (23,⟨.st,2,32,[(0,1,ak),(1,1,ak)],[.i .u8,.s]⟩),
 (24,⟨.st,2,32,[(0,1,ak),(1,1,ak)],[.i .u8,.s]⟩),
 (25,⟨.sl 57,1,24,[],[.s]⟩),
 (26,⟨.sl 57,1,24,[],[.s]⟩),
 (28,⟨.sl 44,1,24,[],[.s]⟩),
 (29,⟨.sl 44,1,24,[],[.s]⟩),
 (33,⟨.int .i64,1,8,[],[.i .i64]⟩),
 (40,⟨.sl 142,1,24,[],[.s]⟩),
 (41,⟨.st,2,32,[(0,1,ak),(1,1,ak)],[.b,.s]⟩),
 (42,⟨.st,2,32,[(0,1,ak),(1,1,ak)],[.b,.s]⟩),
 (43,⟨.st,4,64,[(0,2,af),(2,2,af)],[.b,.s,.b,.s]⟩),
 (44,⟨.st,4,64,[(0,2,af),(2,2,af)],[.b,.s,.b,.s]⟩),
 (51,⟨.arr 3 26,3,72,[],[.s,.s,.s]⟩),
 (53,⟨.int .i8,1,1,[],[.i .i8]⟩),
 (55,⟨.arr 2 26,2,48,[],[.s,.s]⟩),
 (56,⟨.st,3,3,[(0,1,ak),(1,1,ak),(2,1,ak)],[.i .i8,.i .i8,.i .u8]⟩),
 (57,⟨.st,3,3,[(0,1,ak),(1,1,ak),(2,1,ak)],[.i .i8,.i .i8,.i .u8]⟩),
 (68,⟨.sl 26,1,24,[],[.s]⟩),
 (69,⟨.arr 3 68,3,72,[],[.s,.s,.s]⟩),
 (70,⟨.sl 29,1,24,[],[.s]⟩),
 (77,⟨.sl 129,1,24,[],[.s]⟩),
 (78,⟨.st,1,24,[(0,1,ak)],[.s]⟩),
 (79,⟨.st,1,24,[(0,1,ak)],[.s]⟩),
 (80,⟨.arr 2 79,2,48,[],[.s,.s]⟩),
 (81,⟨.arr 8 29,8,192,[],[.s,.s,.s,.s,.s,.s,.s,.s]⟩),
 (82,⟨.sl 132,1,24,[],[.s]⟩),
 (83,⟨.sl 132,1,24,[],[.s]⟩),
 (90,⟨.sl 22,1,24,[],[.s]⟩),
 (101,⟨.map 3 104,1,8,[],[.m]⟩),
 (103,⟨.st,2,48,[(0,1,ak),(1,1,ak)],[.s,.s]⟩),
 (104,⟨.st,2,48,[(0,1,ak),(1,1,ak)],[.s,.s]⟩),
 (110,⟨.sl 114,1,24,[],[.s]⟩),
 (113,⟨.st,2,32,[(0,1,ak),(1,1,ak)],[.s,.i .i64]⟩),
 (114,⟨.st,2,32,[(0,1,ak),(1,1,ak)],[.s,.i .i64]⟩),
 (126,⟨.arr 8 3,8,64,[],[.i .i64,.i .i64,.i .i64,.i .i64,.i .i64,.i .i64,.i .i64,.i .i64]⟩),
 (127,⟨.arr 8 3,8,64,[],[.i .i64,.i .i64,.i .i64,.i .i64,.i .i64,.i .i64,.i .i64,.i .i64]⟩),
 (129,⟨.arr 5 53,5,5,[],[.i .i8,.i .i8,.i .i8,.i .i8,.i .i8]⟩),
 (131,⟨.st,12,128,[(0,4,af),(4,8,af)],[.b,.s,.b,.s,.i .i64,.i .i64,.i .i64,.i .i64,.i .i64,.i .i64,.i .i64,.i .i64]⟩),
 (132,⟨.st,12,128,[(0,4,af),(4,8,af)],[.b,.s,.b,.s,.i .i64,.i .i64,.i .i64,.i .i64,.i .i64,.i .i64,.i .i64,.i .i64]⟩),
 (142,⟨.int .u32,1,4,[],[.i .u32]⟩),
 (150,⟨.int .u64,1,8,[],[.i .u64]⟩),
 (161,⟨.sl 42,1,24,[],[.s]⟩),
 (167,⟨.sl 150,1,24,[],[.s]⟩),
 (173,⟨.sl 178,1,24,[],[.s]⟩),
 (176,⟨.sl 167,1,24,[],[.s]⟩),
 (177,⟨.st,2,32,[(0,1,ak),(1,1,ak)],[.s,.i .i64]⟩),
 (178,⟨.st,2,32,[(0,1,ak),(1,1,ak)],[.s,.i .i64]⟩),
 (181,⟨.sl 161,1,24,[],[.s]⟩),
 (192,⟨.int .u64,1,8,[],[.i .u64]⟩),
 (200,⟨.st,2,48,[(0,1,ak),(1,1,ak)],[.s,.s]⟩),
 (201,⟨.st,2,48,[(0,1,ak),(1,1,ak)],[.s,.s]⟩),
 (207,⟨.st,2,48,[(0,1,ak),(1,1,ak)],[.s,.s]⟩),
 (208,⟨.st,2,48,[(0,1,ak),(1,1,ak)],[.s,.s]⟩),
 (220,⟨.st,2,32,[(0,1,ak),(1,1,ak)],[.s,.i .u64]⟩),
 (221,⟨.st,2,32,[(0,1,ak),(1,1,ak)],[.s,.i .u64]⟩),
 (226,⟨.sl 221,1,24,[],[.s]⟩),
 (230,⟨.int .i64,1,8,[],[.i .i64]⟩),
 (264,⟨.int .u64,1,8,[],[.i .u64]⟩),
 (274,⟨.arr 4 150,4,32,[],[.i .u64,.i .u64,.i .u64,.i .u64]⟩),
 (277,⟨.sl 3,1,24,[],[.s]⟩),
 (286,⟨.st,4,40,[(0,1,ak),(1,1,ak),(2,1,ak),(3,1,ak)],[.p,.p,.p,.t]⟩),
 (287,⟨.st,4,40,[(0,1,ak),(1,1,ak),(2,1,ak),(3,1,ak)],[.p,.p,.p,.t]⟩),
 (288,⟨.arr 0 16,0,0,[],[]⟩),
 (291,⟨.int .u8,1,1,[],[.i .u8]⟩),
 (292,⟨.int .u8,1,1,[],[.i .u8]⟩),
 (295,⟨.int .i32,1,4,[],[.i .i32]⟩),
 (296,⟨.int .i32,1,4,[],[.i .i32]⟩),
 (297,⟨.st,11,48,[(0,1,ak),(1,1,ak),(2,1,ak),(3,1,ak),(4,1,ak),(5,1,ak),(6,1,ak),(7,1,ak),(8,1,ak),(9,1,ak),(10,1,ak)],[.i .u64,.i .u64,.i .u32,.i .u8,.i .u8,.i .u8,.i .u8,.f,.p,.i .i32,.i .i32]⟩)]
def cp:cw r dE=af:=e9
def MX:Tryz.prog.follows .mixedOrders=af:=e9
abbrev ao:ET:= .int .u32
abbrev au:ET:= .int .u64
abbrev ot:ET:= .int .i64
abbrev I8:ET:= .int .i8
abbrev cI(n:V):AV:= .c<|.I .i64 n
abbrev cU(n:V):AV:= .c<|.I .u64 n
abbrev cW(n:V):AV:= .c<|.I .u32 n
abbrev cB(b:Bool):AV:= .c<|.B b
abbrev cS(T:ET)(xs:E T.den):AV:= .c<|.S T xs
abbrev aZ(z:V):AV:= .a<|av .z z
abbrev aQ(b:Rat):AV:= .a<|av .q b
section
variable{n:G}{Q:ia}{sl sl':E (G×AV)}{mem bT:E (G×aC)}{nx:G}{gd gd':E (G×Bool)}{id:G}{ops:Array a8}{draw:Bool}{y:fj}{p:Pr}{ks dA:E Ks}{i i' n0 cu:G}
def rr(b:runs dE n nx draw ops.toList ops.toList 0 ⟨sl,mem,nx,gd⟩ .t []=([],i',⟨sl',bT,n0,gd'⟩,p,ks))(d:TR r n y ⟨sl',bT,nx+1,[]⟩ Q)
  (hp:p:=by exact mB) (f:(!draw||rE ops.toList ks)=af:=by kernel_rfl) (a:eL ops.size 1000=af:=by rfl):TR r n (.seq (.region id ops draw) y) ⟨sl,mem,nx,gd⟩ Q:=
 h (MM MX<|jJ cp b hp<|ID d f a)
def rt(b:runs dE n nx draw ops.toList ops.toList 0 ⟨sl,mem,nx,gd⟩ .t []=([],i',⟨sl',bT,n0,gd'⟩,p,ks))(d:gf n .normal ⟨sl',bT,nx+1,[]⟩ Q)
  (hp:p:=by exact mB) (f:(!draw||rE ops.toList ks)=af:=by kernel_rfl) (a:eL ops.size 1000=af:=by rfl):TR r n (.region id ops draw) ⟨sl,mem,nx,gd⟩ Q:=
 MM MX (jJ cp b hp<|ID d f a)
def rb(b:RG r n ops draw nx 0 ops.toList ⟨sl,mem,nx,gd⟩ [] (λa=>TR r n y a Q)):TR r n (.seq (.region id ops draw) y) ⟨sl,mem,nx,gd⟩ Q:=h<|MM MX b
def cL(b:RG r n ops draw nx 0 ops.toList ⟨sl,mem,nx,gd⟩ [] (λa=>gf n .normal a Q)):TR r n (.region id ops draw) ⟨sl,mem,nx,gd⟩ Q:=MM MX b
variable{R:St->Prop}{os:E a8}{d f:G}{args:Array Operand}{kj:Array eh}{ty:eh}{pos:String}{iB:Array Edge}{dN:E a8}{vs:E AV}{r:AV}
def rc(b:runs dE n nx draw ops.toList os i ⟨sl,mem,n0,gd⟩ .t ks=(⟨ae d,.call ⟨.value<|.func f,args,kj⟩,ty,pos,iB,none⟩::dN,i',⟨sl',bT,cu,gd'⟩,p,dA))(g:kh ⟨sl',bT,cu,gd'⟩ args.toList=ae vs)(k:aq Tryz.prog f vs r)
  (l:RG Tryz.prog n ops draw nx (i'+1) dN ⟨(d,r)::sl',bT,cu,gd'⟩ (g5 draw dA (bH args.toList,[.s d])) R)
  (hp:p:=by exact mB) (m:cO vs=[]:=by rfl) (a:dK d n=af:=by rfl):RG Tryz.prog n ops draw nx i os ⟨sl,mem,n0,gd⟩ ks R:=
 jJ cp b hp (alw g k l m a)
def mD{m g}{a b}(u:runs dE n nx draw ops.toList os i ⟨sl,mem,n0,gd⟩ .t ks=(⟨ae d,.call ⟨.value<|.func f,args,kj⟩,ty,pos,iB,ae (m,a)⟩::dN,i',⟨sl',bT,cu,gd'⟩,p,dA))(v:sQ ops.toList m=ae g)(x:L g sl'=ae (.c<|.B b))(k:b=a)(z:kh ⟨sl',bT,cu,gd'⟩ args.toList=ae vs)(A:aq Tryz.prog f vs r)
  (D:RG Tryz.prog n ops draw nx (i'+1) dN ⟨(d,r)::sl',bT,cu,gd'⟩ (g5 draw dA (.s g::bH args.toList,[.s d])) R)
  (hp:p:=by exact mB) (H:cO vs=[]:=by rfl) (l:dK d n=af:=by rfl):RG Tryz.prog n ops draw nx i os ⟨sl,mem,n0,gd⟩ ks R:=
 jJ cp u hp (alx v x k z A D H l)
def re(b:runs dE n nx draw ops.toList os i ⟨sl,mem,n0,gd⟩ .t ks=([],i',⟨sl',bT,cu,gd'⟩,p,dA))(g:R ⟨sl',bT,nx+1,[]⟩)
  (hp:p:=by exact mB) (ho:(!draw||rE ops.toList dA)=af:=by kernel_rfl) (a:eL ops.size 1000=af:=by rfl):RG Tryz.prog n ops draw nx i os ⟨sl,mem,n0,gd⟩ ks R:=
 jJ cp b hp (ID g ho a)
def rg t{b}{a}(g:runs dE n nx draw ops.toList os i ⟨sl,mem,n0,gd⟩ .t ks=(a::dN,i',⟨sl',bT,cu,gd'⟩,p,dA))(k:L t sl'=ae (.c<|.B b))
  (l:b=af->RG Tryz.prog n ops draw nx i' (a::dN) ⟨(t,.c<|.B af)::sl',bT,cu,(t,af)::gd'⟩ dA R) (m:b=ak->RG Tryz.prog n ops draw nx i' (a::dN) ⟨(t,.c<|.B ak)::sl',bT,cu,(t,ak)::gd'⟩ dA R)
  (hp:p:=by exact mB):RG Tryz.prog n ops draw nx i os ⟨sl,mem,n0,gd⟩ ks R:=
 jJ cp g hp (aly t k l m)
def rm{t:G}{x}T(m:G)(N:runs dE n nx draw ops.toList os i ⟨sl,mem,n0,gd⟩ .t ks=(⟨ae d,.makeSlice t x x,ty,pos,iB,none⟩::dN,i',⟨sl',bT,cu,gd'⟩,p,dA)){k}{v}(P:St.ev ⟨sl',bT,cu,gd'⟩ x=ae (.c<|.I k v)){b}{H a}(l:L t dE=ae H)(u:H.kind= .sl b)(z:L b dE=ae a)(A:a.size=T.n)
  (W:∀g:Gh,a4 g (av T T.et) (a.zero.map ZV.fC)) (hv:v=(m:V)) (hb:m*a.bytes<=281474976710656) (B:m*T.n<=140737488355328)
  (hk:RG Tryz.prog n ops draw nx (i'+1) dN ⟨(d,.c<|.X<|1000000*nx+1000*i')::sl',(1000000*nx+1000*i',.vec b T<|bt m T.et)::bT,cu,gd'⟩ (g5 draw dA (bH [x,x],[.s d,.m<|1000000*nx+1000*i'])) R)
  (hp:p:=by exact mB) (D:dK d n=af:=by rfl):RG Tryz.prog n ops draw nx i os ⟨sl,mem,n0,gd⟩ ks R:=
 jJ cp N hp (alF cp T m P hv l u z A W hb B hk D)
end
def nJ k g:a4 g (av (.int k)<|ET.et<|.int k) ([ZV.i k].map ZV.fC):=⟨_,_,J,J,J⟩
def acY H:ED H [] (.slice none 0 0):=⟨none,0,J,aN _,ax,.inl J⟩
def OD g:a4 g (av .z (0:V)) ([ZV.b,ZV.s].map ZV.fC):=Mb ⟨_,J,acY _⟩
def U4 g:a4 g (av (.pr .z .z) ((0,0):V×V)) ([ZV.b,ZV.s,ZV.b,ZV.s].map ZV.fC):=a4.append (OD g)<|OD g
section
variable{n:G}{Q:ia}{sl sl':E (G×AV)}{mem bT:E (G×aC)}{nx:G}{gd gd':E (G×Bool)}{id:G}{ops:Array a8}{draw:Bool}{y y0:fj}{p q:Pr}{ks dA Nw:E Ks}{i i' n0 cu:G}{st:St}{fn:Func}{rs:E ResultVar}{r r':AV}
variable{R:St->Prop}{os:E a8}{d f:G}{args:Array Operand}{kj:Array eh}{ty:eh}{pos:String}{iB:Array Edge}{dN:E a8}{vs:E AV}
def atR(b:mA dE st rs=ae r)(a:fn.results=rs.toArray:=by rfl)(g:r.al=[]:=by rfl):gf n .ret st (Cv Tryz.prog fn r):=iZ cp b (bq.refl _) a g
def fO(b:mA dE st rs=ae r')(g:r'=r)(a:fn.results=rs.toArray:=by rfl)(k:r.al=[]:=by rfl):gf n .ret st (Cv Tryz.prog fn r):=iZ cp b (bq.of_eq g) a k
def di(b:mA dE st rs=ae r)(a:fn.results=rs.toArray:=by rfl)(g:r.al=[]:=by rfl):TR Tryz.prog n .ret st (Cv Tryz.prog fn r):=bX<|atR b a g
def cd(b:mA dE st rs=ae r')(g:r'=r)(a:fn.results=rs.toArray:=by rfl)(k:r.al=[]:=by rfl):TR Tryz.prog n .ret st (Cv Tryz.prog fn r):=bX<|fO b g a k
def bD{a:Type}{b:a->St}{g:a->Prop}{k:a->G}{x}(l:gf n .normal st Q):TR Tryz.prog n (.exit id) st (vq Tryz.prog y0<|IE b g k x<|yu id Q):=oc<|rH<|oS<|oe l
def aG(a:TR Tryz.prog n y st Q):TR Tryz.prog n .skip st (vq Tryz.prog y Q):=dk<|aR a
def bU(a:TR Tryz.prog n y st Q):gf n .normal st (yu id<|vq Tryz.prog y Q):=fT<|aR a
def bL(m:runs dE n nx draw ops.toList ops.toList 0 ⟨sl,mem,nx,gd⟩ .t []=(⟨ae d,.call ⟨.value<|.func f,args,kj⟩,ty,pos,iB,none⟩::dN,i',⟨sl',bT,cu,gd'⟩,p,dA))(u:kh ⟨sl',bT,cu,gd'⟩ args.toList=ae vs)(v:aq Tryz.prog f vs r)
 {b}{a}{x z}{g}(A:runs dE n nx draw ops.toList dN (i'+1) ⟨(d,r)::sl',bT,cu,gd'⟩ .t (g5 draw dA (bH args.toList,[.s d]))=([],z,⟨b,a,x,g⟩,q,Nw)) (B:TR Tryz.prog n y ⟨b,a,nx+1,[]⟩ Q)
  (D:p:=by exact mB) (H:cO vs=[]:=by rfl) (k:dK d n=af:=by rfl) (N:q:=by first|trivial| (simp only[Pr.an,Pr.h,num,gy,true_and,and_true];first|done|omega)| (simp[Pr.an,Pr.h,num,gy];done)| (simp[Pr.an,Pr.h,num,gy];omega)) (P:(!draw||rE ops.toList Nw)=af:=by kernel_rfl) (l:eL ops.size 1000=af:=by rfl):TR Tryz.prog n (.seq (.region id ops draw) y) ⟨sl,mem,nx,gd⟩ Q:=
 rb (rc m u v (re A B N P l) D H k)
def aS{f}{fn}{l}{args}{r}(m:Tryz.prog.funcs[f]? =ae fn)(s:TR Tryz.prog n l ⟨dG 0 args,[],0,[]⟩ (Cv Tryz.prog fn r))(t:fn.body=ae l:=by exact JM)(u:fn.ntmps=n:=by exact JM)(b:eL args.length n=af:=by exact JM)(g:cO args=[]:=by exact JM)(k:r.al=[]:=by exact JM)(a:(fn.name != "runtime.NumGoroutine")=af:=by decide):aq Tryz.prog f args r:=Fl m t u b g k a s
end
section
variable{n:G}{sl sl':E (G×AV)}{mem bT:E (G×aC)}{nx:G}{gd gd':E (G×Bool)}{ops:Array a8}{draw:Bool}{p:Pr}{ks dA:E Ks}{i i' n0 cu:G}
variable{R:St->Prop}{os:E a8}{d:G}{ty:eh}{pos:String}{iB:Array Edge}{dN:E a8}
def rl T xs{t b:G}{a}(m:runs dE n nx draw ops.toList os i ⟨sl,mem,n0,gd⟩ .t ks=(⟨ae d,.buildSlice t b a,ty,pos,iB,none⟩::dN,i',⟨sl',bT,cu,gd'⟩,p,dA)){u}{l}(v:xl dE ⟨sl',bT,cu,gd'⟩ t b a.toList=ae (u,l,xs.flatMap<|av T))
  (x:RG r n ops draw nx (i'+1) dN ⟨(d,.c<|.S T xs)::sl',bT,cu,gd'⟩ (g5 draw dA (bH (Op.buildSlice t b a).operands.toList,[.s d])) R) (z:l.size=T.n:=by rfl) (g:Z xs=b:=by rfl) (f:eL (b*T.n) 16777216=af:=by rfl)
  (hp:p:=by exact mB) (k:dK d n=af:=by rfl):RG r n ops draw nx i os ⟨sl,mem,n0,gd⟩ ks R:=
 jJ cp m hp (alI cp T xs v z g f x k)
def ij T xs{t b:G}{a}(v:runs dE n nx draw ops.toList os i ⟨sl,mem,n0,gd⟩ .t ks=(⟨ae d,.buildSlice t b a,ty,pos,iB,none⟩::dN,i',⟨sl',bT,cu,gd'⟩,p,dA)){l}{u}(x:xl dE ⟨sl',bT,cu,gd'⟩ t b a.toList=ae (l,u,xs.flatMap<|av T))
  (z:RG r n ops draw nx (i'+1) dN ⟨(d,.c<|.X<|1000000*nx+1000*i')::sl',(1000000*nx+1000*i',.vec l T xs)::bT,cu,gd'⟩ (g5 draw dA (bH (Op.buildSlice t b a).operands.toList,[.s d,.m<|1000000*nx+1000*i'])) R) (A:u.size=T.n:=by rfl) (g:Z xs=b:=by rfl) (f:eL (b*T.n) 16777216=af:=by rfl)
  (B:p:=by exact mB) (k:dK d n=af:=by rfl):RG r n ops draw nx i os ⟨sl,mem,n0,gd⟩ ks R:=
 jJ cp v B (alJ cp T xs x A g f z k)
def vW{t:G}{x b}{a m k}{s}{T}{xs}{u}{v}(f:T.den)(z:runs dE n nx draw ops.toList os i ⟨sl,mem,n0,gd⟩ .t ks=(⟨none,.store t x b,ty,pos,iB,none⟩::dN,i',⟨sl',bT,cu,gd'⟩,p,dA))
  (A:St.ev ⟨sl',bT,cu,gd'⟩ x=ae (.c<|.Y a m k 0)) (B:L a bT=ae (.vec s T xs)) (D:St.ev ⟨sl',bT,cu,gd'⟩ b=ae u) (g:lP u=ae (av T f)) (H:k<Z xs)
  (N:RG r n ops draw nx (i'+1) dN ⟨sl',(a,.vec s T<|xs.set k f)::bT,cu,gd'⟩ (g5 draw dA (bH [x,b]++cV [a],[.m a])) R) (P:T.n=m:=by rfl) (l:pJ dE t=ae (m,v):=by rfl)
  (hp:p:=by exact mB):RG r n ops draw nx i os ⟨sl,mem,n0,gd⟩ ks R:=
 jJ cp z hp (alG cp A B D P l f g H N)
def ra{x u}{P Q}{a}{k E2:eh}{T}{xs b}{W f l}(cP:runs dE n nx draw ops.toList os i ⟨sl,mem,n0,gd⟩ .t ks=(⟨ae d,.call ⟨.builtin .append,#[x,u],#[P,Q]⟩,ty,pos,iB,none⟩::dN,i',⟨sl',bT,cu,gd'⟩,p,dA))
  (hx:St.ev ⟨sl',bT,cu,gd'⟩ x=ae (.c<|.X a)) (hl:L a bT=ae (.vec k T xs)) (hy:St.ev ⟨sl',bT,cu,gd'⟩ u=ae (.c<|.S T b)) (v:L P dE=ae W) (hk:W.kind= .sl k) (g:L Q dE=ae f) (z:f.kind= .sl E2) (A:L k dE=ae l)
  (hb:((Z xs+Z b)+(Z xs+Z b)/4+192)*l.bytes<=281474976710656) (B:(Z xs+Z b)*T.n<=140737488355328)
  (hr:RG r n ops draw nx (i'+1) dN ⟨(d,.c<|.X<|1000000*nx+1000*i')::sl',(1000000*nx+1000*i',.vec k T<|xs++b)::ud a bT,cu,gd'⟩ (g5 draw dA (bH [x,u]++cV [a],[.s d,.m<|1000000*nx+1000*i',.m a])) R) (D:l.size=T.n:=by rfl) (H:Z l.zero=T.n:=by rfl)
  (hp:p:=by exact mB) (N:dK d n=af:=by rfl):RG r n ops draw nx i os ⟨sl,mem,n0,gd⟩ ks R:=
 jJ cp cP hp (alT cp hx hl hy v hk g z A D H hb B hr N)
def ran{x k}{N P}{l W:eh}{T}{a}{Q b g}(cP:runs dE n nx draw ops.toList os i ⟨sl,mem,n0,gd⟩ .t ks=(⟨ae d,.call ⟨.builtin .append,#[x,k],#[N,P]⟩,ty,pos,iB,none⟩::dN,i',⟨sl',bT,cu,gd'⟩,p,dA))
  (hx:St.ev ⟨sl',bT,cu,gd'⟩ x=ae (.c<|.V<|.slice none 0 0)) (hy:St.ev ⟨sl',bT,cu,gd'⟩ k=ae (.c<|.S T a)) (u:L N dE=ae Q) (hk:Q.kind= .sl l) (f:L P dE=ae b) (v:b.kind= .sl W) (z:L l dE=ae g)
  (hb:(Z a+Z a/4+192)*g.bytes<=281474976710656) (A:Z a*T.n<=140737488355328)
  (hr:RG r n ops draw nx (i'+1) dN ⟨(d,.c<|.X<|1000000*nx+1000*i')::sl',(1000000*nx+1000*i',.vec l T a)::bT,cu,gd'⟩ (g5 draw dA (bH [x,k],[.s d,.m<|1000000*nx+1000*i'])) R) (B:g.size=T.n:=by rfl) (D:Z g.zero=T.n:=by rfl)
  (hp:p:=by exact mB) (H:dK d n=af:=by rfl):RG r n ops draw nx i os ⟨sl,mem,n0,gd⟩ ks R:=
 jJ cp cP hp (alU cp hx hy u hk f v z B D hb A hr H)
end
def acZ(W:cA)(H:FH)(f:eh)(T:ET)(xs:E T.den)(g:Ending)(d:cA):Prop:=
 ∃v a,g= .returned v/\gL (λb=>W.heap.size<=b) ⟨a,λ_=>v⟩ d 0 (.vec f T xs)/\cD H a/\(∀b o,b<W.heap.size->a b o=H b o)/\Sub a d/\Below W.heap.size W d
structure pS(P:bO)(f:jk)(args:List AV)(E:eh)(T:ET)(xs:List T.den):Prop where
 call:ob P f=af
 spec:∀H W vs,Sub H W->fD ⟨H,jK⟩ args vs->Calls P f vs.toArray W (acZ W H E T xs)
def ac0(P:bO)(d:Func)(f:eh)(T:ET)(xs:E T.den):ia:=λF e a W=>(∀b,¬F.own b)->bodyPost P d (acZ F.w0 F.H0 f T xs) e a W
section
variable{P:bO}{tt:TT}{n:G}{st:St}
def JN(p:cw P tt=af){D}{t id}{s}{T}{xs}(N:L t st.sl=ae (.c<|.X id))(Q:L id st.mem=ae (.vec s T xs))(x:D.results= #[.tmp t]:=by rfl):gf n .ret st (ac0 P D s T xs):=by
 intro F C g W a h d;let ⟨u,hu,f⟩:=Av (rs:=[.tmp t]) (v:= .c<|.X id) p h x (by simp[mA,qt,N]);have i:=h.cE id (.vec s T xs) (by simp[St.kn,Q]);have l:u=g.γ id:=f;refine⟨h.defers.trans C.ds,u,hu,u,g.H,J,?_,h.le,λb o K=>h.fresh b o K<|d b,h.sub,⟨h.below.os,h.below.tape,h.below.output,h.below.size,λk e=>h.below.block k e<|d k⟩⟩;rcases i with⟨z,A⟩|⟨b,B,vs,z,A,j,q,r,w,m,y⟩
 .exact .inl ⟨by rw[l];exact z,A⟩
 .refine .inr ⟨b,B,vs,by rw[l];exact z,A,j,q,r,w,?_,y⟩;rcases m with m|m
  .exact m
  .exact(d b m).elim
def JO{f}{g}{D}{args}{N}{T}{xs}(hf:P.funcs[f]? =ae g)(hb:g.body=ae D)(hN:g.ntmps=n)(i:eL args.length n=af)(B:cO args=[])(qv:(g.name != "runtime.NumGoroutine")=af)
  (l:TR P n D ⟨dG 0 args,[],0,[]⟩ (ac0 P g N T xs)):pS P f args N T xs:=by
 refine⟨yv,?_⟩
 intro H W vs p d
 refine calls_of_wp hf hb ?_
 have K:=xh d
 have i:=cQ i
 refine wp_mono (l {w0:=W,H0:=H,n:=n} ⟨J,bm _,J,J⟩ ⟨H,jK⟩ W _ ⟨?_,J,?_,?_,?_,?_,?_,p,⟨J,J,J,aN _,λ_ _ _=>rfl⟩,cD.refl _,λ_ _ _ _=>rfl,λ_ l=>aJ l<|oT _⟩)<|λe a w X=>X<|λ_ l=>l
 .simp[hN];omega
 .intro t v Q;simp only[St.kn,bS]at Q;let ⟨x,hx,he⟩:=Q;cases he;let ⟨_,u,hu,hr,_⟩:=lT args vs 0 d t v hx;have z:vs[t]? =ae u:=vr;have jw:t<Z vs:=(qn.1 z).1;have:(vs.toArray++rR (g.ntmps-vs.toArray.size) undef).getD t undef=u:=by rw[lR,ui yw];simp[z]
  rw[this];exact hr
 .intro A b e;simp[St.kn,L]at e
 .intro A o b F k e;simp[St.kn,L]at e
 .intro k x e A C;cases k with
  |m j=>simp[St.kn,L]at e
  |s t=>
   simp only[St.kn,bS]at e
   let ⟨y,q,he⟩:=e
   subst he
   let ⟨_,u,_,_,r⟩:=lT args vs 0 d t y q
   have:=r A C
   rw[B]at this
   cases this
 .intro A x e;simp[St.kn,L]at e
def aox{n l}{ops}{i}{aF:a8}(ho:ops[i]? =ae aF)(hg:aF.guard=none){d:G}(hd:aF.dst=ae d)(dn:d<n){f}{args}{kj}(bW:aF.op= .call ⟨.value<|.func f,args,kj⟩)
 {st}{vs}{bp:eh} {T:ET} {xs:E T.den} (hv:kh st args.toList=ae vs) (hm:cO vs=[]) (hf:pS P f vs bp T xs):mu P n ops i st ((st.pm l<|.vec bp T xs).put d<|.c<|.X l) l (bH args.toList,[.s d,.m l]):=by
 refine⟨args.toList.flatMap<|cH st,[(.s d,ae<|.v<|.c<|.X l),(.m l,ae<|.b<|.vec bp T xs)],?_,?_,E7 st d l _ _,eP st _,λk hk=>kK⟩
 .intro F ly Q q σ g W a K N aW S hK;have r:=(Ct aW st _ _ hv S).iN (γ:=jK) hm;have hc:=hf.spec g.H W _ aW.sub r;unfold wpOp;simp only[ho,gZ,hg,cr];refine .inl ?_;unfold Oper.wp;have U:(execOp a.eval aF).run P W= .ok (.enter f<|args.map a.eval) W:=by
   have p:=hf.call;unfold ob at p;rw[execOp,bW];cases w:P.funcs[f]? with
   |none=>rw[w]at p;simp at p
   |some fn=>
    rw[w]at p
    simp only[cG,bne_iff_ne,ne_eq]at p
    have h2:fn.body≠none:=by intro hb;rw[hb]at p;simp at p
    simp[resolve,Act.eval,yJ,invoke,callFunc,w,p.1,h2]
  rw[U];simp only[Oper.upon];have I:(args.map a.eval)=(args.toList.map a.eval).toArray:=Ar;rw[I];refine hc.mono ?_;rintro e W' ⟨v,H',rfl,L,hle,V,M,A⟩;simp only[hd];have gY:d<a.tmps.size:=nv;let B:Gh:=⟨H',λj=>if j=l then v else g.γ j⟩;have O:gw q g B:=⟨hle,λj z=>by
   have:j≠l:=λe=>N<|e▸z
   simp[B,this]⟩
  refine hK B W' _<|aW.step (chg:=λ_=>False) (g':=B) ⟨O,V,M,A.size,λk hk _=>A.block k hk,A.os,A.tape,A.output⟩ _ l N oM aW.defers ?_ (λ_ h=>h.elim) ?_ ?_ ?_ ?_
  .intro t ht;have ew:d≠t:=ua;simp[iq,lM ew]
  .intro t u ht;simp only[aE]at ht;split at ht
   .rename_i e;simp only[Key.s.injEq]at e;simp only[ar,Info.v.injEq]at ht;subst e;subst ht;simp[iq,gY,bf,c6,B]
   .split at ht
    .simp at ht
    .simp at ht
  .intro j b ht;simp only[aE,reduceCtorEq,bV]at ht;split at ht
   .rename_i e;simp only[Key.m.injEq]at e;simp only[ar,Info.b.injEq]at ht;subst e;subst ht;have hs0:=aW.below.size;rcases L with⟨D,e2⟩|⟨b,R,ws,D,e2,e3,e4,e5,e6,e7,e8⟩
    .refine⟨.inl ⟨by simpa[B]using D,e2⟩,.inr ⟨J,λk hk=>?_⟩⟩;have D:v= .slice none 0 0:=D;simp[B,D,cF]at hk
    .have D:v= .slice (ae ⟨b,0,none⟩) (Z xs) R:=D;refine⟨.inr ⟨b,R,ws,by simpa[B]using D,e2,e3,e4,e5,e6,.inl Y,e8⟩,.inr ⟨J,λk hk=>?_⟩⟩;simp[B,D,cF]at hk;exact .inl Y
   .simp at ht
  .intro k y ht;simp only[aE]at ht;split at ht
   .simp only[ar]at ht;subst ht;intro j z;simp[Info.al,AV.al,C.al]at z;exact .inr z
   .split at ht
    .simp only[ar]at ht;subst ht;intro j z;simp[Info.al,aC.al]at z
    .simp at ht
  .intro j y ht;simp only[aE,reduceCtorEq,bV]at ht;split at ht
   .rename_i e;simp only[Key.m.injEq]at e;exact .inr e.symm
   .simp at ht
 .intro kx cq;let ⟨x,_,h⟩:=iY.1 cq;exact eC st x kx h
def aoy{n}{b}{a}{g i}{d f:G}{args}{k}{B}{pos}{l}{x}{p}{mem}{t}{u}{z}{Q:St->Prop}{vs}{A}{T}{xs}
  (D:kh ⟨p,mem,t,u⟩ args.toList=ae vs) (H:pS P f vs A T xs) (N:RG P n b a g (i+1) x ⟨(d,.c<|.X<|1000000*g+1000*i)::p,(1000000*g+1000*i,.vec A T xs)::mem,t,u⟩ (g5 a z (bH args.toList,[.s d,.m<|1000000*g+1000*i])) Q) (W:cO vs=[]:=by rfl) (v:dK d n=af:=by rfl):
  RG P n b a g i (⟨ae d,.call ⟨.value<|.func f,args,k⟩,B,pos,l,none⟩::x) ⟨p,mem,t,u⟩ z Q:=
 mY (λC=>aox C J J (cQ v) J D W H) (mZ N)
end
section
variable{P:bO}{tt:TT}
def aoz(l:cw P tt=af){n f}{g}{i}{b:a8}(u:g[i]? =ae b)(z:b.guard=none){d:G}(A:b.dst=ae d)(m:d<n){a}{x}{p}(B:xq tt a b.op=ae (x,p))(D:p):mu P n g i a (a.put d x) f (bH b.op.operands.toList,[.s d]):=by refine⟨pI a b.op,[(.s d,ae<|.v x)],TL l u z A m B D f,?_,qo a d x,eP a _,λk hk=>kK⟩;intro C t;let ⟨x,_,h⟩:=iY.1 t;exact eC a x C h
def aoA{n}{b}{a}{u i}{d}{op:Op}{A}{pos}{f}{v}{g}{mem}{k}{l}{z}{Q:St->Prop}(m:cw P tt=af){x}{p}(B:xq tt ⟨g,mem,k,l⟩ op=ae (x,p))(D:p)
  (H:RG P n b a u (i+1) v ⟨(d,x)::g,mem,k,l⟩ (g5 a z (bH op.operands.toList,[.s d])) Q) (t:dK d n=af:=by rfl):
  RG P n b a u i (⟨ae d,op,A,pos,f,none⟩::v) ⟨g,mem,k,l⟩ z Q:=
 mY (λC=>aoz m C J J (cQ t) B D) (mZ H)
end
section
variable{n:G}{Q:ia}{sl sl':E (G×AV)}{mem bT:E (G×aC)}{nx:G}{gd gd':E (G×Bool)}{ops:Array a8}{draw:Bool}{p:Pr}{ks dA:E Ks}{i i' n0 cu:G}{os dN:E a8}{d:G}{ty:eh}{pos:String}{iB:Array Edge}{R:St->Prop}
def rx{op:Op}{x}{pm}(f:runs dE n nx draw ops.toList os i ⟨sl,mem,n0,gd⟩ .t ks=(⟨ae d,op,ty,pos,iB,none⟩::dN,i',⟨sl',bT,cu,gd'⟩,p,dA))(g:xq dE ⟨sl',bT,cu,gd'⟩ op=ae (x,pm))(a:pm)
  (k:RG r n ops draw nx (i'+1) dN ⟨(d,x)::sl',bT,cu,gd'⟩ (g5 draw dA (bH op.operands.toList,[.s d])) R)
  (hp:p:=by exact mB) (b:dK d n=af:=by rfl):RG r n ops draw nx i os ⟨sl,mem,n0,gd⟩ ks R:=
 jJ cp f hp (aoA cp g a k b)
def De{f}{args}{a}{vs}{g}{T}{xs}(k:runs dE n nx draw ops.toList os i ⟨sl,mem,n0,gd⟩ .t ks=(⟨ae d,.call ⟨.value<|.func f,args,a⟩,ty,pos,iB,none⟩::dN,i',⟨sl',bT,cu,gd'⟩,p,dA))(l:kh ⟨sl',bT,cu,gd'⟩ args.toList=ae vs)(u:pS r f vs g T xs)
  (v:RG r n ops draw nx (i'+1) dN ⟨(d,.c<|.X<|1000000*nx+1000*i')::sl',(1000000*nx+1000*i',.vec g T xs)::bT,cu,gd'⟩ (g5 draw dA (bH args.toList,[.s d,.m<|1000000*nx+1000*i'])) R)
  (hp:p:=by exact mB) (x:cO vs=[]:=by rfl) (b:dK d n=af:=by rfl):RG r n ops draw nx i os ⟨sl,mem,n0,gd⟩ ks R:=
 jJ cp k hp (aoy l u v x b)
end
def ac1(g:Gh)(W:cA)(i:eh)(T:ET)(k:AV)(d:E T.den)(l:Ending)(f:cA):Prop:=
 ∃v a,l= .returned v/\bf ⟨a.H,jK⟩ k v/\gL (λ_=>True) a f 0 (.vec i T d)/\a.γ 0=g.γ 0/\cD g.H a.H/\(∀b o,b<W.heap.size->¬cF (g.γ 0)=ae b->a.H b o=g.H b o)/\Sub a.H f/\EF (λb=>cF (g.γ 0)=ae b) W f
structure vX(P:bO)(f:jk)(args:List AV)(E:eh)(T:ET)(xs:List T.den)(r:AV)(a:List T.den):Prop where
 call:ob P f=af
 iN:r.al=[]
 spec:∀g W vs,Sub g.H W->fD g args vs->gL (λ_=>True) g W 0 (.vec E T xs)->Calls P f vs.toArray W (ac1 g W E T r a)
def U5(P:bO)(i:Func)(k:eh)(T:ET)(l:AV)(f:E T.den):ia:=λF e a W=>F.k0=1->bodyPost P i (λe g=>∃v d,e= .returned v/\bf ⟨d.H,jK⟩ l v/\gL F.N d g 0 (.vec k T f)/\d.γ 0=F.γ0 0/\cD F.H0 d.H/\(∀b o,b<F.w0.heap.size->¬F.own b->d.H b o=F.H0 b o)/\Sub d.H g/\EF F.own F.w0 g) e a W
section
variable{P:bO}{tt:TT}{n:G}{st:St}
def AZ(f:cw P tt=af){p}{s}{t i}{v}{T}{b}(x:mA tt st s=ae t)(k:bq t i)(l:L 0 st.mem=ae (.vec v T b))(m:p.results=s.toArray:=by rfl)(z:i.al=[]:=by rfl):gf n .ret st (U5 P p v T i b):=by intro F A g W a h B;let ⟨u,hu,d⟩:=Av f h m x;exact⟨h.defers.trans A.ds,u,hu,u,g,J,(k.1 _ _ d).iN z (cD.refl _) jK,h.cE 0 _ (by simp[St.kn,l]),(h.fB 0 Y).2,h.le,h.fresh,h.sub,h.below⟩
def ac2(d:cw P tt=af){m}{p}{s f}{t}{T}{b}(u:mA tt st p=ae s)(i:bq s f)(k:L 0 st.mem=ae (.vec t T b))(l:m.results=p.toArray:=by rfl)(v:f.al=[]:=by rfl):gf n .normal st (U5 P m t T f b):=
 λF x g W a h=>AZ d u i k l v F x g W a h
def OE:E G->Bool
 |[]=>af
 |id::a=>Nat.beq id 0&&OE a
def ac3:∀{l:E G},OE l=af->∀b∈l,b=0
 |[],_,_,a=>by cases a
 |f::g,d,b,a=>by
  simp only[OE,cG]at d;rcases b9.1 a with rfl|a
  .exact lX d.1
  .exact ac3 d.2 b a
def JP{f}{fn}{dT}{args}{D}{T}{xs p}{a7}(hf:P.funcs[f]? =ae fn)(hb:fn.body=ae dT)(hN:fn.ntmps=n)(hle:eL args.length n=af)(vY:OE (cO args)=af)(AY:a7.al=[])(qv:(fn.name != "runtime.NumGoroutine")=af)
  (cP:TR P n dT ⟨dG 0 args,[(0,.vec D T xs)],1,[]⟩ (U5 P fn D T a7 p)):vX P f args D T xs a7 p:=by
 refine⟨yv,AY,?_⟩
 intro g W vs q l w
 refine calls_of_wp hf hb ?_
 have M:=xh l
 have hle:=cQ hle
 have d:∀i b,St.kn ⟨dG 0 args,[(0,.vec D T xs)],1,[]⟩ (.m i)=ae (.b b)->i=0/\b= .vec D T xs:=by
  intro i b e;simp only[St.kn,L,bS]at e;let ⟨x,hx,he⟩:=e;cases he;split at hx
  .rename_i S;cases hx;exact⟨S.symm,J⟩
  .cases hx
 let F:dB:={w0:=W,H0:=g.H,n:=n,own:=λb=>cF (g.γ 0)=ae b,k0:=1,γ0:=g.γ}
 refine wp_mono (cP F ⟨J,aN _,J,J⟩ g W _ ⟨?_,J,?_,?_,?_,?_,?_,q,⟨J,J,J,aN _,λ_ _ _=>rfl⟩,cD.refl _,λ_ _ _ _=>rfl,?_⟩) ?_
 .simp[hN,F];omega
 .intro t v O;simp only[St.kn,bS]at O;let ⟨x,hx,he⟩:=O;cases he;let ⟨_,u,hu,hr,_⟩:=lT args vs 0 l t v hx;have G:vs[t]? =ae u:=vr;have jw:t<Z vs:=(qn.1 G).1;have:(vs.toArray++rR (fn.ntmps-vs.toArray.size) undef).getD t undef=u:=by rw[lR,ui yw];simp[G]
  rw[this];exact hr
 .intro i b e;obtain⟨rfl,rfl⟩:=d i b e;exact w.AF (λk U=> .inr U) J J ⟨cD.refl _,λ_ _=>rfl⟩
 .intro i I b V k e Y _ _;rw[(d i b e).1,(d I V Y).1]
 .intro k x e i z;cases k with
  |m j=>
   cases x with
   |v y=>simp only[St.kn,bS]at e;let ⟨_,_,he⟩:=e;cases he
   |b b=>obtain⟨_,rfl⟩:=d j b e;simp[Info.al,aC.al]at z
  |s t=>
   simp only[St.kn,bS]at e
   let ⟨y,hy,he⟩:=e
   subst he
   let ⟨_,u,_,_,h6⟩:=lT args vs 0 l t y hy
   have:=ac3 vY i<|h6 i z
   subst this
   show 0<1000000*1
   decide
 .intro i x e;cases x with
  |v y=>simp only[St.kn,bS]at e;let ⟨_,_,he⟩:=e;cases he
  |b b=>rw[(d i b e).1];show 0<1000000*1;decide
 .intro i z;have:i=0:=by have:i<1:=z;omega
  subst this;exact⟨(o:0<1000000*1),J⟩
 .intro e a X B;have B:=B J;have A:∀e X,(∃v C,e=Ending.returned v/\bf ⟨C.H,jK⟩ a7 v/\gL F.N C X 0 (.vec D T p)/\C.γ 0=F.γ0 0/\cD F.H0 C.H/\(∀b R,b<F.w0.heap.size->¬F.own b->C.H b R=F.H0 b R)/\Sub C.H X/\EF F.own F.w0 X)->ac1 g W D T a7 p e X:=by rintro e X ⟨v,C,K,h2,Q,h4⟩;exact⟨v,C,K,h2,Q.AF (λ_ _=>trivial) J J ⟨cD.refl _,λ_ _=>rfl⟩,h4⟩
  cases e with
  |normal=>let ⟨K,v,h2,Q⟩:=B;exact⟨K,v,h2,A _ _ Q⟩
  |ret=>let ⟨K,v,h2,Q⟩:=B;exact⟨K,v,h2,A _ _ Q⟩
  |panic dT=>let ⟨K,Q⟩:=B;exact⟨K,A _ _ Q⟩
  |outgrown=>exact A _ _ B
  |exit _=>exact B
  |goto _=>exact B
def Gu(b:G):C->C
 | .P _ a=> .P b a
 | .X _=> .X b
 | .Y _ n i a=> .Y b n i a
 | .L _ a l d=> .L b a l d
 | .W _ a l=> .W b a l
 |d=>d
def JQ(b:G):AV->AV
 | .c x=> .c<|Gu b x
 | .a cs=> .a<|cs.map<|Gu b
 | .t d=> .t<|d.map λs=>(s.1,s.2.map<|Gu b)
def U6{g:Gh}{b:G}:∀{d:C}{v:aT},c6 g (Gu b d) v->c6 ⟨g.H,λ_=>g.γ b⟩ d v
 | .any,_,a=>a
 | .B _,_,a=>a
 | .I _ _,_,a=>a
 | .V _,_,a=>a
 | .S _ _,_,a=>a
 | .P _ _,_,a=>a
 | .X _,_,a=>a
 | .Y _ _ _ _,_,a=>a
 | .E _ _ _,_,a=>a
 | .M _,_,a=>a
 | .L _ _ _ (ae _),_,a=>a
 | .L _ _ _ none,_,a=>a
 | .W _ _ _,_,a=>a
def U7{g:Gh}{b:G}:∀{d:E C}{vs:E aT},a4 g (d.map<|Gu b) vs->a4 ⟨g.H,λ_=>g.γ b⟩ d vs
 |[],_,a=>a
 |_::_,_,a=>by let ⟨v,f,i,k,h2⟩:=a;exact⟨v,f,i,U6 k,U7 h2⟩
def ac4{g:Gh}{k:G}:∀{l:E (Bool×E C)}{vs:E aT},dy g (l.map λs=>(s.1,s.2.map<|Gu k)) vs->dy ⟨g.H,λ_=>g.γ k⟩ l vs
 |[],_,d=>d
 | (b,f)::_,_,d=>by
  let ⟨v,m,i,a,h2⟩:=d;refine⟨v,m,i,?_,ac4 h2⟩;match b,f,a with
  |true,f,a=>let ⟨vs,i,d⟩:=a;exact⟨vs,i,U7 d⟩
  |false,[f],a=>exact U6 a
  |false,[],a=>exact a.elim
  |false,_::_::_,a=>exact a.elim
def aoB{g}{d}{x}{v}(b:bf g (JQ d x) v):bf ⟨g.H,λ_=>g.γ d⟩ x v:=by
 cases x with
 |c y=>exact U6 b
 |a cs=>let ⟨vs,e,b⟩:=b;exact⟨vs,e,U7 b⟩
 |t f=>let ⟨vs,e,b⟩:=b;exact⟨vs,e,ac4 b⟩
def ac5{g:Gh}{b:G}:∀{xs:E AV}{vs:E aT},fD g (xs.map<|JQ b) vs->fD ⟨g.H,λ_=>g.γ b⟩ xs vs
 |[],_,a=>a
 |_::_,_,a=>by let ⟨v,d,f,i,h2⟩:=a;exact⟨v,d,f,aoB i,ac5 h2⟩
def aoC{n new}{ops}{i}{D:a8}(ho:ops[i]? =ae D)(hg:D.guard=none){d:G}(hd:D.dst=ae d)(dn:d<n){f}{args}{kj}(bW:D.op= .call ⟨.value<|.func f,args,kj⟩)
 {st}{vs}{l:G} {bp:eh} {T:ET} {xs Nv:E T.den} {a7:AV} (hv:kh st args.toList=ae (vs.map<|JQ l)) (hl:L l st.mem=ae (.vec bp T xs)) (hf:vX P f vs bp T xs a7 Nv):mu P n ops i st ((st.pm l<|.vec bp T Nv).put d a7) new (bH args.toList++cV [l],[.s d,.m l]):=by
 refine⟨args.toList.flatMap (cH st)++fK st [l],[(.s d,ae<|.v a7),(.m l,ae<|.b<|.vec bp T Nv)],?_,?_,E7 st d l _ _,?_,λk hk=>kK⟩
 .intro F ly Q S σ g W a K yh aW fS hK;have U:=Ct aW st _ _ hv<|λkx B=>fS kx<|eH _ B;have N:σ (.m l)=ae (.b<|.vec bp T xs):=fS (.m l,.b<|.vec bp T xs) rB;have X:=aW.cE l _ N;have V:gL (λ_=>True) ⟨g.H,λ_=>g.γ l⟩ W 0 (.vec bp T xs):=by
   rcases X with⟨O,e2⟩|⟨b,cap,ws,O,e2,e3,e4,e5,e6,e7,e8⟩
   .exact .inl ⟨O,e2⟩
   .exact .inr ⟨b,cap,ws,O,e2,e3,e4,e5,e6,M,e8⟩
  have hc:=hf.spec ⟨g.H,λ_=>g.γ l⟩ W _ aW.sub (ac5 U) V;unfold wpOp;simp only[ho,gZ,hg,cr];refine .inl ?_;unfold Oper.wp;have hex:(execOp a.eval D).run P W= .ok (.enter f<|args.map a.eval) W:=by
   have A:=hf.call;unfold ob at A;rw[execOp,bW];cases Y:P.funcs[f]? with
   |none=>rw[Y]at A;simp at A
   |some fn=>
    rw[Y]at A
    simp only[cG,bne_iff_ne,ne_eq]at A
    have h2:fn.body≠none:=by intro hb;rw[hb]at A;simp at A
    simp[resolve,Act.eval,yJ,invoke,callFunc,Y,A.1,h2]
  rw[hex];simp only[Oper.upon];have aoD:(args.map a.eval)=(args.toList.map a.eval).toArray:=Ar;rw[aoD];refine hc.mono ?_;rintro e W' ⟨v,g',rfl,UY,c,p,hle,xi,vG,q⟩;simp only[hd];have gY:d<a.tmps.size:=nv;let g2:Gh:=⟨g'.H,g.γ⟩;have Fz:gw S g g2:=⟨hle,λ_ _=>rfl⟩;have p:g'.γ 0=g.γ l:=p;have aoE:∀b D,b<W.heap.size->g2.H b D=g.H b D:=by
   intro b D hb;by_cases C:cF (g.γ l)=ae b
   .rcases X with⟨O,_⟩|⟨b1,cap,ws,O,e2,e3,e4,e5,e6,e7,e8⟩
    .rw[O]at C;simp[cF]at C
    .rcases c with⟨z,_⟩|⟨b2,R,ws',z,I,e3',MZ,e5',e6',e7',Z⟩
     .rw[p,O]at z;simp at z
     .have h1:b1=b:=by rw[O]at C;simpa[cF]using C
      have h2:b2=b:=by rw[<-p,z]at C;simpa[cF]using C
      subst h1;rw[e8 D];subst h2;exact Z D
   .exact xi b D hb C
  refine hK g2 W' _<|aW.step (chg:=λj=>j=l) (g':=g2) ⟨Fz,aoE,vG,q.size,?_,q.os,q.tape,q.output⟩ _ new yh oM aW.defers ?_ ?_ ?_ ?_ ?_ ?_
  .intro k hk ew;exact q.block k hk<|ew l J
  .intro t ht;have ew:d≠t:=ua;simp[iq,lM ew]
  .intro j hj;subst hj;exact⟨yp,_,N⟩
  .intro t u ht;simp only[aE]at ht;split at ht
   .rename_i e;simp only[Key.s.injEq]at e;simp only[ar,Info.v.injEq]at ht;subst e;subst ht;have:=UY.iN hf.iN (cD.refl _) g.γ;simpa[iq,gY,g2]using this
   .split at ht
    .simp at ht
    .simp at ht
  .intro j b ht;simp only[aE,reduceCtorEq,bV]at ht;split at ht
   .rename_i e;simp only[Key.m.injEq]at e;simp only[ar,Info.b.injEq]at ht;subst e;subst ht;refine⟨?_,.inl ⟨aW.dI _ _ N,_,N⟩⟩;rcases c with⟨z,I⟩|⟨b2,R,ws',z,I,e3',MZ,e5',e6',e7',Z⟩
    .exact .inl ⟨by show g.γ l=_;rw[<-p,z],I⟩
    .refine .inr ⟨b2,R,ws',by show g.γ l=_;rw[<-p,z],I,e3',MZ,e5',e6',?_,Z⟩;exact(X.block (k:=b2)<|by rw[<-p,z];rfl).1
   .simp at ht
  .intro k y ht;simp only[aE]at ht;split at ht
   .simp only[ar]at ht;subst ht;intro l w;simp only[Info.al]at w;rw[hf.iN]at w;cases w
   .split at ht
    .simp only[ar]at ht;subst ht;intro l w;simp[Info.al,aC.al]at w
    .simp at ht
  .intro j y ht;simp only[aE,reduceCtorEq,bV]at ht;split at ht
   .rename_i e;simp only[Key.m.injEq]at e;exact .inl<|e▸aW.dI _ _ N
   .simp at ht
 .intro kx B;rcases bg.1 B with B|B
  .let ⟨x,_,h⟩:=iY.1 B;exact eC st x kx h
  .exact k9 st [l] kx B
 .intro k hk;simp only[dz,fL,bg]at hk;rcases hk with h|h
  .exact eH _<|eP st _ k h
  .exact gx _<|kg st [l] k h
def aoG{n}{b}{a}{A i}{d f:G}{args}{l}{N}{pos}{p}{B}{t}{mem}{u}{v}{D}{Q:St->Prop}{vs}{g}{x}{T}{xs k}{H}
  (W:kh ⟨t,mem,u,v⟩ args.toList=ae (vs.map<|JQ g)) (hl:L g mem=ae (.vec x T xs)) (hf:vX P f vs x T xs H k) (cP:RG P n b a A (i+1) B ⟨(d,H)::t,(g,.vec x T k)::mem,u,v⟩ (g5 a D (bH args.toList++cV [g],[.s d,.m g])) Q) (z:dK d n=af:=by rfl):
  RG P n b a A i (⟨ae d,.call ⟨.value<|.func f,args,l⟩,N,pos,p,none⟩::B) ⟨t,mem,u,v⟩ D Q:=
 mY (λC=>aoC C J J (cQ z) J W hl hf) (mZ cP)
def aoH(cC:cw P tt=af){n N}{Q}{i}{aF:a8}(ho:Q[i]? =ae aF)(hg:aF.guard=none){d:G}(hd:aF.dst=ae d)(dn:d<n){t}{x A B}(bW:aF.op= .slice t x (ae A) (ae B) none)
 {st}{p}{bp}{T:ET} {xs:E T.den} {k1 k2:IntKind} {a b:V} (hx:st.ev x=ae (.c<|.X p)) (hl:L p st.mem=ae (.vec bp T xs)) (hlo:st.ev A=ae (.c<|.I k1 a)) (hhi:st.ev B=ae (.c<|.I k2 b)) (hT:T.n=1) (vK:yi tt t 1=af)
  {u v:G} (ea:a=(u:V)) (eb:b=(v:V)) (huv:u<v) (hv:v<=Z xs):mu P n Q i st (st.put d<|.c<|.W p u<|v-u) N (bH [x,A,B]++cV [p],[.s d]):=by
 refine⟨(cH st x++(cH st A++cH st B))++fK st [p],[(.s d,ae<|.v<|.c<|.W p u<|v-u)],?_,?_,qo st d _,?_,λk hk=>kK⟩
 .refine tX ho hg hd dn _ _ N ?_;intro F r σ g W H f D;have w:H.eval x=g.γ p:=dJ f st x _ hx<|λz cq=>D z eK;have y:H.eval A= .int k1 a:=dJ f st A _ hlo<|λz cq=>D z eK;have M:H.eval B= .int k2 b:=dJ f st B _ hhi<|λz cq=>D z eK;have O:=sH f st x _ hx<|λz cq=>D z eK;have R:σ (.m p)=ae (.b<|.vec bp T xs):=D (.m p,.b<|.vec bp T xs) rB;let ⟨e,i',S,U,hs⟩:=ES cC vK;rcases f.cE p _ R with⟨_,h0⟩|⟨bb,l,vs,q,_,_,xa,_⟩
  .subst h0;simp at hv;omega
  .refine⟨λj hj=>O j SK,.slice (ae ⟨bb,u,none⟩) (v-u) (l-u),?_,bb,l-u,by rw[q];rfl,J,Y⟩;have K:execOp H.eval aF=(do pure (.value<|<-Instr.sliceAt t (H.eval x) ((ae A).map H.eval) ((ae B).map H.eval) (none.map H.eval))):=w8;have JR:(yk af (Z xs) l (ae<|.int k1 a) (ae<|.int k2 b) none).run P W= .ok (u,v,l) W:=by have c1:v<=l:=Y;have c2:u<=v:=Y;subst ea eb;simp[yk,Instr.sliceBound,asIntOf,c1,c2,Sem.run,pure]
   have ew:¬l=u:=Y;rw[K];simp only[xg,Option.map_none,w,y,M,q,Instr.sliceAt,Sem.run_bind,run_underlying S,Result.andThen,Instr.slice,JR,run_sizeOf U,hs];simp[ew,mW,Sem.run,pure]
 .intro z cq;rcases bg.1 cq with h|h
  .rcases bg.1 h with h|h
   .exact eC _ x z h
   .rcases bg.1 h with h|h
    .exact eC _ A z h
    .exact eC _ B z h
  .exact k9 _ [p] z h
 .intro k hk;simp only[dz,fL,bg]at hk;rcases hk with(h|h|h)|h
  .exact eH _<|eP st [x,A,B] k uf
  .exact eH _<|eP st [x,A,B] k xc
  .exact eH _ (eP st [x,A,B] k (by simp only[dz,lQ,fL,bg];exact .inr<|.inr<|.inl h))
  .exact gx _<|kg st [p] k h
def ada{g:Gh}(T:ET):∀(xs:E T.den)(vs:E aT),a4 g (xs.flatMap<|av T) vs->Z vs=Z xs*T.n/\∀i(d:i<Z xs),de g.H T xs[i] ((az (i*T.n) vs).take T.n)
 |[],vs,d=>by have d:vs=[]:=d;subst d;exact⟨ax,λi d=>by simp at d⟩
 |x::xs,vs,d=>by
  rw[lQ]at d;obtain⟨a,b,rfl,l,m⟩:=H5 d;have k:=B7 T x a l;have f:=de.length T _ _ k;let ⟨hl,hc⟩:=ada T xs b m;refine⟨by simp[f,hl,fZ];omega,λi p=>?_⟩;cases i with
  |zero=>
   simp only[pM,qx,w6]
   rw[<-f,List.take_left']
   .exact k
   .rfl
  |succ i=>
   simp only[Ci]
   have:=hc i (by simpa using p)
   rw[show(i+1)*T.n=Z a+i*T.n by rw[fZ,f];omega,<-rF,List.drop_left']
   .exact this
   .rfl
def aoJ(cC:cw P tt=af){n new}{ops}{i}{aF:a8}(ho:ops[i]? =ae aF)(hg:aF.guard=none){d:G}(hd:aF.dst=ae d)(dn:d<n){x p}{t1 t2}(bW:aF.op= .call ⟨.builtin .copy,#[x,p],#[t1,t2]⟩)
 {st}{l}{N E1:eh} {T}{xs f:E T.den} {ei:TI} (hx:st.ev x=ae (.c<|.X l)) (hl:L l st.mem=ae (.vec N T xs)) (hy:st.ev p=ae (.c<|.S T f)) (hT:AH tt t1 t2=ae (E1,ei)) (tY:ei.size=T.n) (hle:Z f<=Z xs) (A:xs≠[]):
  mu P n ops i st ((st.pm l<|.vec N T<|f++az (Z f) xs).put d<|.c<|.I .i64<|Z f) new (bH [x,p]++cV [l],[.s d,.m l]):=by
 refine⟨(cH st x++cH st p)++fK st [l],[(.s d,ae<|.v<|.c<|.I .i64<|Z f),(.m l,ae<|.b<|.vec N T<|f++az (Z f) xs)],?_,?_,E7 st d l _ _,?_,λk hk=>kK⟩
 .intro F ly Q known σ g W a K R aW q hK;have hT:=Nn cC hT;rw[tY]at hT;have vE:a.eval x=g.γ l:=dJ aW st x _ hx<|λr cq=>q r eK;have vD:=dJ aW st p _ hy<|λr cq=>q r eK;have B:σ (.m l)=ae (.b<|.vec N T xs):=q (.m l,.b<|.vec N T xs) rB;let ⟨e2,jz⟩:=hT.u2;let ⟨inf,z,U,V,Fy,yA,vB⟩:=hT.info;let ⟨us,D,yE,sY,yF⟩:=CI (P:=P) (st:=st) (sz:=T.n) (y:= .c<|.S T f) (m:=Z f) (cs:=f.flatMap<|av T) (ids:=[]) aW (by simp[vI]) vD (λl bc=>yj) jz<|nw.2<|aap f;let ⟨w,huc⟩:=ada T f us yE;rcases aW.cE l _ B with⟨_,h0⟩|⟨b,cap,vs,M,hh,vu,xa,hlen,hr,hN,hz⟩
  .exact aJ h0 A
  have Nc:Z us<=Z vs:=by rw[w,vu];exact eB _ Y
  have vK:=Al (P:=P) b us W vs 0 0 hh Y yF;simp only[jZ]at vK;have jx:(Builtin.copy_ #[t1,t2] aF.type #[a.eval x,a.eval p]).run P W= .ok (.int .i64<|Z f) (ji W b (cK vs us 0) N):=by rw[vE,M];have Tj:Nat.min (Z f) (Z xs)=Z f:=uk hle;have hc:=D.cells;simp[Builtin.copy_,run_underlying hT.u1,sizeOf,typeInfo,U,D.len,Tj,V,hc,vK,goInt,Sem.run,pure]
  have hex:(execOp a.eval aF).run P W= .ok (.value<|.int .i64<|Z f) (ji W b (cK vs us 0) N):=by refine Fw bW<|λcs=>?_;have e:(#[x,p]:Array Operand).map a.eval= #[a.eval x,a.eval p]:=ax;rw[e];simp only[Go.builtin,Sem.run_bind,jx,Result.andThen];rfl
  unfold wpOp;simp only[ho,gZ,hg,cr];refine .inl ?_;unfold Oper.wp;rw[hex];simp only[Oper.upon,hd];have gY:d<a.tmps.size:=nv;have hb:b<W.heap.size:=(fJ.1 hh).1;have O:Z (f++az (Z f) xs)=Z xs:=b6;refine hK g _ _<|aW.step (chg:=λj=>j=l) (g':=g) ⟨⟨cD.refl _,λ_ _=>rfl⟩,λ_ _ _=>rfl,Am aW.sub hz,An,?_,J,J,J⟩ _ new R oM aW.defers ?_ ?_ ?_ ?_ ?_ ?_
  .intro k' uc A;have:b≠k':=λe=>A l J (by rw[M,e];rfl)
   exact ym this
  .intro t ht;have A:d≠t:=ua;simp[iq,lM A]
  .intro j H;subst H;exact⟨yp,_,B⟩
  .intro t u ht;simp only[aE]at ht;split at ht
   .rename_i e;simp only[Key.s.injEq]at e;simp only[ar,Info.v.injEq]at ht;subst e;subst ht;simp[iq,gY,bf,c6]
   .split at ht
    .simp at ht
    .simp at ht
  .intro j bk H;simp only[aE,reduceCtorEq,bV]at H;split at H
   .rename_i e';simp only[Key.m.injEq]at e';subst e';simp only[ar,Info.b.injEq]at H;subst H;refine⟨.inr ⟨b,cap,cK vs us 0,by rw[O];exact M,EW hb,?_,by rw[O];exact xa,by rw[O];exact hlen,λj H=>?_,hN,hz⟩,.inl ⟨aW.dI _ _ B,_,B⟩⟩
    .rw[yn _ _ _ Y];exact vu
    .have sL:cK vs us 0=us++az (Z us) vs:=by simp[cK]
     rw[sL];by_cases wY:j<Z f
     .rw[rz wY];have h1:=huc j wY;have h2:j*T.n+T.n<=Z us:=by rw[w,(Ii:j*T.n+T.n=(j+1)*T.n)];exact eB _ Y
      rw[Cj Y,yo b6];exact h1
     .have IV:j<Z xs:=by omega
      rw[IB Y,vk];have h1:=hr j IV;have e1:Z f+(j-Z f)=j:=Y;have h3:Z us<=j*T.n:=by rw[w];exact eB _ Y
      have e2:az (j*T.n) (us++az (Z us) vs)=az (j*T.n) vs:=by rw[List.drop_append,vo h3,tZ,rF,(Y:Z us+(j*T.n-Z us)=j*T.n)]
      rw[e2];simp only[e1];exact h1
   .simp at H
  .intro k p ht;simp only[aE]at ht;split at ht
   .simp only[ar]at ht;subst ht;intro l bc;simp[Info.al,AV.al,C.al]at bc
   .split at ht
    .simp only[ar]at ht;subst ht;intro l bc;simp[Info.al,aC.al]at bc
    .simp at ht
  .intro j p ht;simp only[aE,reduceCtorEq,bV]at ht;split at ht
   .rename_i e;simp only[Key.m.injEq]at e;exact .inl<|e▸aW.dI _ _ B
   .simp at ht
 .intro r cq;rcases bg.1 cq with h|h
  .rcases bg.1 h with h|h
   .exact eC _ x r h
   .exact eC _ p r h
  .exact k9 _ [l] r h
 .intro k hk;simp only[dz,fL,bg]at hk;rcases hk with(h|h)|h
  .exact eH _<|eP st [x,p] k uf
  .exact eH _<|eP st [x,p] k xc
  .exact gx _<|kg st [l] k h
end
section
variable{n:G}{sl sl':E (G×AV)}{mem bT:E (G×aC)}{nx:G}{gd gd':E (G×Bool)}{ops:Array a8}{draw:Bool}{p:Pr}{ks dA:E Ks}{i i' n0 cu:G}{os dN:E a8}{d:G}{ty:eh}{pos:String}{iB:Array Edge}{R:St->Prop}
def A0 id{f}{args}{b}{vs}{g}{T}{xs a}{l}(u:runs dE n nx draw ops.toList os i ⟨sl,mem,n0,gd⟩ .t ks=(⟨ae d,.call ⟨.value<|.func f,args,b⟩,ty,pos,iB,none⟩::dN,i',⟨sl',bT,cu,gd'⟩,p,dA))(v:vX r f vs g T xs l a)(x:kh ⟨sl',bT,cu,gd'⟩ args.toList=ae (vs.map<|JQ id))(z:L id bT=ae (.vec g T xs))
  (A:RG r n ops draw nx (i'+1) dN ⟨(d,l)::sl',(id,.vec g T a)::bT,cu,gd'⟩ (g5 draw dA (bH args.toList++cV [id],[.s d,.m id])) R)
  (hp:p:=by exact mB) (k:dK d n=af:=by rfl):RG r n ops draw nx i os ⟨sl,mem,n0,gd⟩ ks R:=
 jJ cp u hp (aoG x z v A k)
def rw_(u v:G){t}{x g k}{f}{D}{T}{xs}{H N}{a b}(P:runs dE n nx draw ops.toList os i ⟨sl,mem,n0,gd⟩ .t ks=(⟨ae d,.slice t x (ae g) (ae k) none,ty,pos,iB,none⟩::dN,i',⟨sl',bT,cu,gd'⟩,p,dA))
  (Q:St.ev ⟨sl',bT,cu,gd'⟩ x=ae (.c<|.X f)) (hl:L f bT=ae (.vec D T xs)) (l:St.ev ⟨sl',bT,cu,gd'⟩ g=ae (.c<|.I H a)) (m:St.ev ⟨sl',bT,cu,gd'⟩ k=ae (.c<|.I N b)) (ea:a=(u:V)) (eb:b=(v:V)) (z:u<v) (hv:v<=Z xs)
  (hk:RG r n ops draw nx (i'+1) dN ⟨(d,.c<|.W f u<|v-u)::sl',bT,cu,gd'⟩ (g5 draw dA (bH [x,g,k]++cV [f],[.s d])) R) (hT:T.n=1:=by rfl) (A:yi dE t 1=af:=by rfl)
  (hp:p:=by exact mB) (B:dK d n=af:=by rfl):RG r n ops draw nx i os ⟨sl,mem,n0,gd⟩ ks R:=
 jJ cp P hp (mY (λC=>aoH cp C J J (cQ B) J Q hl l m hT A ea eb z hv)<|mZ hk)
def OF{x f}{v z}{a}{A D:eh}{T}{xs b}{B}(H:runs dE n nx draw ops.toList os i ⟨sl,mem,n0,gd⟩ .t ks=(⟨ae d,.call ⟨.builtin .copy,#[x,f],#[v,z]⟩,ty,pos,iB,none⟩::dN,i',⟨sl',bT,cu,gd'⟩,p,dA))
  (N:St.ev ⟨sl',bT,cu,gd'⟩ x=ae (.c<|.X a)) (P:L a bT=ae (.vec A T xs)) (Q:St.ev ⟨sl',bT,cu,gd'⟩ f=ae (.c<|.S T b)) (W:AH dE v z=ae (D,B)) (g:Z b<=Z xs) (k:xs≠[])
  (hk:RG r n ops draw nx (i'+1) dN ⟨(d,.c<|.I .i64<|Z b)::sl',(a,.vec A T<|b++az (Z b) xs)::bT,cu,gd'⟩ (g5 draw dA (bH [x,f]++cV [a],[.s d,.m a])) R) (l:B.size=T.n:=by rfl)
  (hp:p:=by exact mB) (u:dK d n=af:=by rfl):RG r n ops draw nx i os ⟨sl,mem,n0,gd⟩ ks R:=
 jJ cp H hp (mY (λC=>aoJ cp C J J (cQ u) J N P Q W l g k)<|mZ hk)
end
section
variable{P:bO}{tt:TT}
def aoL{d}{m}{st}{Q:St->Prop}{F}{id}{T:Exit->Act->cA->Prop}(B:wX F.rd d)(k8:P.follows .mixedOrders=af)(cP:RG P F.n d m st.nx 0 d.toList st [] Q)
  (hQ:∀p,Q p->∀g W a,aM F (kb p) p.kn g W a->T .normal a W) {g}{W}{a}(h0:aM F (kb st) st.kn g W a):(Code.region id d m).wpIn (dC F.rd) 0 P T a W:=by
 let ⟨ds,p,hl,G,h2,L,M,O,S,U⟩:=cP ax
 have V:Z ds=d.size:=vj
 have r:∀i,i<d.size->tU P F.n d i ((I ds i ([],[])).1) ((I ds i ([],[])).2) (rv (λi=>1000000*st.nx+1000*i) i):=by intro i X;have:=G i Y;rw[xd ds _ i Y];simpa using this
 have w:∀i,i<d.size->∀N∈(I ds i ([],[])).1,fold (λi=>(I ds i ([],[])).2) st.kn (cy i) N.1=ae N.2:=by intro i X N C;rw[Ff ds st.kn i Y];rw[xd ds _ i Y]at C;exact h2 i Y N C
 have x:∀g W a,aM F (·<1000000*st.nx+1000*d.size) (fold (λi=>(I ds i ([],[])).2) st.kn<|cy d.size) g W a->T .normal a W:=by intro g W a y;refine hQ p U g W a ?_;rw[L];rw[Ff ds st.kn d.size Y,jy Y]at y;exact y.weaken (λid bc=>by simp only[kb,M];omega)
 cases m with
 |false=>exact Sn (c:=λi=>1000000*st.nx+1000*i) (λi=>MK) h0 r w x B
 |true=>
  let ⟨D,⟨qk,e⟩,H⟩:=S J
  have E:=SU H
  have s:∀i j,i<j->j<d.size->∀a b:Ks,(D[i]? =ae a->D[j]? =ae b->oR a b=af->mR d i j):=by intro i j l v a b ha hb hc;exact E.2 i j a b l v Aq vp hc
  have f:∀i(X:i<d.size),∃a,D[i]? =ae a/\(∀k∈dz (I ds i ([],[])).1,k∈a.1)/\∀k∈fR (I ds i ([],[])).2,k∈a.2:=by intro i X;have K:i<Z D:=Y;refine⟨D[i],cT K,?_⟩;rw[xd ds _ i Y];exact e i Y K
  refine So (c:=λi=>1000000*st.nx+1000*i) (λi=>MK) k8 E.1 h0 r w ?_ ?_ ?_ x B
  .intro i j l v k t u;let ⟨a,ha,_,z⟩:=f i Y;let ⟨b,hb,_,A⟩:=f j v;exact s i j l v a b ha hb (by simp only[oR,yt (z k t)<|A k u,Fg])
  .intro i j l v k t u;let ⟨a,ha,_,z⟩:=f i Y;let ⟨b,hb,o,_⟩:=f j v;exact s i j l v a b ha hb (by simp only[oR,yt (z k t)<|o k u,Fg,Fh])
  .intro i j l v k t u;let ⟨a,ha,q,_⟩:=f i Y;let ⟨b,hb,_,A⟩:=f j v;exact s i j l v a b ha hb (by simp only[oR,yt (q k t)<|A k u,Fh])
def dB.dr(a:dB)(ds:E Deferred):dB:={a with ds:=ds}
abbrev vZ:=dB->E Deferred->cA->Prop
def A1(a:vZ):Prop:=∀F b W d,KeepsOthers W d->a F b W->a F b d
variable{n:G}{Q:ia}{st:St}{O:vZ}
def iC(n:G)(d:Exit)(st:St)(O:vZ)(Q:ia):Prop:=∀F:dB,F.n=n->F.k0<=1->∀b g W a,aM (F.dr b) (kb st) st.kn g W a->O F b W->Q F d a W
def TJ(P:bO)(n:G)(b:fj)(st:St)(O:vZ)(Q:ia):Prop:=∀F:dB,F.n=n->F.k0<=1->m6 F.rd b->∀d g W a,aM (F.dr d) (kb st) st.kn g W a->O F d W->b.wpIn (dC F.rd) 0 P (Q F) a W
def Df(P:bO)(b:fj)(Q:ia):ia:=λF=>Exit.then (λa W=>m6 F.rd b->b.wpIn (dC F.rd) 0 P (Q F) a W)<|Q F
def Gv(a:G)(Q:ia):ia:=λF=>Exit.inBlock a<|Q F
def JS{d:Type}(b:d->St)(l:d->Prop)(i:d->G)(x:d)(O:vZ)(Q:ia):ia:=λF=>Exit.then (λa W=>∃f g k,l f/\i f<i x/\aM (F.dr k) (kb<|b f) (b f).kn g W a/\O F k W)<|Q F
def nK{x d}(i:TJ P n x st O (Df P d Q)):TJ P n (.seq x d) st O Q:=λF k l b m g W a p s=>by
 let ⟨t,h2⟩:=b.seq;refine wpIn_seq<|wpIn_mono (i F k l t m g W a p s) ?_;intro e u v f;cases e with
 |normal=>exact f h2
 |_=>exact f
def v3(b:iC n .normal st O Q):TJ P n .skip st O Q:=λF d f _ i g W a k l=>wpIn_skip<|b F d f i g W a k l
def U9{b}(d:iC n (.exit b) st O Q):TJ P n (.exit b) st O Q:=λF f i _ k g W a l m=>wpIn_exit<|d F f i k g W a l m
def U'(b:iC n .ret st O Q):TJ P n .ret st O Q:=λF d f _ i g W a k l=>wpIn_ret<|b F d f i g W a k l
def rW{d}{f}(i:TJ P n f st O (Gv d Q)):TJ P n (.block d f) st O Q:=λF k l b m g W a p s=>wpIn_block<|i F k l b m g W a p s
def uB{d}{x k}{b}(t:st.ev d=ae (.c<|.B b))(u:b=af->TJ P n x st O Q)(v:b=ak->TJ P n k st O Q):TJ P n (.cond d x k) st O Q:=by intro F l m f p g W a i s;let ⟨z,h2⟩:=f.cond;have A:bf g (.c<|.B b) (a.eval d):=dJ i st d _ t<|eC st d;exact wpIn_cond_split A (λe=>u e F l m z p g W a i s)<|λe=>v e F l m h2 p g W a i s
def rX(m:E (G×aC)):Bool:=m.all λe=>match e.2 with
 | .mp _ _ _=>ak
 | .it _ _ _=>ak
 |_=>af
def JT{st:St}(d:rX st.mem=af):JG st.kn:=by
 intro i y f e;simp only[St.kn,bS,Info.b.injEq]at e;obtain⟨b,g,rfl⟩:=e;have a:=nw.1 d _<|xE g;cases b with
 |mp k l xs=>cases a
 |it m n seen=>cases a
 |_=>cases f
def OG{v}{d}{b}(i:P.follows .mixedOrders=af)(x:A1 O)(l:rX st.mem=af)(z:RG P n d b st.nx 0 d.toList st [] (λf=>iC n .normal f O Q)):TJ P n (.region v d b) st O Q:=by intro F A B m p g W a t C;subst A;refine aoL (F:=(F.dr p).re W g<|1000000*st.nx) (st:=st) m.region i z (λf D H u K s=>?_)<|aM.re (k:=1000000*st.nx) t<|JT l;let ⟨N,h2,_⟩:=aM.un (k:=1000000*st.nx) (k':=1000000*f.nx) t s;exact D F J B p H u K N<|x F p W u h2 C
def JU{d}{st'}(k:Wk st st')(l:TJ P n d st' O Q):TJ P n d st O Q:=by intro F m f b i g W a p s;let ⟨t,u⟩:=k (F.dr i) f g W a p;exact l F m f b i t W a u s
def A2{b}{st'}(i:Wk st st')(k:iC n b st' O Q):iC n b st O Q:=by intro F l d f g W a m p;let ⟨s,t⟩:=i (F.dr f) d g W a m;exact k F l d f s W a t p
def m9{d}(f:TJ P n d st O Q):iC n .normal st O (Df P d Q):=λF i k l g W a m p b=>f F i k b l g W a m p
def Va{b}{a}(d:iC n (.exit a) st O Q):iC n (.exit a) st O (Df P b Q):=d
def Vb{a}(b:iC n .ret st O Q):iC n .ret st O (Df P a Q):=b
def v5{a}(b:iC n .normal st O Q):iC n .normal st O (Gv a Q):=b
def ade{a}(b:iC n .ret st O Q):iC n .ret st O (Gv a Q):=b
def Vc{b}(d:iC n .normal st O Q):iC n (.exit b) st O (Gv b Q):=λF f i k g W a l m=>by simp only[Gv,Exit.inBlock,cr];exact d F f i k g W a l m
def Vd{a:Type}{b:a->St}{f:a->Prop}{g:a->G}{x}{d}(i:iC n (.exit d) st O Q):iC n (.exit d) st O (JS b f g x O Q):=i
def aoM{a:Type}{b:a->St}{d:a->Prop}{f:a->G}{x}(g:iC n .ret st O Q):iC n .ret st O (JS b d f x O Q):=g
def Gw{f:Type}{b:f->St}{k:f->Prop}{i:f->G}{x}d(m:k d)(p:i d<i x)(s:Wk st (b d)):iC n .normal st O (JS b k i x O Q):=by intro F B t l g W a u v;let ⟨z,A⟩:=s (F.dr l) t g W a u;exact⟨d,z,l,m,p,A,v⟩
def JV{α:Type}(b:α->St)(f:α->Prop)(t:α->G) i{u}(A:f i)(B:Wk st (b i))(round:∀x,f x->TJ P n u (b x) O (JS b f t x O Q)):TJ P n (.loop u) st O Q:=by
 intro F C v k d g W a D l;let ⟨H,K⟩:=B (F.dr d) v g W a D;refine Uw (λx a W=>f x/\∃g d,aM (F.dr d) (kb<|b x) (b x).kn g W a/\O F d W) t i ⟨A,H,d,K,l⟩ ?_;rintro x a W ⟨m,g,d,hg,l⟩;refine wpIn_mono (round x m F C v k.loop d g W a hg l) ?_;intro e j o z;cases e with
 |normal=>
  let ⟨N,p,s,T,h2,X,h⟩:=z
  exact⟨N,⟨T,p,s,X,h⟩,h2⟩
 |_=>exact z
end
section
variable{F:dB}{sl sl':E (G×AV)}{M M':E (G×aC)}{nx nx':G}{gd gd':E (G×Bool)}{g g':Gh}{W W':cA}{a a':Act}{K:G->Prop}
def aM.frame{n'}{ds'}{rd'}(f:aM F K (St.kn ⟨sl,M,nx,gd⟩) g W a)(H:a'.tmps.size=n')(N:a'.defers=ds')(l:∀t v,L t sl'=ae v->bf g v (a'.tmps.getD t undef)/\∀d∈v.al,K d)(P:∀d b,L d M'=ae b->L d M=ae b):
  aM {F with n:=n',ds:=ds',rd:=rd'} K (St.kn ⟨sl',M',nx',gd'⟩) g W a':=by
 have p:∀d x,(St.kn ⟨sl',M',nx',gd'⟩) (.m d)=ae x->(St.kn ⟨sl,M,nx,gd⟩) (.m d)=ae x:=by intro d x i;simp only[St.kn,bS]at i⊢;let ⟨b,z,e⟩:=i;exact⟨b,P d b z,e⟩
 refine⟨H,N,λt v D=>?_,λd b z=>f.cE d b<|p _ _ z,λd A b Q k T X c o=>f.inj d A b Q k (p _ _ T) (p _ _ X) c o,λB x i d u=>?_,λd x i=>f.dI d x<|p _ _ i,f.sub,f.below,f.le,f.fresh,f.fB⟩
 .simp only[St.kn,bS]at D;let ⟨y,C,e⟩:=D;cases e;exact(l t v C).1
 .cases B with
  |m j=>exact f.al (.m j) x (p _ _ i) d u
  |s j=>
   simp only[St.kn,bS]at i
   let ⟨y,C,e⟩:=i
   subst e
   exact(l j y C).2 d u
def aM.re1{k}{d}(l:aM F (·<k) d g W a)(n:1<=k)(f:JG d):aM (F.re W g 1) (·<k) d g W a:=by have b:=l.re f;exact⟨b.size,b.defers,b.dH,b.cE,b.inj,b.al,b.dI,b.sub,b.below,b.le,b.fresh,λm i=>⟨by have:m<1:=i;omega,J⟩⟩
def aM.un1{k k'}{D u}(f:aM F (·<k) D g W a)(H:F.k0<=1)(d:aM (F.re W g 1) (·<k') u g' W' a'):
  aM F (·<k') u g' W' a'/\KeepsOthers W W'/\gw (·<1) g g':=by
 refine⟨⟨d.size,d.defers,d.dH,λm b z=>(d.cE m b z).Oe ?_ ?_,d.inj,d.al,d.dI,d.sub,?_,f.le.trans d.le,?_,?_⟩,?_,d.le,λm n=>(d.fB m n).2⟩
 .intro x vs E p C i;rcases i with i|i
  .exact .inl<|bZ f.below.size i
  .exact i.1
 .intro x _ i;rcases i with i|i
  .exact .inl<|bZ f.below.size i
  .exact i.1
 .refine⟨d.below.os.trans f.below.os,d.below.tape.trans f.below.tape,d.below.output.trans f.below.output,bZ f.below.size d.below.size,λj t l=>?_⟩;rw[<-f.below.block j t l];refine d.below.block j (fY t f.below.size)<|λv=>?_;rcases v.1 with s|s
  .omega
  .exact l s
 .intro b o z l;rw[<-f.fresh b o z l];refine d.fresh b o (fY z f.below.size)<|λv=>?_;rcases v.1 with s|s
  .omega
  .exact l s
 .intro m n;have s:=f.fB m n;have A:=d.fB m (Y:m<1);exact⟨A.1,A.2.trans s.2⟩
 .refine⟨d.below.size,λj o t B=>?_⟩;rw[<-t];refine d.below.block j (fJ.1 t).1<|λv=>?_;rw[v.2 o t]at B;cases B
def nL(b:E aT):aT:= .func (.func 0) #[] b.toArray
def aM.ghost{k}(p:aM F (·<k) (St.kn ⟨sl,M,nx,gd⟩) g W a)(hk:1<=k)(og:F.k0=0)(hz:∀t v,L t sl=ae v->0∉v.al)(T:∀d b,L d M=ae b->d≠0/\0∉b.al){f}{B}(hr:dy g f B)(hc:∀d∈dX f,d≠0/\d<k):
  aM {F with k0:=1,γ0:=λ_=>nL B} (·<k) (St.kn ⟨sl,(0,.dS 0 [] f)::M,nx',gd'⟩) (g.new 0<|nL B) W a:=by
 have C:gw (λd=>d≠0) g (g.new 0<|nL B):=⟨cD.refl _,λd i=>by simp[Gh.new,i]⟩
 have r:Ext (λd=>d≠0) (λ_=>False) g W (g.new 0<|nL B) W:=⟨C,λ_ _ _=>rfl,p.sub,aN _,λ_ _ _=>rfl,J,J,J⟩
 have z:(g.new 0<|nL B).γ 0=nL B:=by simp[Gh.new]
 have Q:∀d b,(St.kn ⟨sl,(0,.dS 0 [] f)::M,nx',gd'⟩) (.m d)=ae (.b b)->(d=0/\b= .dS 0 [] f)\/(d≠0/\L d M=ae b):=by
  intro d b H;simp only[St.kn,L,bS]at H;let ⟨y,N,e⟩:=H;cases e;split at N
  .rename_i e;cases N;exact .inl ⟨e.symm,J⟩
  .rename_i e;exact .inr ⟨λp=>e p.symm,N⟩
 have A:∀d b,L d M=ae b->(St.kn ⟨sl,M,nx,gd⟩) (.m d)=ae (.b b):=λd b H=>by simp[St.kn,H]
 refine⟨p.size,p.defers,λt v o=>?_,λd b H=>?_,λd P b q X w E G I=>?_,λc x u d i=>?_,λd x u=>?_,p.sub,p.below,p.le,p.fresh,λd i=>?_⟩
 .simp only[St.kn,bS]at o;let ⟨y,N,e⟩:=o;cases e;exact bf.mono C (λd i e=>hz t v N<|e▸i) (p.dH t v<|by simp[St.kn,N])
 .rcases Q d b H with⟨rfl,rfl⟩|⟨l,n⟩
  .exact⟨[],B,z,J,dy.mono C (λd i=>(hc d i).1) hr⟩
  .exact(p.cE d b<|A d b n).step r l (λj O e=>(T d b n).2<|e▸O)<|λ_ _ R _=>R.elim
 .have l:∀d b,(St.kn ⟨sl,(0,.dS 0 [] f)::M,nx',gd'⟩) (.m d)=ae (.b b)->cF ((g.new 0<|nL B).γ d)=ae X->L d M=ae b/\cF (g.γ d)=ae X:=by
   intro d b H D;rcases Q d b H with⟨rfl,rfl⟩|⟨l,n⟩
   .rw[z]at D;simp[nL,cF]at D
   .rw[C.γ d l]at D;exact⟨n,D⟩
  let ⟨p1,S⟩:=l d b w G;let ⟨q1,U⟩:=l P q E I;exact p.inj d P b q X (A _ _ p1) (A _ _ q1) S U
 .cases c with
  |s j=>
   exact p.al (.s j) x u d i
  |m j=>
   cases x with
   |v _=>simp[St.kn]at u
   |b y=>
    rcases Q j y u with⟨rfl,rfl⟩|⟨l,n⟩
    .have:d∈dX f:=by simpa[Info.al,aC.al,dX]using i
     exact(hc d this).2
    .exact p.al (.m j) (.b y) (A j y n) d i
 .cases x with
  |v _=>simp[St.kn]at u
  |b y=>
   rcases Q d y u with⟨rfl,rfl⟩|⟨l,n⟩
   .exact hk
   .exact p.dI d (.b y)<|A d y n
 .have:d=0:=by have:d<1:=i;omega
  subst this;exact⟨hk,z⟩
def aM.OH{k}{i}(l:aM F (·<k) i g W a){d}(s:F.k0=1)(f:F.γ0 0=nL d){caps}(n:i (.m 0)=ae (.b<|.dS 0 [] caps)):dy g caps d:=by
 let ⟨us,vs,e,_,h2⟩:=l.cE 0 _ n;have p:=(l.fB 0 Y).2;rw[p,f]at e;simp only[nL,Value.func.injEq]at e;have:d=vs:=by have:=e.2.2;simpa using this
 rw[this];exact h2
end
section
variable{P:bO}{tt:TT}
inductive SG(P:bO)(n:G)(a:Array a8)(nx:G):G->St->G->St->Prop
 |nil {i:G} {st b:St} (h:b.kn=st.kn):SG P n a nx i st i b
 |cons {i g:G} {st d f:St} {k:Ks} (h:mu P n a i st d (1000000*nx+1000*i) k) (t:SG P n a nx (i+1) d g f):SG P n a nx i st g f
def SG.le{n}{a}{f i d}{g b}(k:SG P n a f i g d b):i<=d:=by
 induction k with
 |nil _=>exact aN _
 |cons _ _ l=>omega
def SG.sound{n}{d}{s i m}{x f}(p:SG P n d s i x m f):∀(b:dB),b.n=n->wX b.rd d->∀(Q:Exit->Act->cA->Prop)(rest:E G) g W a,aM b (·<1000000*s+1000*i) x.kn g W a->
  (∀z u v,aM b (·<1000000*s+1000*m) f.kn z u v->wpOpsIn (dC b.rd) 0 P d Q rest v u)->wpOpsIn (dC b.rd) 0 P d Q (JI i (m-i)++rest) a W:=by
 induction p with
 |nil p=>
  intro b A k Q rest g W a B C
  rw[jA]
  exact C g W a (by rw[p];exact B)
 |@cons i m x T f e p t X=>
  intro b A k Q rest g W a B C
  have c:=t.le
  let ⟨rd,wr,D,H,K,_,_⟩:=p
  rw[(Y:m-i=(m-(i+1))+1),EH,lO,wpOpsIn_cons]
  refine Me (k i) ?_
  refine D b A _ (·<1000000*s+1000*i) _ g W a _ (Gi _) B H<|λz u v N=>?_
  rw[<-K]at N
  exact X b A k Q rest z u v (N.weaken<|λo l=>by rcases l with l|l<;>omega) C
def adh{n A:G}{b:Array a8}(m:cw P tt=af):∀(s:E a8)(i:G)(t:St)(p:Pr)(u:E Ks){f:E a8}{v j:G}{d st2:St}{x:Pr}{g:E Ks},runs tt n A ak b.toList s i t p u=(f,v,d,x,g)->x->(∀l z,s[l]? =ae z->b[i+l]? =ae z)->(p->SG P n b A v d j st2->SG P n b A i t j st2)/\p
 |[],i,t,p,u,f,v,j,d,st2,x,g,a,hp,_=>by simp only[runs,bQ]at a;obtain⟨rfl,rfl,rfl,rfl,rfl⟩:=a;exact⟨λ_ a=>a,hp⟩
 |z::s,i,t,p,u,f,v,j,d,st2,x,g,a,hp,hg=>by
  rw[runs]at a;split at a
  .rename_i B l k K;let ⟨N,g2⟩:=adh m s (i+1) B (.an p l) (g5 ak u k) (j:=j) (st2:=st2) a hp (λr Q C=>by have:=hg (r+1) Q (by simpa using C);rwa[(Y:i+(r+1)=i+1+r)]at this);have H:p.h/\l.h:=by have:(Pr.an p l).h:=g2;cases p<;>cases l<;>simp_all[Pr.an,Pr.h]
   refine⟨λ_ D=> .cons (ZS m (hg 0 z J) K H.2)<|N g2 D,H.1⟩
  .simp only[bQ]at a;obtain⟨rfl,rfl,rfl,rfl,rfl⟩:=a;exact⟨λ_ a=>a,hp⟩
end
structure RgD where
 n0:G
 a0:Act
 S0:E (G×AV)
 caps:E (Bool×E C)
 ws:E aT
 l:G
 D:G
 fnid:jk
 p:G
 eN:fj
 bd:fj
 ms:E G
def v7:vZ:=λ_ a _=>a=[]
def Gx:A1 v7:=λ_ _ _ _ _ h=>h
def JW(f:Bool)(d:G)(Mo:E (G×aC)):ia:=λF e a W=>e=(if f then .normal else .exit d)/\∃g b,1<=b/\aM (F.dr []) (·<1000000*b) (St.kn ⟨[],Mo,b,[]⟩) g W a
def ou(b:Bool)(a:G):Option fj:=if b then none else ae (.exit a)
section
variable{P:bO}{R:RgD}
def aM.restrict{l}{K K':G->Prop}{i}{g}{W}{a}(b:aM l K i g W a)(n:∀k x,i k=ae x->∀d∈x.al,K' d)(p:∀d x,i (.m d)=ae x->K' d)(s:∀d,d<l.k0->K' d):aM l K' i g W a:=
 ⟨b.size,b.defers,b.dH,b.cE,b.inj,n,p,b.sub,b.below,b.le,b.fresh,λd f=>⟨s d f,(b.fB d f).2⟩⟩
end
def OM:vZ:=λF a W=>F.k0=0/\F.rd=none/\∃mk:E G,a=mk.map kq/\(∀D∈mk,W.heap[D]? =ae (.deferred<|ae [])/\F.w0.heap.size<=D)/\mk.Nodup
def jc:A1 OM:=λ_ _ _ _ d ⟨f,g,mk,i,a,k⟩=>⟨f,g,mk,i,λD b=>⟨d.same _ _ (a D b).1 J,(a D b).2⟩,k⟩
def na(a:E (G×C)):E (G×AV):=a.map λs=>(s.1,.c s.2)
def rY(a:E (G×C)):E (Bool×E C):=a.map λs=>(ak,[s.2])
def OI{t:G}{v:AV}:∀{b:E (G×C)},L t (na b)=ae v->∃d,v= .c d/\L t b=ae d
 |[],a=>by simp[na,L]at a
 |s::b,a=>by
  simp only[na,gM,L]at a⊢;by_cases f:s.1=t
  .rw[q f]at a⊢;cases a;exact⟨s.2,J,J⟩
  .rw[j f]at a⊢;exact OI a
def adi{g:Gh}:∀{b d:E (Bool×E C)}{f vs:E aT},dy g b f->dy g d vs->dy g (b++d) (f++vs)
 |[],_,_,_,a,i=>by simp only[dy]at a;subst a;exact i
 |s::b,d,f,vs,a,i=>by obtain⟨v,k,rfl,l,m⟩:=a;exact⟨v,k++vs,J,l,adi m i⟩
def adk{g:Gh}{f:G->aT}:∀{a:E (G×C)},(∀s∈a,c6 g s.2 (f s.1))->dy g (rY a) (a.map λs=>f s.1)
 |[],_=>rfl
 |s::a,b=>⟨_,_,J,b s ax,adk λx hx=>b x k7⟩
def Ve{g:Gh}{f:G->aT}{i:E (Bool×E C)}{vs:E aT}:∀{a:E (G×C)},dy g (rY a++i) ((a.map λs=>f s.1)++vs)->(∀s∈a,c6 g s.2 (f s.1))/\dy g i vs
 |[],b=>⟨λs l=>(by cases l),b⟩
 |s::a,b=>by
  let ⟨v,n,k,m,h2⟩:=b;simp only[gM,lO,Ih]at k;obtain⟨rfl,rfl⟩:=k;let ⟨i1,i2⟩:=Ve h2;refine⟨λx d=>?_,i2⟩;rcases b9.1 d with rfl|d
  .exact m
  .exact i1 x d
structure oZ where
 n0:G
 a0:Act
 S0:E (G×AV)
 caps:E (Bool×E C)
 ws:E aT
 l:G
 D:G
 fnid:jk
 p:G
 q:G
 eN:fj
 bd:fj
 ms:E G
def oZ.O(a:oZ)(b:Option fj):vZ:=λF d W=>F.k0=1/\F.γ0 0=nL a.ws/\F.rd=none/\d=[]/\F.w0.heap.size<=a.l/\W.heap[a.l]? =ae (.loop<|jM a.fnid a.a0.tmps [a.p,a.q] a.eN a.bd a.D b)/\∀D∈a.ms,W.heap[D]? =ae (.deferred<|ae [])
def oZ.Vf(b:oZ) pd:A1 (b.O pd):=λ_ _ _ _ a ⟨d,f,g,i,k,l,m⟩=>⟨d,f,g,i,k,a.same _ _ l J,λD n=>a.same _ _ (m D n) J⟩
structure oZ.Ok(a:oZ):Prop where
 hp:a.p<a.n0
 hq:a.q<a.n0
 ew:a.p≠a.q
 gY:a.a0.tmps.size=a.n0
 rN:a.l∉a.ms
 yS:m5 a.eN=af
 yT:m5 a.bd=af
 cap:∀g,dy g a.caps a.ws->∀t v,L t a.S0=ae v->bf g v (a.a0.tmps.getD t undef)
 sp:L a.p a.S0=none
section
variable{P:bO}{R:oZ}
def aoO(x:R.Ok){xid}{i}{v v2}{m}{v8 Mo}{bo}(Vg:rX v8=af)(Vh:rX i.mem=af)(JX:1<=m)(OJ:1<=i.nx)
  (hA:TJ P R.n0 R.eN ⟨(R.q,v2)::(R.p,v)::R.S0,v8,m,[]⟩ v7 (λs z a W=>z= .normal/\∃g,aM (s.dr []) (kb i) i.kn g W a))
  (hB:TJ P R.n0 R.bd i v7 (JW bo xid Mo))
 {s}{k}{slI}{nxI}{gdI}{g}{W}{aI}(cP:aM s (·<k) (St.kn ⟨slI,v8,nxI,gdI⟩) g W aI) (hk:k<=1000000*m) (OK:L 0 v8=ae (.dS 0 [] R.caps)) (JY:∀t v,L t R.S0=ae v->∀N∈v.al,N<k)
 {u u2}(hv:bf g v u) (vO:v.al=[]) (yV:bf g v2 u2) (Vi:v2.al=[]) (hO:R.O none s [] W) {Rr:Ending->cA->Prop}
  (hR:∀g' W' f a',1<=f->aM {s with n:=R.n0,ds:=[],rd:=ae R.l} (·<1000000*f) (St.kn ⟨[],Mo,f,[]⟩) g' W' a'->cD g.H g'.H->KeepsOthers W W/\R.O (ou bo xid) s [] W'->Rr (.returned<|.bool bo) W'):
  RoundIn (dC none) 0 P R.l R.fnid ((R.a0.tmps.setIfInBounds R.p u).setIfInBounds R.q u2) R.eN R.bd W Rr:=by
 let ⟨I,o2,o3,o4,V,o6,o7⟩:=hO
 have X:=cP.OH I o2 (caps:=R.caps) (by simp[St.kn,OK])
 have h0:aM {s with n:=R.n0,ds:=[],rd:=ae R.l} (·<1000000*m) (St.kn ⟨(R.q,v2)::(R.p,v)::R.S0,v8,m,[]⟩) g W {tmps:=(R.a0.tmps.setIfInBounds R.p u).setIfInBounds R.q u2,defers:=[]}:=by
  refine aM.frame (cP.weaken<|λN d=>fY d hk) (by simpa using x.gY) J (λt w A=>?_)<|λN b hb=>hb;simp only[L]at A;split at A
  .rename_i z;cases A;subst z;have K:R.q<R.a0.tmps.size:=by rw[x.gY];exact x.hq
   refine⟨by simpa[K]using yV,λN d=>by rw[Vi]at d;cases d⟩
  .rename_i e2;have h3:=lM (xs:=R.a0.tmps.setIfInBounds R.p u) (a:=u2) e2;split at A
   .rename_i z;cases A;subst z;have K:R.p<R.a0.tmps.size:=by rw[x.gY];exact x.hp
    refine⟨?_,λN d=>by rw[vO]at d;cases d⟩;rw[lR,h3];simpa[K]using hv
   .rename_i z;have h1:=x.cap g X t w A;refine⟨?_,λN d=>fY (JY t w A N d) hk⟩;have:=lM (xs:=R.a0.tmps) (a:=u) z;rw[lR,h3,this,<-lR];exact h1
 refine roundIn_of_wpIn (F:=dC none) M ?_
 refine wpIn_mono (F:=dC<|ae R.l) (hA (({s with n:=R.n0,ds:=[],rd:=ae R.l}:dB).re W g 1) J (aN _) (.inr x.yS) [] g W _ (aM.re1 h0 Y<|JT (st:=⟨(R.q,v2)::(R.p,v)::R.S0,v8,m,[]⟩) Vg) J) ?_
 rintro e1 a1 W1 ⟨rfl,gB,Z⟩
 let ⟨b1,b2,b3⟩:=aM.un1 h0 (Nat.le_of_eq I) (k':=1000000*i.nx) Z
 have Q:=b2.same _ _ o6 J
 refine⟨_,run_beginRound Q J,?_⟩
 have c:R.l<W1.heap.size:=(fJ.1 Q).1
 have j:=b1.wx<|WX.putObj (.loop {jM R.fnid R.a0.tmps [R.p,R.q] R.eN R.bd R.D none with state:= .busy}) Q J V
 refine wpIn_mono (F:=dC<|ae R.l) (hB (({s with n:=R.n0,ds:=[],rd:=ae R.l}:dB).re _ gB 1) J (aN _) (.inr x.yT) [] gB _ _ (aM.re1 (k:=1000000*i.nx) j Y<|JT Vh) J) ?_
 rintro e2 a2 S ⟨he2,gC,f,yU,Gt⟩
 let ⟨c1,c2,c3⟩:=aM.un1 j (Nat.le_of_eq I) (k':=1000000*f) Gt
 have T:=c2.same _ _ (UJ (o:= .loop {jM R.fnid R.a0.tmps [R.p,R.q] R.eN R.bd R.D none with state:= .busy}) c) J
 have r:R.l<S.heap.size:=(fJ.1 T).1
 have y:∀U:Option fj,U=ou bo xid->R.O U s [] (S.putObj R.l<|.loop<|jM R.fnid R.a0.tmps [R.p,R.q] R.eN R.bd R.D U):=by
  intro U _;refine⟨I,o2,o3,J,V,UJ r,λD' E=>?_⟩;have G:D'≠R.l:=λz=>x.rN<|z▸E
  rw[Da G];refine c2.same _ _ ?_ J;rw[Da G];exact b2.same _ _ (o7 D' E) J
 have B:=run_endRound (P:=P) (ou bo xid) T
 have A:∀o',aM {s with n:=R.n0,ds:=[],rd:=ae R.l} (·<1000000*f) (St.kn ⟨[],Mo,f,[]⟩) gC (S.putObj R.l o') a2:=λo'=>c1.wx<|WX.putObj o' T J V
 have C:∀(w:cA),w=S.putObj R.l (.loop<|jM R.fnid R.a0.tmps [R.p,R.q] R.eN R.bd R.D (ou bo xid))->Rr (.returned<|.bool (ou bo xid).isNone) w:=by
  rintro w rfl;have:(ou bo xid).isNone=bo:=by unfold ou;cases bo<;>rfl
  rw[this];exact hR gC _ f a2 yU (A _) (b3.H.trans c3.H) ⟨KeepsOthers.refl _,y _ J⟩
 subst he2
 cases bo with
 |true=>exact⟨_,_,B,C _ J⟩
 |false=>exact⟨_,_,B,C _ J⟩
def adl(ok:R.Ok){n}{f}{z A Vj}{H i d j x x2:G}{aF:a8}{kj}(ho:f[i]? =ae aF)(UM:aF.dst=ae d)(bW:aF.op= .call ⟨.value<|.tmp j,#[.tmp x,.tmp x2],kj⟩)
  (hgd:aF.guard=none\/∃jL T tg,aF.guard=ae (jL,T)/\sQ f.toList jL=ae tg/\L tg A.sl=ae (.c<|.B T))
  (pre:SG P n f z.nx 0 z i A) {v v2}(hj:L j A.sl=ae (.c<|.V<|.func (.yield R.l) #[] #[])) (hx:L x A.sl=ae v) (vO:v.al=[]) (hx2:L x2 A.sl=ae v2) (Vi:v2.al=[]) (dn:d<n)
 {M Mo}(A3:A.mem=M) (OK:L 0 M=ae (.dS 0 [] R.caps)) (hgo:L 0 Mo=ae (.dS 0 [] R.caps))
 {slk}(s7:∀t u,L t slk=ae u->L t A.sl=ae u/\t≠d/\(u.al=[]\/(∀g g' val,dy g R.caps R.ws->bf g u val->dy g' R.caps R.ws->bf g' u val)/\∀H∈u.al,H<1000000*z.nx))
  (Uv:rX z.mem=af) (Vg:rX M=af) (aoW:rX Mo=af) (Dg:∀H b,L H Mo=ae b->H<1000000*z.nx/\∀j∈b.al,j<1000000*z.nx) (hnx:1<=z.nx) (hi:f.size<=1000)
 {xid}{stB:St} {nxr:G} {bo:Bool} (Vh:rX stB.mem=af) (JX:z.nx+1<=nxr) (OJ:1<=stB.nx) (JY:∀t v,L t R.S0=ae v->∀H∈v.al,H<1000000*z.nx)
  (hA:TJ P R.n0 R.eN ⟨(R.q,v2)::(R.p,v)::R.S0,M,nxr,[]⟩ v7 (λN cJ a W=>cJ= .normal/\∃g,aM (N.dr []) (kb stB) stB.kn g W a))
  (hB:TJ P R.n0 R.bd stB v7 (JW bo xid Mo)) {gd1:E (G×Bool)}
  (suf:SG P n f z.nx (i+1) ⟨(d,.c<|.B bo)::slk,Mo,z.nx,gd1⟩ f.size Vj) {Q:ia} (cont:iC n .normal ⟨Vj.sl,Vj.mem,z.nx+1,[]⟩ (R.O<|ou bo xid) Q):
  TJ P n (.region H f ak) z (R.O none) Q:=by
 intro N hF og kd ds g W a hh hO
 let ⟨o1,o2,o3,o4,o5,o6,o7⟩:=hO
 subst o4
 have r:wX N.rd f:=kd.region
 have an4:i<f.size:=(fJ.1 ho).1
 have fS:(dC N.rd:Fence)=dC none:=by rw[o3]
 rw[fS]
 refine wpIn_region ?_
 have h:cy f.size=JI 0 (i-0)++(i::(JI (i+1) (f.size-(i+1))++[])):=by rw[iO,Mg,<-EH];have:f.size-(i+1)+1=f.size-i:=Y;rw[this];have:=List.range'_append (s:=0) (m:=i-0) (n:=f.size-i) (step:=1);simp only[hY,fc]at this;rw[A4]at this⊢;rw[this];congr 1;omega
 rw[h]
 have I:=pre.sound ((N.dr []).re W g<|1000000*z.nx) hF r
 have aoY:(dC ((N.dr []).re W g<|1000000*z.nx).rd:Fence)=dC none:=fS
 rw[aoY]at I
 refine I _ _ g W a (aM.re (k:=1000000*z.nx) hh<|JT Uv) ?_
 intro g1 W1 C UN
 let ⟨K,Gs,Oo⟩:=aM.un (k:=1000000*z.nx) hh UN
 rw[wpOpsIn_cons]
 unfold wpOpIn
 rw[ho]
 have UP:gZ aF (yielded f C.tmps)=af:=by
  unfold gZ;rcases hgd with hg|⟨jL,T,tg,hg,aoZ,hb⟩
  .rw[hg]
  .rw[hg];have:=K.dH tg (.c<|.B T) (by simp[St.kn,hb]);simp only[E9 aoZ this];simp
 simp only[UP,cr]
 refine⟨λ_ _=>trivial,?_⟩
 have UO:C.tmps.getD j undef= .func (.yield R.l) #[] #[]:=K.dH j (.c<|.V<|.func (.yield R.l) #[] #[]) (by simp[St.kn,hj])
 have AB:bf g1 v (C.tmps.getD x undef):=K.dH x v (by simp[St.kn,hx])
 have ao0:bf g1 v2 (C.tmps.getD x2 undef):=K.dH x2 v2 (by simp[St.kn,hx2])
 have X:=Gs.same _ _ o6 J
 have hex:(aF.semAt (dC none).round C.eval).run P W1= .ok (.round R.l R.fnid ((R.a0.tmps.setIfInBounds R.p<|C.tmps.getD x undef).setIfInBounds R.q<|C.tmps.getD x2 undef) R.eN R.bd) W1:=by
  show(execOp C.eval aF).run P W1=_;have S:=run_yield (P:=P) (args:= #[C.tmps.getD x undef,C.tmps.getD x2 undef]) X J;rw[execOp,bW];have e1:C.eval (.tmp j)= .func (.yield R.l) #[] #[]:=UO;have e3:C.eval (.tmp x)=C.tmps.getD x undef:=rfl;have e4:C.eval (.tmp x2)=C.tmps.getD x2 undef:=rfl;have e2:(#[Operand.tmp x,Operand.tmp x2]:Array Operand).map C.eval= #[C.tmps.getD x undef,C.tmps.getD x2 undef]:=by simp[e3,e4]
  simp only[resolve,e1,e2,yJ,pure_bind,invoke];simpa[jM]using S
 rw[hex]
 simp only[Oper.uponIn_round]
 refine⟨λhh=>EG,?_⟩
 have ry:St.kn ⟨A.sl,M,A.nx,A.gd⟩=A.kn:=by rw[<-A3]
 have U:aM (N.dr []) (·<1000000*z.nx+1000*i) (St.kn ⟨A.sl,M,A.nx,A.gd⟩) g1 W1 C:=by rw[ry];exact K
 refine aoO (Mo:=Mo) (bo:=bo) (xid:=xid) ok Vg Vh Y OJ hA hB U Y OK (λt w hw H bc=>fY (JY t w hw H bc) Y) AB vO ao0 Vi ⟨o1,o2,o3,J,o5,X,λD hD=>Gs.same _ _ (o7 D hD) J⟩ ?_
 intro g2 W2 nx' a' yU hC ao1 Vk
 let ⟨_,Vk⟩:=Vk
 have ao2:=U.OH o1 o2 (caps:=R.caps) (by simp[St.kn,OK])
 have ao3:=hC.OH o1 o2 (caps:=R.caps) (by simp[St.kn,hgo])
 simp only
 rw[UM]
 have AX:aM (N.dr []) (·<1000000*z.nx+1000*(i+1)) (St.kn ⟨(d,.c<|.B bo)::slk,Mo,z.nx,gd1⟩) g2 W2 {C with tmps:=C.tmps.setIfInBounds d<|.bool bo}:=by
  have U0:aM {N with n:=R.n0,ds:=[],rd:=ae R.l} (·<1000000*z.nx+1000*(i+1)) (St.kn ⟨[],Mo,nx',[]⟩) g2 W2 a':=by
   refine hC.restrict (λkey y S H bc=>?_) (λH y S=>?_)<|λH bc=>?_
   .cases key with
    |s t=>simp[St.kn,L]at S
    |m jL=>
     simp only[St.kn,bS]at S
     let ⟨b,hb,cJ⟩:=S
     subst cJ
     have:=(Dg jL b hb).2 H bc
     omega
   .simp only[St.kn,bS]at S;let ⟨b,hb,cJ⟩:=S;have:=(Dg H b hb).1;omega
   .have:H<N.k0:=bc;omega
  have xi:=aM.frame (sl':=(d,.c<|.B bo)::slk) (M':=Mo) (nx':=z.nx) (gd':=gd1) (n':=N.n) (ds':=[]) (rd':=N.rd) (a':={C with tmps:=C.tmps.setIfInBounds d<|.bool bo}) U0 (by have:=K.size;simpa[dB.dr]using this) K.defers (λt w hw=>by
   simp only[L]at hw;split at hw
   .rename_i cJ;cases hw;subst cJ;have gY:d<C.tmps.size:=by rw[K.size];show d<N.n;rw[hF];exact dn
    refine⟨by show _=_;simp[gY],λH bc=>yj⟩
   .rename_i cJ;let ⟨s1,s2,s3⟩:=s7 t w hw;have s8:bf g1 w (C.tmps.getD t undef):=K.dH t w (by simp[St.kn,s1]);have Vl:(C.tmps.setIfInBounds d<|.bool bo).getD t undef=C.tmps.getD t undef:=by have:=lM (xs:=C.tmps) (a:=Value.bool bo) cJ;simp[this]
    rw[Vl];rcases s3 with s3|⟨s3,s4⟩
    .refine⟨?_,λH bc=>by rw[s3]at bc;cases bc⟩;have h5:=s8.iN s3 ao1 g2.γ;exact h5
    .exact⟨s3 g1 g2 _ ao2 s8 ao3,λH bc=>by have:=s4 H bc;omega⟩) (λH b hb=>hb)
  exact xi
 have Z:=suf.sound ((N.dr []).re W2 g2<|1000000*z.nx+1000*(i+1)) hF r
 have ao4:(dC ((N.dr []).re W2 g2<|1000000*z.nx+1000*(i+1)).rd:Fence)=dC none:=fS
 rw[ao4]at Z
 refine Z _ _ g2 W2 _ (aM.re (k:=1000000*z.nx+1000*(i+1)) AX<|JT (st:=⟨(d,.c<|.B bo)::slk,Mo,z.nx,gd1⟩) aoW) ?_
 intro g3 W3 a3 UQ
 let ⟨Oq,Ot,UR⟩:=aM.un (k:=1000000*z.nx+1000*(i+1)) AX UQ
 exact cont N hF og [] g3 W3 a3 (Oq.weaken<|λH bc=>by have:H<1000000*z.nx+1000*f.size:=bc;show H<1000000*(z.nx+1);omega) (R.Vf _ N [] W2 W3 Ot Vk)
end
def oZ.Q(f:oZ)(i:Bool)(d:G)(Mo:E (G×aC)):ia:=λF e a W=>(e= .normal\/e= .ret)/\(∃g b,1<=b/\aM (F.dr []) (·<1000000*b) (St.kn ⟨[],Mo,b,[]⟩) g W a)/\f.O (ou i d) F [] W
section
variable{P:bO}
def ado{n0 nI}{N}{p p2}{eN bd}{B}{Q}{cid f:G}{fn}{cb}{capsI}{wsI}{Sc}{M Mo}{bo}{xid}
  (hg:B.ev N=ae (.c<|.X cid)) (qk:L cid B.mem=ae (.dS f [] capsI)) (Cn:sZ capsI=ae wsI) (Dd:P.funcs[f]? =ae fn) (yl:fn.body=ae cb) (hnI:fn.ntmps=nI) (qv:(fn.name != "runtime.NumGoroutine")=af) (IZ:fn.results= #[]) (hlen:Z wsI+1<=nI)
  (hnx:1<=B.nx) (hp:p<n0) (Dh:p2<n0) (ew:p≠p2) (yS:m5 eN=af) (yT:m5 bd=af)
  (OL:∀s∈Sc,L s.1 B.sl=ae (.c s.2)) (UL:L p (na Sc)=none) (hz:∀t v,L t B.sl=ae v->0∉v.al) (hM:∀d b,L d M=ae b->L d B.mem=ae b) (Vm:∀d b,L d B.mem=ae b->d≠0/\0∉b.al)
  (Dg:∀d b,L d Mo=ae b->d≠0/\d<1000000*B.nx/\∀kL∈b.al,kL<1000000*B.nx)
  (hI:∀i:oZ,i.Ok->i.n0=n0->i.S0=na Sc->i.caps=rY Sc++capsI->i.p=p->i.q=p2->i.eN=eN->i.bd=bd->TJ P nI cb ⟨(0,.c<|.V<|.func (.yield i.l) #[] #[])::dG 1 wsI,(0,.dS 0 [] (rY Sc++capsI))::M,B.nx,[]⟩ (i.O none) (i.Q bo xid<|(0,.dS 0 [] (rY Sc++capsI))::Mo))
  (hk:iC n0 (if bo then .normal else .exit xid) ⟨na Sc,Mo,B.nx,[]⟩ OM Q):TJ P n0 (.rangeFunc N ⟨[p,p2]⟩ eN bd) B OM Q:=by
 intro F hF og kd ds g W a hh hO
 obtain⟨ok0,ord,mk,rfl,nt,ao6⟩:=hO
 let ⟨sl,mem,nx,gd⟩:=B
 simp only at qk hnx OL hz hM Vm Dg hI hk
 have C':a.eval N=g.γ cid:=dJ hh _ N _ hg<|eC _ N
 have ry:(St.kn ⟨sl,mem,nx,gd⟩) (.m cid)=ae (.b<|.dS f [] capsI):=by simp[St.kn,qk]
 let ⟨Ox,K,hγ,T,Oy⟩:=hh.cE cid _ ry
 have T:Ox=[]:=T
 subst T
 have EI:=I9 Cn Oy
 have h:∀kL∈dX capsI,kL<1000000*nx/\kL≠0:=λkL hj=>by
  have h1:kL∈(aC.dS f [] capsI).al:=by simpa[aC.al,dX]using hj
  exact⟨hh.al (.m cid) _ ry kL h1,λe=>(Vm cid _ qk).2<|e▸h1⟩
 have ao7:ob P f=af:=by simp[ob,Dd,yl,qv]
 have ao8:∀s∈Sc,c6 g s.2 (a.tmps.getD s.1 undef):=λs hs=>hh.dH s.1 (.c s.2) (by simp[St.kn,OL s hs])
 have o:∀s∈Sc,∀d∈s.2.al,d<1000000*nx/\d≠0:=λs hs d bc=>⟨hh.al (.s s.1) (.v<|.c s.2) (by simp[St.kn,OL s hs]) d bc,λe=>hz s.1 _ (OL s hs)<|e▸bc⟩
 rw[ord]
 refine wpIn_rangeFunc (F:=dC none)<|λfnid _=>?_
 obtain⟨i,z⟩:∃i:oZ,i={n0:=n0,a0:=a,S0:=na Sc,caps:=rY Sc++capsI,ws:=(Sc.map λs=>a.tmps.getD s.1 undef)++K,l:=W.heap.size+1,D:=W.heap.size,fnid:=fnid,p:=p,q:=p2,eN:=eN,bd:=bd,ms:=W.heap.size::mk}:=⟨_,J⟩
 obtain⟨H,r⟩:∃H,(W.alloc<|.deferred<|ae []).alloc (.loop {state:= .ready,pending:=none,fn:=fnid,tmps:=a.tmps,params:= #[p,p2],assign:=eN,body:=bd,defers:=W.heap.size})=H:=⟨_,J⟩
 refine⟨W.heap.size+1,[kq W.heap.size],H,{target:= .fn (.func f) K.toArray,args:= #[.func (.yield<|W.heap.size+1) #[] #[]]},H,f,#[.func (.yield<|W.heap.size+1) #[] #[]]++K.toArray,H,?_,?_,λ_ _=>trivial,Nl ao7,λhh=>EG,?_⟩
 .rw[<-r];exact run_enterLoop_outer fnid a.tmps #[p,p2] eN bd
 .simp only[resolve,C',hγ,yJ];simp[Act.eval]
 have UU:WX F.w0.heap.size W H:=by rw[<-r];exact(WX.alloc _ _ _).trans<|WX.alloc _ _ _
 have hB:F.w0.heap.size<=W.heap.size:=hh.below.size
 have UW:H.heap[W.heap.size]? =ae (.deferred<|ae []):=by rw[<-r];exact(Below.heap_alloc _ _ _ ax).trans<|UX W _
 have JK:H.heap[W.heap.size+1]? =ae (.loop<|jM fnid a.tmps [p,p2] eN bd W.heap.size none):=by rw[<-r];have:=UX (w:=W.alloc<|.deferred<|ae [])<|.loop {state:= .ready,pending:=none,fn:=fnid,tmps:=a.tmps,params:= #[p,p2],assign:=eN,body:=bd,defers:=W.heap.size};rwa[World.size_alloc]at this
 have JL:∀D∈W.heap.size::mk,H.heap[D]? =ae (.deferred<|ae []):=by
  intro D hD;rcases b9.1 hD with rfl|hD
  .exact UW
  .have h1:=(nt D hD).1;rw[<-r];exact(Below.heap_alloc _ _ _<|by have:=(fJ.1 h1).1;simp;omega).trans<|(Below.heap_alloc _ _ _ (fJ.1 h1).1).trans h1
 have rN:W.heap.size+1∉W.heap.size::mk:=by intro hc;have:=JL _ hc;rw[JK]at this;cases this
 have ao9:dy g i.caps i.ws:=by rw[z];exact adi (adk (f:=λt=>a.tmps.getD t undef) ao8) Oy
 have hcm:∀d∈dX i.caps,d≠0/\d<1000000*nx:=by
  rw[z];have key:∀{A5:E (G×C)},(∀s∈A5,∀d∈s.2.al,d<1000000*nx/\d≠0)->∀d∈dX (rY A5++capsI),d≠0/\d<1000000*nx:=by
   intro A5;induction A5 with
   |nil=>intro _ d bc;exact⟨(h d bc).2,(h d bc).1⟩
   |cons s A5 ih=>
    intro hL d bc
    simp only[rY,gM,lO,dX,bg]at bc
    rcases bc with bc|bc
    .have:d∈s.2.al:=by simpa[b8]using bc
     exact⟨(hL s ax d this).2,(hL s ax d this).1⟩
    .exact ih (λx hx=>hL x k7) d bc
  exact key o
 have Gt:=aM.ghost (k:=1000000*nx) (hh.wx (W':=H) UU) (nx':=nx) (gd':=[]) Y ok0 hz Vm ao9 hcm
 have ok:i.Ok:=by
  rw[z];refine⟨hp,Dh,ew,?_,rN,yS,yT,λg' yP t v hv=>?_,UL⟩
  .have:=hh.size;simpa[dB.dr,hF]using this
  .obtain⟨c,rfl,hc⟩:=OI hv;exact(Ve (f:=λt=>a.tmps.getD t undef) yP).1 (t,c)<|xE hc
 have lV:Z K=Z wsI:=xh EI
 have Oz:(#[.func (.yield<|W.heap.size+1) #[] #[]]++K.toArray:Array aT)=(.func (.yield<|W.heap.size+1) #[] #[]::K).toArray:=ax
 rw[Oz]
 refine callsIn_of_wp (F:=dC none) Dd yl ll ?_
 have UZ:aM ({F with n:=nI,ds:=[],rd:=none,k0:=1,γ0:=λ_=>nL i.ws}:dB) (·<1000000*nx) (St.kn ⟨(0,.c<|.V<|.func (.yield i.l) #[] #[])::dG 1 wsI,(0,.dS 0 [] (rY Sc++capsI))::M,nx,[]⟩) (g.new 0<|nL i.ws) H {tmps:=(.func (.yield<|W.heap.size+1) #[] #[]::K).toArray++rR (fn.ntmps-(.func (.yield<|W.heap.size+1) #[] #[]::K).toArray.size) undef,defers:=[]}:=by
  refine aM.frame (F:={F.dr (mk.map kq)with k0:=1,γ0:=λ_=>nL i.ws}) Gt (by simp[lV,hnI];omega) J (λt v hv=>?_)<|λd b hb=>?_
  .simp only[L]at hv;split at hv
   .rename_i e;cases hv;subst e;refine⟨?_,λd bc=>yj⟩;show _=_;rw[z,lR,ui ax];simp
   .rename_i e;let ⟨h1,u,h2,h3,h4⟩:=lT wsI K 1 EI t v hv;have jw:t-1<Z K:=(qn.1 h2).1;have I:∀d∈v.al,d<1000000*nx/\d≠0:=λd bc=>h d (CL Cn d<|h4 d bc)
    refine⟨?_,λd bc=>(I d bc).1⟩;rw[lR,ui b6];have Vl:(.func (.yield<|W.heap.size+1) #[] #[]::K).toArray[t]? =ae u:=by rw[vg,(Y:t=(t-1)+1),w5,h2]
    rw[Vl];have xF:gw (λd=>d≠0) g (g.new 0<|nL i.ws):=⟨cD.refl _,λd bc=>by simp[Gh.new,bc]⟩;exact bf.mono xF (λd bc=>(I d bc).2) h3
  .simp only[L]at hb⊢;split at hb
   .rename_i e;cases hb;subst e;rw[z];simp
   .rename_i e;rw[j e];exact hM d b hb
 have hO1:i.O none ({F with n:=nI,ds:=[],rd:=none,k0:=1,γ0:=λ_=>nL i.ws}:dB) [] H:=by
  refine⟨J,J,J,J,?_,?_,?_⟩
  .rw[z];show F.w0.heap.size<=W.heap.size+1;omega
  .rw[z];exact JK
  .rw[z];exact JL
 have jx:=hI i ok (by rw[z]) (by rw[z]) (by rw[z]) (by rw[z]) (by rw[z]) (by rw[z]) (by rw[z]) ({F with n:=nI,ds:=[],rd:=none,k0:=1,γ0:=λ_=>nL i.ws}:dB) J (aN _) (.inl J) [] (g.new 0<|nL i.ws) H _ UZ hO1
 refine wpIn_mono (F:=dC none) jx ?_
 rintro e a' W' ⟨he,⟨g',nx',yU,OA⟩,hO'⟩
 let ⟨_,_,_,_,_,S,OB⟩:=hO'
 have ON:a'.defers=[]:=OA.defers
 have A:W'.heap[W.heap.size+1]? =ae (.loop<|jM fnid a.tmps [p,p2] eN bd W.heap.size (ou bo xid)):=by rw[z]at S;exact S
 have apb:∀D∈W.heap.size::mk,W'.heap[D]? =ae (.deferred<|ae []):=by rw[z]at OB;exact OB
 have U1:WX F.w0.heap.size W' (W'.putObj (W.heap.size+1)<|.loop {jM fnid a.tmps [p,p2] eN bd W.heap.size (ou bo xid)with state:= .exhausted}):=WX.putObj _ A J Y
 have AX:=OA.wx U1
 have hgr:dy g' i.caps i.ws:=AX.OH (caps:=i.caps) J J (by rw[z];simp[St.kn,L])
 have xi:aM (F.dr<|(W.heap.size::mk).map kq) (·<1000000*nx) (St.kn ⟨na Sc,Mo,nx,[]⟩) g' (W'.putObj (W.heap.size+1)<|.loop {jM fnid a.tmps [p,p2] eN bd W.heap.size (ou bo xid)with state:= .exhausted}) {a with defers:=[kq W.heap.size]++a.defers}:=by
  have h5:aM ({F with n:=F.n,ds:=(W.heap.size::mk).map kq,rd:=F.rd,k0:=1,γ0:=λ_=>nL i.ws}:dB) (λd=>d<1000000*nx'\/d<1000000*nx) (St.kn ⟨na Sc,(0,.dS 0 [] (rY Sc++capsI))::Mo,nx,[]⟩) g' (W'.putObj (W.heap.size+1)<|.loop {jM fnid a.tmps [p,p2] eN bd W.heap.size (ou bo xid)with state:= .exhausted}) {a with defers:=[kq W.heap.size]++a.defers}:=by refine aM.frame (AX.weaken<|λd bc=> .inl bc) (by have:=hh.size;simpa[dB.dr]using this) (by have:=hh.defers;simp only[this];rfl) (λt v hv=>?_)<|λd b hb=>hb;obtain⟨c,rfl,hc⟩:=OI hv;have U:=xE hc;have h6:=(Ve (f:=λt=>a.tmps.getD t undef)<|by rw[z]at hgr;exact hgr).1 (t,c) U;exact⟨h6,λd bc=> .inr (o (t,c) U d bc).1⟩
  have h6:=h5.restrict (K':=(·<1000000*nx)) (λkey y hy d bc=>?_) (λd y hy=>?_) (λd bc=>by have:d<1:=bc;show d<1000000*nx;omega)
  .have h7:=aM.frame (sl':=na Sc) (M':=Mo) (nx':=nx) (gd':=[]) (n':=F.n) (ds':=(W.heap.size::mk).map kq) (rd':=F.rd) (a':={a with defers:=[kq W.heap.size]++a.defers}) h6 h6.size h6.defers (λt v hv=>⟨h6.dH t v rI,λd bc=>h6.al (.s t) (.v v) rI d bc⟩) (λd b hb=>by simp only[L];have:d≠0:=(Dg d b hb).1;rw[j (λe=>this e.symm)];exact hb);exact⟨h7.size,h7.defers,h7.dH,h7.cE,h7.inj,h7.al,h7.dI,h7.sub,h7.below,h7.le,h7.fresh,λd bc=>by have:d<F.k0:=bc;omega⟩
  .cases key with
   |s t=>
    simp only[St.kn,bS]at hy
    let ⟨w,hw,e⟩:=hy
    subst e
    obtain⟨c,rfl,hc⟩:=OI hw
    exact(o (t,c) (xE hc) d bc).1
   |m q=>
    simp only[St.kn,L,bS]at hy
    let ⟨w,hw,e⟩:=hy
    subst e
    split at hw
    .cases hw;have:d∈dX i.caps:=by rw[z];simpa[Info.al,aC.al,dX]using bc
     exact(hcm d this).2
    .exact(Dg q w hw).2.2 d bc
  .simp only[St.kn,L,bS]at hy;let ⟨w,hw,e⟩:=hy;split at hw
   .rename_i e2;subst e2;show 0<1000000*nx;omega
   .exact(Dg d w hw).2.1
 have hOM:OM F ((W.heap.size::mk).map kq) (W'.putObj (W.heap.size+1)<|.loop {jM fnid a.tmps [p,p2] eN bd W.heap.size (ou bo xid)with state:= .exhausted}):=by
  refine⟨ok0,ord,W.heap.size::mk,J,λD hD=>⟨?_,?_⟩,?_⟩
  .have ew:D≠W.heap.size+1:=λe=>rN (e▸hD)
   rw[Da ew];exact apb D hD
  .rcases b9.1 hD with rfl|hD
   .exact hB
   .exact(nt D hD).2
  .refine Af.2 ⟨λhc=>?_,ao6⟩;have:=(fJ.1 (nt _ hc).1).1;omega
 have ads:rangePost (dC none) 0 P (W.heap.size+1) (Q F) {a with defers:=[kq W.heap.size]++a.defers} (.returned<|.tuple #[]) W':=by
  refine⟨ou bo xid,_,run_endLoop (P:=P) A (by unfold ou;cases bo<;>simp[jM]),?_⟩;have hq:=hk F hF og _ g' _ _ xi hOM;unfold ou;cases bo with
  |true=>exact hq
  |false=>exact wpIn_exit hq
 have OC:(results fn a'.tmps).run P W'= .ok (.tuple #[]) W':=by simp[results,IZ]
 rcases he with rfl|rfl
 .exact⟨ON,_,OC,ads⟩
 .exact⟨ON,_,OC,ads⟩
end
def val:E V->V
 |[]=>0
 |a::b=>a+4294967296*val b
def cc(a:E V):Prop:=∀w∈a,0<=w/\w<4294967296
def Vn:cc []:=λ_ h=>by cases h
def A6{a}{b}:cc (a::b)↔(0<=a/\a<4294967296)/\cc b:=by simp[cc]
def jN{a}(b:cc a) n:cc (c n a):=λw d=>b w<|Gy d
def A7{a}(b:cc a) n:cc (az n a):=λw d=>b w<|Vo d
def Vp{a b}(d:cc a)(k:cc b):cc (a++b):=λw f=>(bg.mp f).elim (d w)<|k w
def A8{b}(d:cc b) i{a}(f:0<=a/\a<4294967296):cc (b.set i a):=λx g=>(List.mem_or_eq_of_mem_set g).elim (d x)<|λe=>e▸f
def te n:cc (bt n 0):=λw a=>by have:=List.eq_of_mem_replicate a;subst this;decide
def dv{a}(d:cc a) i:0<=I a i 0/\I a i 0<4294967296:=by
 by_cases b:i<Z a
 .simp only[aO,cT b,sV];exact d _<|sW b
 .simp[aO,jB<|yW b]
def Gz a b:val (a++b)=val a+4294967296^Z a*val b:=by
 induction a with
 |nil=>simp[val]
 |cons w r d=>simp only[lO,val,d,iK,gG];grind
def apd ws i(a:i<Z ws):val (c (i+1) ws)=val (c i ws)+I ws i 0*4294967296^i:=by rw[uC,Gz,hZ,uk<|Di a];simp[cT a,val,aO];grind
def nM ws i(a:Z ws<=i):val (c i ws)=val ws:=by rw[jy a]
def lA ws i:val (c (i+1) ws)=val (c i ws)+I ws i 0*4294967296^i:=by
 by_cases h:i<Z ws
 .exact apd ws i h
 .rw[nM ws _ Y,nM ws i Y];simp[aO,jB<|yW h]
def Vq ws i a(h:i<Z ws):val (ws.set i a)=val ws+(a-I ws i 0)*4294967296^i:=by
 induction ws generalizing i with
 |nil=>simp at h
 |cons x r b=>
  cases i with
  |zero=>simp[val];omega
  |succ i=>
   have:=b i eQ
   simp only[List.set_cons_succ,val,this,Vr,gG];grind
def OO n:val (bt n 0)=0:=by
 induction n with
 |zero=>rfl
 |succ n a=>simp[Aw,val,a]
def nb{a}(b:cc a):0<=val a:=by
 induction a with
 |nil=>exact iD _
 |cons w r d=>
  let ⟨f,h2⟩:=A6.mp b
  have:=d h2
  simp only[val];omega
def ov{a}(b:cc a):val a<4294967296^Z a:=by
 induction a with
 |nil=>decide
 |cons w r d=>
  let ⟨f,h2⟩:=A6.mp b
  have:=d h2
  simp only[val,iK,gG];omega
def ape:∀(f g n:G),n<=f->n<=g->Ad f n=Ad g n:=by
 intro f;induction f with
 |zero=>
  intro g n h _;have:n=0:=by omega
  subst this;cases g<;>simp[Ad]
 |succ f a=>
  intro g n b d
  cases g with
  |zero=>
   have:n=0:=by omega
   subst this;simp[Ad]
  |succ g=>
   simp only[Ad]
   split
   .rfl
   .rw[a g (n/4294967296) Y Y]
def GA:R 0=[]:=rfl
def yX{n}(a:n≠0):R n=((n%4294967296:G):V)::R (n/4294967296):=by
 unfold R;obtain⟨m,rfl⟩:∃m,n=m+1:=⟨n-1,Y⟩;conv=>lhs;unfold Ad
 rw[j a,ape m _ _ Y<|aN _]
def fa n:val (R n)=n:=by
 induction n using JF with
 |ind n a=>
  by_cases h:n=0
  .subst h;rfl
  .rw[yX h];simp only[val,a (n/4294967296) Y];omega
def eO n:cc (R n):=by
 induction n using JF with
 |ind n a=>
  by_cases h:n=0
  .subst h;exact Vn
  .rw[yX h];exact A6.mpr ⟨Y,a _ Y⟩
def can(a:E V):Prop:=a=[]\/I a (Z a-1) 0≠0
def apf{b}(k:cc b)(a:can b):b=R (ah<|val b):=by
 induction b with
 |nil=>rfl
 |cons w r f=>
  let ⟨n,h2⟩:=A6.mp k
  have g:can r:=by
   cases r with
   |nil=>exact .inl J
   |cons x s=>exact .inr (by rcases a with a|a;cases a;simpa using a)
  have p:=nb h2
  have d:ah (val<|w::r)≠0:=by
   simp only[val];intro t;have i:w=0/\val r=0:=Y;cases r with
   |nil=>rcases a with a|a;cases a;simp at a;exact a i.1
   |cons x s=>
    have:=f h2 g
    rw[i.2]at this
    exact aJ this (by simp[GA])
  rw[yX d]
  have l:ah (val<|w::r)/4294967296=ah (val r):=by simp only[val];omega
  have m:((ah (val<|w::r)%4294967296:G):V)=w:=by simp only[val];omega
  rw[l,m,<-f h2 g]
def xH n:can (R n):=by
 induction n using JF with
 |ind n b=>
  by_cases h:n=0
  .subst h;exact .inl J
  .rw[yX h];refine .inr ?_;by_cases h2:n/4294967296=0
   .rw[h2,GA];simp;omega
   .have:=b (n/4294967296) Y;rcases this with a|a
    .exfalso;have:=fa<|n/4294967296;rw[a]at this;simp[val]at this;omega
    .cases hw:R (n/4294967296)with
     |nil=>rw[hw]at a;simp at a
     |cons x s=>rw[hw]at a;simpa using a
def gR(a:E V):G->G
 |0=>0
 |n+1=>if I a n 0=0 then gR a n else n+1
def aU(a:E V):E V:=c (gR a<|Z a) a
def adt(a:E V):∀n,gR a n<=n
 |0=>aN _
 |n+1=>by simp only[gR];split;exact Nat.le_succ_of_le<|adt a n;exact aN _
def adu(a:E V):∀n,val (c (gR a n) a)=val (c n a)
 |0=>rfl
 |n+1=>by
  simp only[gR];split
  .rename_i b;rw[adu a n,lA,b];omega
  .rfl
def adv(a:E V):∀n,gR a n=0\/I a (gR a n-1) 0≠0
 |0=> .inl J
 |n+1=>by
  simp only[gR];split
  .exact adv a n
  .rename_i h;exact .inr eQ
def adw ws:val (aU ws)=val ws:=by unfold aU;rw[adu,ik]
def adx{a}(b:cc a):cc (aU a):=jN b _
def JZ ws:can (aU ws):=by
 unfold aU can;have a:=adt ws<|Z ws;rcases adv ws (Z ws)with h|h
 .left;rw[h];rfl
 .by_cases b:gR ws (Z ws)=0
  .left;rw[b];rfl
  .right;rw[hZ,uk a,aO,Iw Y,<-aO];exact h
def qF{a}(b:cc a):aU a=R (ah<|val a):=by have:=apf (adx b)<|JZ a;rwa[adw]at this
def Vs n:aU (R n)=R n:=by rw[qF (eO n),fa];simp
def wa{n:G}:(n:V)<4294967296^Z (R n):=by have:=ov<|eO n;rwa[fa]at this
def kS n:(0:V)<4294967296^n:=ow o
def wb{m n}(a:m<=n):(4294967296:V)^m<=4294967296^n:=by obtain⟨k,rfl⟩:=Nat.exists_eq_add_of_le a;rw[Int.pow_add];have b:=kS m;have d:=kS k;have:(4294967296:V)^m*1<=4294967296^m*4294967296^k:=l6 Y Y;omega
def OP{a}(d:cc a)(f:can a)(b:a≠[]):(4294967296:V)^(Z a-1)<=val a:=by have g:0<Z a:=cR.mpr b;have i:=lA a<|Z a-1;rw[Nat.sub_add_cancel g,ik]at i;have k:I a (Z a-1) 0≠0:=f.resolve_left b;have l:=dv d<|Z a-1;have m:=nb<|jN d<|Z a-1;have n:=kS<|Z a-1;have p:1*(4294967296:V)^(Z a-1)<=I a (Z a-1) 0*4294967296^(Z a-1):=iE Y Y;omega
def Dj{n k:G}(g:(n:V)<4294967296^k):Z (R n)<=k:=by
 apply Decidable.byContradiction;intro b;have a:R n≠[]:=by intro d;rw[d]at b;simp at b
 have f:=OP (eO n) (xH n) a;rw[fa]at f;have i:(4294967296:V)^k<=4294967296^(Z (R n)-1):=wb Y;omega
def OQ{a b}(f:cc a)(g:cc b)(i:can b)(d:Z a<Z b):val a<val b:=by have l:=ov f;have m:=OP g i (by intro k;rw[k]at d;simp at d);have n:(4294967296:V)^Z a<=4294967296^(Z b-1):=wb Y;omega
def OR{a b}(f:cc a)(g:cc b) i(k:az (i+1) a=az (i+1) b)(p:Z a=Z b)(s:i<Z a)(t:I a i 0<I b i 0):val a<val b:=by
 have d:val a=val (c (i+1) a)+4294967296^(i+1)*val (az (i+1) a):=by have:=Gz (c (i+1) a)<|az (i+1) a;rwa[uj,hZ,uk Y]at this
 have l:val b=val (c (i+1) b)+4294967296^(i+1)*val (az (i+1) b):=by have:=Gz (c (i+1) b)<|az (i+1) b;rwa[uj,hZ,uk Y]at this
 rw[k]at d;rw[lA]at d l;have m:=ov<|jN f i;rw[hZ,uk Y]at m;have u:=nb<|jN g i;have v:=kS i;have n:(I a i 0+1)*(4294967296:V)^i<=I b i 0*4294967296^i:=iE Y Y;rw[o0]at n;omega
def xI(a:E V):aq r 188 [cS ao a] (cS ao<|aU a):=by
 refine aS Tryz.func188<|xj 0 J λl=>?_;simp only[ET.n,qG]at l;refine rr J<|rr J ?_;refine h<|aA<|bx (α:=G) (λk=>⟨[(0,cS ao a),(3,cI k)],[],2,[]⟩) (λk=>k<=Z a/\gR a k=gR a (Z a)) (λk=>k) (Z a) ⟨aN _,J⟩ aY ?_;rintro k ⟨p,b⟩;have f:∀v,k=0\/I a (k-1) 0≠0->v=c k a->bq (cS ao v) (cS ao<|aU a):=by
  intro v g d;refine bq.of_eq ?_;subst d;unfold aU;rw[<-b];cases k with
  |zero=>rfl
  |succ k=>
   rcases g with g|g
   .omega
   .simp only[eD]at g;simp only[gR,g,bV]
 refine h<|rb ?_;refine rg 8 J J (λi=>?_)<|λi=>?_
 .simp at i;refine re J (F J (λd=>?_)<|λd=>?_)
  .refine aG (aA<|rt J<|fT<|a6 (k-1) ⟨Y,?_⟩ (Y:k-1<k)<|wk ⟨sR J,sE J ?_,M⟩ M)
   .rw[<-b];obtain⟨j,rfl⟩:∃j,k=j+1:=⟨k-1,Y⟩;have m:I a j 0=0:=by have:ah (((j+1:G):V)-1)=j:=Y;simpa[this]using d
    simp only[eD,gR,m,cr]
   .congr 2;omega
  .refine bD (aR<|rr J<|bX<|iZ cp J<|f _ (.inr ?_) ?_)
   .have:ah ((k:V)-1)=k-1:=by omega
    simpa[this]using d
   .simp
 .simp at i;subst i;refine re J<|F J (λd=>by simp at d)<|λ_=>?_;exact bD<|aR<|rr J<|bX<|iZ cp J<|f _ (.inl J) J
def A9(a:E V):aq r 163 [cS ao a] (cS ao<|aU a):=by
 refine aS Tryz.func163<|xj 0 J λl=>?_;simp only[ET.n,qG]at l;refine rr J<|rr J ?_;refine h<|aA<|bx (α:=G) (λk=>⟨[(0,cS ao a),(3,cI k)],[],2,[]⟩) (λk=>k<=Z a/\gR a k=gR a (Z a)) (λk=>k) (Z a) ⟨aN _,J⟩ aY ?_;rintro k ⟨p,b⟩;have f:∀v,k=0\/I a (k-1) 0≠0->v=c k a->bq (cS ao v) (cS ao<|aU a):=by
  intro v g d;refine bq.of_eq ?_;subst d;unfold aU;rw[<-b];cases k with
  |zero=>rfl
  |succ k=>
   rcases g with g|g
   .omega
   .simp only[eD]at g;simp only[gR,g,bV]
 refine h<|rb ?_;refine rg 8 J J (λi=>?_)<|λi=>?_
 .simp at i;refine re J (F J (λd=>?_)<|λd=>?_)
  .refine aG (aA<|rt J<|fT<|a6 (k-1) ⟨Y,?_⟩ (Y:k-1<k)<|wk ⟨sR J,sE J ?_,M⟩ M)
   .rw[<-b];obtain⟨j,rfl⟩:∃j,k=j+1:=⟨k-1,Y⟩;have m:I a j 0=0:=by have:ah (((j+1:G):V)-1)=j:=Y;simpa[this]using d
    simp only[eD,gR,m,cr]
   .congr 2;omega
  .refine bD (aR<|rr J<|bX<|iZ cp J<|f _ (.inr ?_) ?_)
   .have:ah ((k:V)-1)=k-1:=by omega
    simpa[this]using d
   .simp
 .simp at i;subst i;refine re J<|F J (λd=>by simp at d)<|λ_=>?_;exact bD<|aR<|rr J<|bX<|iZ cp J<|f _ (.inl J) J
def nO(n:V)(a:0<=n)(b:n<4294967296):ay .u32 n=n:=by simp[ay,IntKind.bits,J0];omega
def be(n:V)(a:0<=n)(b:n<18446744073709551616):ay .u64 n=n:=by simp[ay,IntKind.bits,J0];omega
def ady m(b:m<18446744073709551616):aU [((m%4294967296:G):V),((m/4294967296:G):V)]=R m:=by have a:cc [((m%4294967296:G):V),((m/4294967296:G):V)]:=A6.mpr ⟨Y,A6.mpr ⟨Y,Vn⟩⟩;rw[qF a];congr 1;simp only[val];omega
def GB(m:G)(a:m<18446744073709551616):aq r 136 [cU m] (cS ao<|R m):=by
 refine aS Tryz.func136 ?_;refine rr J<|rb ?_;have b:ay .u32 ((m:V).tmod 4294967296)=((m%4294967296:G):V):=by rw[nO]<;>(rw[l7 Y];omega)
 have d:ay .u32 (ay .u64<|(m:V).tdiv 4294967296)=((m/4294967296:G):V):=by
  have:(m:V).tdiv 4294967296=((m/4294967296:G):V):=by rw[wc Y];omega
  rw[this,be _ Y Y,nO _ Y Y]
 refine rl ao [_,_] J J ?_;refine rc J J (A9 _) ?_;refine re J<|cd J ?_;rw[b,d,ady m a]
def apg neg(d:E V):aq r 135 [cB neg,cS ao d] (.a [.B (neg&&decide (0<Z (aU d))),.S ao<|aU d]):=by
 refine aS Tryz.func135 ?_;refine rr J<|rb ?_;refine rc J J (A9 _) ?_;refine re J<|rb ?_;refine rg 9 J J (λh=>?_)<|λh=>?_
 .refine re J<|cd J ?_;subst h;have e:decide ((Z (aU d):V)>0)=(af&&decide (0<Z (aU d))):=ax;exact bl (λb=>AV.a [C.B b,C.S ao<|aU d]) e
 .refine re J<|cd J ?_;subst h;rfl
def Dk ws(i:G)(b:cc ws):aq r 182 [cS ao ws,cI i] (cU<|I ws i 0):=by
 refine aS Tryz.func182 ?_;refine rr J<|h<|rr J ?_;have:=dv b i;refine F J (λa=>?_)<|λa=>?_
 .simp at a;refine rr J<|bX<|da<|fO J ?_;have e:ay .u64 (I ws (ah (i:V)) 0)=I ws i 0:=by rw[cx,be _ this.1 Y]
  exact bY e
 .simp at a;refine aG<|rr J<|cd J ?_;have e:I ws i 0=0:=by simp[aO,jB a]
  rw[e];rfl
def eE(a b:V):V:=if a<b then-1 else if b<a then 1 else 0
def aph a b(m:cc a)(p:cc b)(A:can a)(B:can b):aq r 144 [cS ao a,cS ao b] (cI<|eE (val a)<|val b):=by
 refine aS Tryz.func144<|xj 0 J λu=>xj 1 J λv=>?_;simp only[ET.n,qG]at u v;refine rr J<|h<|rr J ?_;refine F J (λs=>?_)<|λs=>?_
 .simp at s;refine rr J<|bX<|da<|fO J ?_;rw[eE,q<|OQ m p B s];rfl
 .simp at s;refine aG<|h<|rr J ?_;refine F J (λt=>?_) (λt=>?_)
  .simp at t;refine rr J<|bX<|da<|fO J ?_;have:=OQ p m A t;rw[eE,ma Y,q this];rfl
  .simp at t;have x:Z a=Z b:=Y;refine aG<|h<|rr J ?_;refine aA<|bx (α:=G) (λk=>⟨[(0,cS ao a),(1,cS ao b),(5,cI<|(k:V)-1)],[],4,[]⟩) (λk=>k<=Z a/\az k a=az k b) (λk=>k) (Z a) ⟨aN _,by simp[x]⟩ aY ?_;rintro k ⟨D,g⟩;refine h<|rr J ?_;refine F J (λz=>?_) (λz=>?_)
   .simp at z;obtain⟨j,rfl⟩:∃j,k=j+1:=⟨k-1,Y⟩;have C:(((j+1:G):V)-1)=j:=Y;have f:j<Z a:=Y;rw[C];refine aG<|h<|aA<|h<|rr J ?_;refine F J (λi=>?_) (λi=>?_)
    .simp at i;refine rr J<|bX ?_;repeat(first|refine da ?_|refine mz ?_|refine m0 ?_)
     refine fO J ?_;rw[eE,q<|OR m p j g x f i];rfl
    .have i:¬(I a j 0<I b j 0):=by simpa using i
     refine aG<|rr J ?_;refine F J (λl=>?_)<|λl=>?_
     .simp at l;refine rr J<|bX ?_;repeat(first|refine da ?_|refine mz ?_|refine m0 ?_)
      refine fO J ?_;have:=OR p m j g.symm x.symm Y l;rw[eE,ma Y,q this];rfl
     .have l:¬(I a j 0>I b j 0):=by simpa using l
      refine dk<|bU<|rt J<|a6 j ⟨Y,?_⟩ uD aY;have e:I a j 0=I b j 0:=Y;have d:j<Z b:=Y;rw[rZ f,rZ d,g];simp only[aO,cT f,cT d,sV]at e;rw[e]
   .simp at z;have:k=0:=Y;subst this;refine bD<|aR<|rr J<|bX ?_;repeat(first|refine da ?_|refine mz ?_|refine m0 ?_)
    refine fO J ?_;simp only[qx]at g;rw[g,eE,ma Y,ma Y];rfl
def we b i a(d:V)(f:i<Z b):(b.set i d).getD a 0=if i=a then d else I b a 0:=by
 simp only[aO,Vt];by_cases e:i=a
 .subst e;simp[f]
 .simp[e]
def J1 a i b(d:i<Z a)(f:I a i 0=0):val (a.set i b)=val a+b*4294967296^i:=by rw[Vq a i b d,f];simp
structure GC(a b:E V)(m:G)(x:G×E V×V):Prop where
 i:x.1<=m
 len:x.2.1.length=m
 r:cc x.2.1
 z:∀d,x.1<=d->x.2.1.getD d 0=0
 c0:0<=x.2.2
 c1:x.2.2<=1
 v:val x.2.1+x.2.2*4294967296^x.1=val (a.take x.1)+val (b.take x.1)
def GC.next{a b}{m}{x}(d:GC a b m x)(f:x.1<m)(g:cc a)(k:cc b):GC a b m (x.1+1,x.2.1.set x.1<|(I a x.1 0+I b x.1 0+x.2.2)%4294967296,(I a x.1 0+I b x.1 0+x.2.2)/4294967296):=by
 have t:=dv g x.1;have u:=dv k x.1;have A:=d.c0;have B:=d.c1;refine⟨f,by simp[d.len],A8 d.r _ ⟨Y,Y⟩,?_,(by show 0<=_/_;omega),(by show _/_<=1;omega),?_⟩
 .intro i l;simp only at l;rw[we _ _ _ _ (by rw[d.len];exact f),j Y];exact d.z i Y
 .simp only;rw[J1 _ _ _ (by rw[d.len];exact f) (d.z _<|aN _),lA,lA,gG];have n:=d.v;generalize (4294967296:V)^x.1=q at n⊢;generalize ht:I a x.1 0+I b x.1 0+x.2.2=s;have p:s%4294967296+s/4294967296*4294967296=s:=Y;have:val x.2.1=val (c x.1 a)+val (c x.1 b)-x.2.2*q:=Y;rw[this];have e:s%4294967296*q+s/4294967296*(q*4294967296)=s*q:=by rw[show s/4294967296*(q*4294967296)=s/4294967296*4294967296*q by grind,<-o0,p]
  have C:s*q=I a x.1 0*q+I b x.1 0*q+x.2.2*q:=by rw[<-ht];grind
  omega
def adz(x a:G):(if(a:V)>x then(a:V)else x)=((max x a:G):V):=by
 by_cases h:(a:V)>x
 .rw[q h];omega
 .rw[j h];omega
def api a b(n:cc a)(p:cc b)(la:Z a<=1099511627776)(lb:Z b<=1099511627776):aq r 143 [cS ao a,cS ao b] (cS ao<|R<|ah<|val a+val b):=by
 refine aS Tryz.func143 ?_;refine rr J<|rr J<|rb ?_;refine rm ao (max (Z a) (Z b)+1) J J J J J J (nJ .u32) ?_ ?_ ?_ ?_
 .rw[adz];rfl
 .show _*4<=_;omega
 .show _*1<=_;omega
 refine re J<|rr J<|h<|rr J ?_;generalize hM:max (Z a) (Z b)+1=M;refine aA<|bx (α:=G×E V×V) (λx=>⟨[(0,cS ao a),(1,cS ao b),(5,cI M),(6,.c<|.X 2001000),(7,cU x.2.2),(8,cI x.1)],[(2001000,.vec 142 ao x.2.1)],5,[]⟩) (GC a b M) (λx=>M-x.1) (0,bt M 0,0) ?_ ?_ ?_
 .refine⟨bm _,ax,te M,?_,iD _,J2,Dm⟩;intro j _;simp only[aO,nc];split<;>rfl
 .refine wk ⟨sR J,sR J,sE J ?_,sR J,sR J,sR J,ll⟩ ⟨bR J,ll⟩;rw[adz,<-hM];congr 2
 .rintro⟨i,o,d⟩ f;have u:Z o=M:=f.len;have B:0<=d:=f.c0;have C:d<=1:=f.c1;have L:=dv n i;have O:=dv p i;refine h<|rr J ?_;refine F J (λg=>?_) (λg=>?_)
  .have g:i<M:=by simpa using g
   refine aG<|h<|aA<|rb ?_;refine rc J J (Dk a i n)<|rc J J (Dk b i p)<|re J ?_;have D:ay .u64 (ay .u64 (I a i 0+I b i 0)+d)=I a i 0+I b i 0+d:=by rw[be (I a i 0+I b i 0) Y Y,be _ Y Y]
   rw[D];generalize ht:I a i 0+I b i 0+d=s;have H:ay .u32 (s.tmod 4294967296)=s%4294967296:=by rw[l7 Y,nO _ Y Y]
   have K:ay .u64 (s.tdiv 4294967296)=s/4294967296:=by rw[wc Y,be _ Y Y]
   have z:=f.next g n p;simp only[ht]at z;refine rr J<|rt J<|bU<|rt J<|a6 (i+1,o.set i<|s%4294967296,s/4294967296) z yY<|wk ⟨sR J,sR J,sR J,sR J,sE J ?_,sE J ?_,ll⟩ ⟨bE J ?_,ll⟩
   .exact bY K
   .rfl
   .rw[H,cx]
  .have g:¬i<M:=by simpa using g
   have N:i=M:=by have:=f.i;simp only at this;omega
   refine bD<|aR<|dm 2001000 J J J<|rb ?_;refine rc J J (A9 _)<|re J<|cd J ?_;have k:=f.v;simp only at k;have t:cc o:=f.r;have P:=ov t;have Q:=nb t;have l:val (c i a)=val a:=nM a i Y;have m:val (c i b)=val b:=nM b i Y;have T:=ov n;have W:=ov p;have S:(4294967296:V)^Z a<=4294967296^(M-1):=wb Y;have U:(4294967296:V)^Z b<=4294967296^(M-1):=wb Y;have e:(4294967296:V)^M=4294967296^(M-1)*4294967296:=by rw[<-gG];congr 1;omega
   have A:=kS<|M-1;have q:d=0:=by
    rw[l,m,N,e]at k;rcases Int.lt_or_le d 1 with w|y
    .omega
    .have:d=1:=by omega
     subst this;omega
   rw[qF t];subst q;rw[l,m]at k;simp only[ox,tf]at k;rw[k]
end Go.El
