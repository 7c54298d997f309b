/- Ranges over functions, part 6: a contract out of a run. Own work; no condition. -/
import Derived.Test.YtceihkmakfdcnaaGreatProg
import Derived.KernelRfl
import Derived.Test.YtceihkmakfdcnaaGreatB5
import Derived.Test.YtceihkmakfdcnaaGreatB4
import Derived.Test.YtceihkmakfdcnaaGreatB2
import Derived.Test.YtceihkmakfdcnaaGreatB1
set_option linter.all false
set_option maxHeartbeats 16000000
set_option maxRecDepth 100000
open Array renaming replicate->qo
open Bool renaming false->ah,true->ae
open Go renaming Program->bI,FuncId->iK,Value->aR,World->cx,Oper->aX,Code->eU,TypeId->dH
open Go.Act renaming put->gT
open Go.Deferred renaming ofValue->xq
open Go.El renaming K0->F,ij->U,dj->j,ahT->r
open Go.Instr renaming sliceBounds->wZ
open Go.IntKind renaming wrap->aw,signed->Ip
open Go.Proofs.Tryz renaming prog->c
open Go.Region renaming wanted->gx
open Go.World renaming putObj_heap_other->BO,putObj_heap_same->SC,alloc_heap_new->SP
open Int renaming toNat->af
open List renaming length->Z,replicate->bl,drop->ay,getD->I,range->cw,range'->H5,take->M
open Nat renaming ble->dU,blt->dt,strongRecOn->HZ
open Option renaming some->ad
open _root_ renaming Nat->V,List->E,Int->Y
namespace Go.El
open Go Go.Proofs Go.RowKit
noncomputable def aaC(f:TT)(a:Func)(dep:V)(g:AV):iO SR->Bool
 | .dk s=>(match EG f dep a.ntmps s.t s.ms a.results.toList with
  |some b=>BC (λd=>U d s.ms.flatten) b g
  |none=>ah)
 | .ret s=>(match EG f dep a.ntmps s.t s.ms a.results.toList with
  |some b=>BC (λd=>U d s.ms.flatten) b g
  |none=>ah)
 |_=>ah
noncomputable def SW(P:bI)(b:TT)(a:iK->E AV->Ms->Option (E AV×AV))(d g h:V)(f:iK)(vs:E AV)(i:AV):Bool:=match P.funcs[f]? with
 |some fn=>(match fn.body with
  |some c=>(match fn.name != "runtime.NumGoroutine" &&dU (Z vs) fn.ntmps&&dU fn.ntmps 4096 with
   |true=>aaC b fn (eT fn.ntmps) i<|gen (MF P b a d g (eT fn.ntmps) fn.ntmps) (MG (eT fn.ntmps) fn.ntmps) h c ⟨m8 (eT fn.ntmps) vs 0 .e,[[]],0⟩
   |false=>ah)
  |none=>ah)
 |none=>ah
section
variable{P:bI}{tt:TT}{dD:iK->E AV->Ms->Option (E AV×AV)}
def SX{n:Func}{a:Array aR}{o:Ending->cx->Prop}{B:V}:∀(mk:E V)(W:cx),(∀d∈mk,W.heap[d]? =ad (.deferred<|ad [])/\B<=d)->mk.Nodup->
  (∀f,WX B W f->∃v,(results n a).run P f= .ok v f/\o (.returned v) f)->LeavesInM (di none) 0 P n a o (mk.map jz) .returning W
 |[],W,_,_,h=>h W<|WX.refl _ _
 |d::mk,W,hm,g,h=>by
  have i:=hm d ax;have p:=WX.putObj (B:=B) (.deferred none) i.1 J i.2;refine⟨ax,.inl ⟨d,_,J,run_takeDeferred i.1,?_⟩⟩;refine SX mk _ (λk b=>⟨?_,(hm k<|by simp[b]).2⟩) (AL.1 g).2<|λf l=>h f<|p.trans l;have m:k≠d:=λe=>(AL.1 g).1<|e▸b
  rw[BO m];exact(hm k<|by simp[b]).1
def aaD(jQ:P.follows .mixedOrders=ae)(b7:cq P tt=ae)(zj:∀f vs ms mC T,dD f vs ms=ad (mC,T)->ao P f mC T) fu fy fr{f}{a}{ew}(hf:P.funcs[f]? =ad a)(hb:a.body=ad ew)(p8:(a.name != "runtime.NumGoroutine")=ae){vs}(hle:Z vs<=a.ntmps)(gw:a.ntmps<=4096)
  {s:SR} {rr:iO SR} (iW:gen (MF P tt dD fu fy (eT a.ntmps) a.ntmps) (MG (eT a.ntmps) a.ntmps) fr ew ⟨m8 (eT a.ntmps) vs 0 .e,[[]],0⟩=rr) (hrr:rr= .dk s\/rr= .ret s) {T}(hr:EG tt (eT a.ntmps) a.ntmps s.t s.ms a.results.toList=ad T) (hm:cM vs=[]):CX P f vs [] 0 T s.ms.flatten s.k:=by
 refine⟨yQ,bf _,?_⟩
 intro F g W p hn m6 K
 have hn4:a.ntmps<=4^eT a.ntmps:=Si gw
 refine callsIn_wide.1<|callsIn_of_wp_marks (n:=0) (F:=di none) hf hb A ?_
 have Z':F.ds=[]:=K.defers.symm
 have X:(p.toArray++qo (a.ntmps-p.toArray.size) undef).size=a.ntmps:=bX
 have z:∀j v,(bm (eT a.ntmps) a.ntmps (m8 (eT a.ntmps) vs 0 .e) []).kn (.s j)=ad (.v v)->U j (dy 0 vs)=ad v:=by
  intro j v i;rw[Ej]at i;simp only at i;by_cases E:j<a.ntmps
  .rw[q E,BL _ vs 0 .e j G G,y6]at i;cases hl:U j (dy 0 vs)with
   |none=>rw[hl]at i;simp at i
   |some x=>rw[hl]at i;simp only[vH,aq,Info.v.injEq]at i;rw[i]
  .rw[y E]at i;simp at i
 have h0:aJ {F with n:=a.ntmps,ds:=[].map jz,rd:=none} (·<0) (bm (eT a.ntmps) a.ntmps (m8 (eT a.ntmps) vs 0 .e) ([[]]:Ms).flatten).kn g W {tmps:=p.toArray++qo (a.ntmps-p.toArray.size) undef,defers:=[]}:=by
  refine⟨X,J,λj v i=>?_,λd b hb=>?_,λd I b b' kk M=>?_,λL x h d l=>?_,λd x h=>?_,K.sub,K.below,K.le,K.fresh,K.fv⟩
  .have hl:=z j v i;have M:=K.dv j v A';have jh:=(zi vs 0 j v hl).1;have:(p.toArray++qo (a.ntmps-p.toArray.size) undef).getD j undef=p.toArray.getD j undef:=by rw[ls,ls,tO bX]
   rw[this];exact M
  .simp[bm,St.kn,U]at hb
  .simp[bm,St.kn,U]at M
  .cases L with
   |m j=>simp[bm,St.kn,U]at h
   |s j=>
    cases x with
    |b _=>simp[bm,St.kn]at h
    |v Y=>
     have:=(zi vs 0 j Y<|z j Y h).2 d l
     rw[hm]at this
     cases this
  .simp[bm,St.kn,U]at h
 have N:dO (eT a.ntmps) a.ntmps (m8 (eT a.ntmps) vs 0 .e) 0:=by
  intro j v i hv d l;rw[BL _ vs 0 .e j G G,y6]at hv;split at hv
  .rename_i u hu;cases hv;have:=(zi vs 0 j v hu).2 d l;rw[hm]at this;cases this
  .cases hv
 have zn:IR F (eT a.ntmps) a.ntmps ⟨m8 (eT a.ntmps) vs 0 .e,[[]],0⟩ {tmps:=p.toArray++qo (a.ntmps-p.toArray.size) undef,defers:=[]} W:=
  ⟨g,[],N,λd b hb=>(by simp[bw,mA]at hb),h0,λD hD=>(by cases hD),List.nodup_nil⟩
 have C:∀(H:Act)(w:cx),IR F (eT a.ntmps) a.ntmps s H w->LeavesInM (di none) 0 P a H.tmps (λe w=>∃v g',e= .returned v/\aJ {F with n:=1} (·<s.k) (St.kn ⟨[(0,T)],s.ms.flatten,0,[]⟩) g' w (m7 [v])) H.defers .returning w:=by
  intro H w O;let ⟨g',mk,lA,jI,h',mj,jR⟩:=O;have hd:H.defers=mk.map jz:=h'.defers;rw[hd];refine SX (B:=F.w0.heap.size) mk w mj jR ?_;intro W2 h;have o:=h'.wx h;have R:=Z3 hr;let ⟨u,hu,S⟩:=yP (P:=P) (tt:=tt) (st:=bm (eT a.ntmps) a.ntmps s.t s.ms.flatten) b7 o (fn:=a) (rs:=a.results.toList) ax R;have H9:=YR (tt:=tt) o R;refine⟨u,hu,u,g',J,⟨J,Z'.symm,?_,?_,?_,?_,?_,o.sub,o.below,o.le,o.fresh,o.fv⟩⟩
  .intro t x h;simp only[St.kn,U,bS]at h;let ⟨Y,Q,he⟩:=h;cases he;split at Q
   .rename_i e;subst e;cases Q;simpa[m7]using S
   .cases Q
  .intro d b hb;exact o.cA d b hb
  .intro d I b b' kk hb oq M h3;exact o.inj d I b b' kk hb oq M h3
  .intro L x h d l;cases L with
   |s t=>
    simp only[St.kn,U,bS]at h
    let ⟨Y,Q,he⟩:=h
    subst he
    split at Q
    .cases Q;exact H9 d l
    .cases Q
   |m j=>exact o.ak (.m j) x h d l
  .intro d x h;exact o.dn d x h
 have V:=aah (P:=P) (Fe:=di none) (alQ (F:=F) jQ b7 zj fu fy hn4) alP fr ew _ rr iW (by rcases hrr with e|e<;>rw[e]<;>simp) _ W zn
 refine wpIn_mono (F:=di none) V ?_
 intro e H w hp
 rcases hrr with e1|e1
 .rw[e1]at hp;obtain⟨rfl,O⟩:=hp;exact C H w O
 .rw[e1]at hp;obtain⟨rfl,O⟩:=hp;exact C H w O
def alW(k:P.follows .mixedOrders=ae)(l:cq P tt=ae)(d:∀f vs H m n,dD f vs H=ad (m,n)->ao P f m n) p t u{f}{vs}{v}
  (h:SW P tt dD p t u f vs v=ae) (o:cM vs=[]) (w:v.ak=[]):ao P f vs v:=by
 unfold SW at h
 split at h
 .rename_i C x;split at h
  .rename_i c B;split at h
   .rename_i g;simp only[cD]at g;let ⟨⟨a,hlen⟩,gw⟩:=g;unfold aaC at h;split at h
    .rename_i s b;split at h
     .rename_i n i;exact Ss (aaD k l d p t u x B a (cP hlen) (cP gw) b (.inl J) i o) o w h
     .cases h
    .rename_i s b;split at h
     .rename_i n i;exact Ss (aaD k l d p t u x B a (cP hlen) (cP gw) b (.inr J) i o) o w h
     .cases h
    .cases h
   .cases h
  .cases h
 .cases h
end
def dP:TT:=[
 (2,⟨.int .i64,1,8,[],[.i .i64]⟩),
 (3,⟨.int .i64,1,8,[],[.i .i64]⟩),
 (4,⟨.bool,1,1,[],[.b]⟩),
 (5,⟨.int .u8,1,1,[],[.i .u8]⟩),
 (6,⟨.int .u8,1,1,[],[.i .u8]⟩),
 (9,⟨.str,1,16,[],[.t]⟩),
 (10,⟨.str,1,16,[],[.t]⟩),
 (11,⟨.str,1,16,[],[.t]⟩),
 (12,⟨.int .u64,1,8,[],[.i .u64]⟩),
 (21,⟨.int .i32,1,4,[],[.i .i32]⟩),
 (22,⟨.sl 53,1,24,[],[.s]⟩),
 (23,⟨.st,2,32,[(0,1,ah),(1,1,ah)],[.i .u8,.s]⟩),
 (24,⟨.st,2,32,[(0,1,ah),(1,1,ah)],[.i .u8,.s]⟩),
 (25,⟨.sl 57,1,24,[],[.s]⟩),
 (26,⟨.sl 57,1,24,[],[.s]⟩),
 (28,⟨.sl 44,1,24,[],[.s]⟩),
 (29,⟨.sl 44,1,24,[],[.s]⟩),
 (33,⟨.int .i64,1,8,[],[.i .i64]⟩),
 (40,⟨.sl 142,1,24,[],[.s]⟩),
 (41,⟨.st,2,32,[(0,1,ah),(1,1,ah)],[.b,.s]⟩),
 (42,⟨.st,2,32,[(0,1,ah),(1,1,ah)],[.b,.s]⟩),
 (43,⟨.st,4,64,[(0,2,ae),(2,2,ae)],[.b,.s,.b,.s]⟩),
 (44,⟨.st,4,64,[(0,2,ae),(2,2,ae)],[.b,.s,.b,.s]⟩),
 (51,⟨.arr 3 26,3,72,[],[.s,.s,.s]⟩),
 (53,⟨.int .i8,1,1,[],[.i .i8]⟩),
 (55,⟨.arr 2 26,2,48,[],[.s,.s]⟩),
 (56,⟨.st,3,3,[(0,1,ah),(1,1,ah),(2,1,ah)],[.i .i8,.i .i8,.i .u8]⟩),
 (57,⟨.st,3,3,[(0,1,ah),(1,1,ah),(2,1,ah)],[.i .i8,.i .i8,.i .u8]⟩),
 (68,⟨.sl 26,1,24,[],[.s]⟩),
 (69,⟨.arr 3 68,3,72,[],[.s,.s,.s]⟩),
 (70,⟨.sl 29,1,24,[],[.s]⟩),
 (77,⟨.sl 129,1,24,[],[.s]⟩),
 (78,⟨.st,1,24,[(0,1,ah)],[.s]⟩),
 (79,⟨.st,1,24,[(0,1,ah)],[.s]⟩),
 (80,⟨.arr 2 79,2,48,[],[.s,.s]⟩),
 (81,⟨.arr 8 29,8,192,[],[.s,.s,.s,.s,.s,.s,.s,.s]⟩),
 (82,⟨.sl 132,1,24,[],[.s]⟩),
 (83,⟨.sl 132,1,24,[],[.s]⟩),
 (90,⟨.sl 22,1,24,[],[.s]⟩),
 (101,⟨.map 3 104,1,8,[],[.m]⟩),
 (103,⟨.st,2,48,[(0,1,ah),(1,1,ah)],[.s,.s]⟩),
 (104,⟨.st,2,48,[(0,1,ah),(1,1,ah)],[.s,.s]⟩),
 (110,⟨.sl 114,1,24,[],[.s]⟩),
 (113,⟨.st,2,32,[(0,1,ah),(1,1,ah)],[.s,.i .i64]⟩),
 (114,⟨.st,2,32,[(0,1,ah),(1,1,ah)],[.s,.i .i64]⟩),
 (126,⟨.arr 8 3,8,64,[],[.i .i64,.i .i64,.i .i64,.i .i64,.i .i64,.i .i64,.i .i64,.i .i64]⟩),
 (127,⟨.arr 8 3,8,64,[],[.i .i64,.i .i64,.i .i64,.i .i64,.i .i64,.i .i64,.i .i64,.i .i64]⟩),
 (129,⟨.arr 5 53,5,5,[],[.i .i8,.i .i8,.i .i8,.i .i8,.i .i8]⟩),
 (131,⟨.st,12,128,[(0,4,ae),(4,8,ae)],[.b,.s,.b,.s,.i .i64,.i .i64,.i .i64,.i .i64,.i .i64,.i .i64,.i .i64,.i .i64]⟩),
 (132,⟨.st,12,128,[(0,4,ae),(4,8,ae)],[.b,.s,.b,.s,.i .i64,.i .i64,.i .i64,.i .i64,.i .i64,.i .i64,.i .i64,.i .i64]⟩),
 (142,⟨.int .u32,1,4,[],[.i .u32]⟩),
 (150,⟨.int .u64,1,8,[],[.i .u64]⟩),
 (161,⟨.sl 42,1,24,[],[.s]⟩),
 (167,⟨.sl 150,1,24,[],[.s]⟩),
 (173,⟨.sl 178,1,24,[],[.s]⟩),
 (176,⟨.sl 167,1,24,[],[.s]⟩),
 (177,⟨.st,2,32,[(0,1,ah),(1,1,ah)],[.s,.i .i64]⟩),
 (178,⟨.st,2,32,[(0,1,ah),(1,1,ah)],[.s,.i .i64]⟩),
 (181,⟨.sl 161,1,24,[],[.s]⟩),
 (192,⟨.int .u64,1,8,[],[.i .u64]⟩),
 (200,⟨.st,2,48,[(0,1,ah),(1,1,ah)],[.s,.s]⟩),
 (201,⟨.st,2,48,[(0,1,ah),(1,1,ah)],[.s,.s]⟩),
 (207,⟨.st,2,48,[(0,1,ah),(1,1,ah)],[.s,.s]⟩),
 (208,⟨.st,2,48,[(0,1,ah),(1,1,ah)],[.s,.s]⟩),
 (220,⟨.st,2,32,[(0,1,ah),(1,1,ah)],[.s,.i .u64]⟩),
 (221,⟨.st,2,32,[(0,1,ah),(1,1,ah)],[.s,.i .u64]⟩),
 (226,⟨.sl 221,1,24,[],[.s]⟩),
 (230,⟨.int .i64,1,8,[],[.i .i64]⟩),
 (264,⟨.int .u64,1,8,[],[.i .u64]⟩),
 (274,⟨.arr 4 150,4,32,[],[.i .u64,.i .u64,.i .u64,.i .u64]⟩),
 (277,⟨.sl 3,1,24,[],[.s]⟩),
 (286,⟨.st,4,40,[(0,1,ah),(1,1,ah),(2,1,ah),(3,1,ah)],[.p,.p,.p,.t]⟩),
 (287,⟨.st,4,40,[(0,1,ah),(1,1,ah),(2,1,ah),(3,1,ah)],[.p,.p,.p,.t]⟩),
 (288,⟨.arr 0 16,0,0,[],[]⟩),
 (291,⟨.int .u8,1,1,[],[.i .u8]⟩),
 (292,⟨.int .u8,1,1,[],[.i .u8]⟩),
 (295,⟨.int .i32,1,4,[],[.i .i32]⟩),
 (296,⟨.int .i32,1,4,[],[.i .i32]⟩),
 (297,⟨.st,11,48,[(0,1,ah),(1,1,ah),(2,1,ah),(3,1,ah),(4,1,ah),(5,1,ah),(6,1,ah),(7,1,ah),(8,1,ah),(9,1,ah),(10,1,ah)],[.i .u64,.i .u64,.i .u32,.i .u8,.i .u8,.i .u8,.i .u8,.f,.p,.i .i32,.i .i32]⟩)]
def cv:cq c dP=ae:=eL
def MX:Tryz.prog.follows .mixedOrders=ae:=eL
abbrev al:ET:= .int .u32
abbrev ar:ET:= .int .u64
abbrev nb:ET:= .int .i64
abbrev I8:ET:= .int .i8
abbrev cI(n:Y):AV:= .c<|.I .i64 n
abbrev cU(n:Y):AV:= .c<|.I .u64 n
abbrev cW(n:Y):AV:= .c<|.I .u32 n
abbrev cB(b:Bool):AV:= .c<|.B b
abbrev cS(T:ET)(xs:E T.den):AV:= .c<|.S T xs
abbrev aZ(b:Y):AV:= .a<|av .z b
abbrev aQ(b:Rat):AV:= .a<|av .q b
section
variable{n:V}{Q:gM}{sl sl':E (V×AV)}{mem cu:E (V×aD)}{nx:V}{gd gd':E (V×Bool)}{id:V}{ops:Array aX}{draw:Bool}{y:eU}{p:Pr}{ks dN:E Ks}{i i' n0 cJ:V}
def rr(h:runs dP n nx draw ops.toList ops.toList 0 ⟨sl,mem,nx,gd⟩ .t []=([],i',⟨sl',cu,n0,gd'⟩,p,ks))(b:TR c n y ⟨sl',cu,nx+1,[]⟩ Q)
  (hp:p:=by exact ly) (d:(!draw||pX ops.toList ks)=ae:=by kernel_rfl) (a:dU ops.size 1000=ae:=by rfl):TR c n (.seq (.region id ops draw) y) ⟨sl,mem,nx,gd⟩ Q:=
 j (K1 MX<|kh cv h hp<|G4 b d a)
def rt(h:runs dP n nx draw ops.toList ops.toList 0 ⟨sl,mem,nx,gd⟩ .t []=([],i',⟨sl',cu,n0,gd'⟩,p,ks))(b:fA n .normal ⟨sl',cu,nx+1,[]⟩ Q)
  (hp:p:=by exact ly) (d:(!draw||pX ops.toList ks)=ae:=by kernel_rfl) (a:dU ops.size 1000=ae:=by rfl):TR c n (.region id ops draw) ⟨sl,mem,nx,gd⟩ Q:=
 K1 MX (kh cv h hp<|G4 b d a)
def rb(h:RG c n ops draw nx 0 ops.toList ⟨sl,mem,nx,gd⟩ [] (λa=>TR c n y a Q)):TR c n (.seq (.region id ops draw) y) ⟨sl,mem,nx,gd⟩ Q:=j<|K1 MX h
def cK(h:RG c n ops draw nx 0 ops.toList ⟨sl,mem,nx,gd⟩ [] (λa=>fA n .normal a Q)):TR c n (.region id ops draw) ⟨sl,mem,nx,gd⟩ Q:=K1 MX h
variable{R:St->Prop}{os:E aX}{d f:V}{args:Array Operand}{iz:Array dH}{ty:dH}{pos:String}{jA:Array Edge}{eB:E aX}{vs:E AV}{r:AV}
def rc(h:runs dP n nx draw ops.toList os i ⟨sl,mem,n0,gd⟩ .t ks=(⟨ad d,.call ⟨.value<|.func f,args,iz⟩,ty,pos,jA,none⟩::eB,i',⟨sl',cu,cJ,gd'⟩,p,dN))(b:jw ⟨sl',cu,cJ,gd'⟩ args.toList=ad vs)(g:ao c f vs r)
  (k:RG c n ops draw nx (i'+1) eB ⟨(d,r)::sl',cu,cJ,gd'⟩ (g8 draw dN (bJ args.toList,[.s d])) R)
  (hp:p:=by exact ly) (l:cM vs=[]:=by rfl) (a:dt d n=ae:=by rfl):RG c n ops draw nx i os ⟨sl,mem,n0,gd⟩ ks R:=
 kh cv h hp (aiM b g k l a)
def gO{m g}{a b}(h:runs dP n nx draw ops.toList os i ⟨sl,mem,n0,gd⟩ .t ks=(⟨ad d,.call ⟨.value<|.func f,args,iz⟩,ty,pos,jA,ad (m,a)⟩::eB,i',⟨sl',cu,cJ,gd'⟩,p,dN))(o:rj ops.toList m=ad g)(u:U g sl'=ad (.c<|.B b))(k:b=a)(v:jw ⟨sl',cu,cJ,gd'⟩ args.toList=ad vs)(w:ao c f vs r)
  (x:RG c n ops draw nx (i'+1) eB ⟨(d,r)::sl',cu,cJ,gd'⟩ (g8 draw dN (.s g::bJ args.toList,[.s d])) R)
  (hp:p:=by exact ly) (H:cM vs=[]:=by rfl) (l:dt d n=ae:=by rfl):RG c n ops draw nx i os ⟨sl,mem,n0,gd⟩ ks R:=
 kh cv h hp (aiN o u k v w x H l)
def re(h:runs dP n nx draw ops.toList os i ⟨sl,mem,n0,gd⟩ .t ks=([],i',⟨sl',cu,cJ,gd'⟩,p,dN))(b:R ⟨sl',cu,nx+1,[]⟩)
  (hp:p:=by exact ly) (ho:(!draw||pX ops.toList dN)=ae:=by kernel_rfl) (a:dU ops.size 1000=ae:=by rfl):RG c n ops draw nx i os ⟨sl,mem,n0,gd⟩ ks R:=
 kh cv h hp (G4 b ho a)
def rg t{b}{o}(h:runs dP n nx draw ops.toList os i ⟨sl,mem,n0,gd⟩ .t ks=(o::eB,i',⟨sl',cu,cJ,gd'⟩,p,dN))(a:U t sl'=ad (.c<|.B b))
  (g:b=ae->RG c n ops draw nx i' (o::eB) ⟨(t,.c<|.B ae)::sl',cu,cJ,(t,ae)::gd'⟩ dN R) (k:b=ah->RG c n ops draw nx i' (o::eB) ⟨(t,.c<|.B ah)::sl',cu,cJ,(t,ah)::gd'⟩ dN R)
  (l:p:=by exact ly):RG c n ops draw nx i os ⟨sl,mem,n0,gd⟩ ks R:=
 kh cv h l (aiO t a g k)
def rm{t:V}{x}T(m:V)(h:runs dP n nx draw ops.toList os i ⟨sl,mem,n0,gd⟩ .t ks=(⟨ad d,.makeSlice t x x,ty,pos,jA,none⟩::eB,i',⟨sl',cu,cJ,gd'⟩,p,dN)){k}{v}(P:St.ev ⟨sl',cu,cJ,gd'⟩ x=ad (.c<|.I k v)){b}{L a}(l:U t dP=ad L)(o:L.kind= .sl b)(u:U b dP=ad a)(w:a.size=T.n)
  (W:∀g:Gh,aY g (av T T.dG) (a.zero.map ZV.eY)) (hv:v=(m:Y)) (hb:m*a.bytes<=281474976710656) (B:m*T.n<=140737488355328)
  (hk:RG c n ops draw nx (i'+1) eB ⟨(d,.c<|.X<|1000000*nx+1000*i')::sl',(1000000*nx+1000*i',.vec b T<|bl m T.dG)::cu,cJ,gd'⟩ (g8 draw dN (bJ [x,x],[.s d,.m<|1000000*nx+1000*i'])) R)
  (hp:p:=by exact ly) (H:dt d n=ae:=by rfl):RG c n ops draw nx i os ⟨sl,mem,n0,gd⟩ ks R:=
 kh cv h hp (aiV cv T m P hv l o u w W hb B hk H)
end
def mE k g:aY g (av (.int k)<|ET.dG<|.int k) ([ZV.i k].map ZV.eY):=⟨_,_,J,J,J⟩
def aaF H:Da H [] (.slice none 0 0):=⟨none,0,J,aT _,ax,.inl J⟩
def MM g:aY g (av .z (0:Y)) ([ZV.b,ZV.s].map ZV.eY):=Kt ⟨_,J,aaF _⟩
def SZ g:aY g (av (.pr .z .z) ((0,0):Y×Y)) ([ZV.b,ZV.s,ZV.b,ZV.s].map ZV.eY):=aY.append (MM g)<|MM g
section
variable{n:V}{Q:gM}{sl sl':E (V×AV)}{mem cu:E (V×aD)}{nx:V}{gd gd':E (V×Bool)}{id:V}{ops:Array aX}{draw:Bool}{y y0:eU}{p q:Pr}{ks dN LJ:E Ks}{i i' n0 cJ:V}{st:St}{fn:Func}{rs:E ResultVar}{r r':AV}
variable{R:St->Prop}{os:E aX}{d f:V}{args:Array Operand}{iz:Array dH}{ty:dH}{pos:String}{jA:Array Edge}{eB:E aX}{vs:E AV}
def atR(b:lu dP st rs=ad r)(a:fn.results=rs.toArray:=by rfl)(g:r.ak=[]:=by rfl):fA n .ret st (A8 c fn r):=iJ cv b (bg.refl _) a g
def fg(b:lu dP st rs=ad r')(g:r'=r)(a:fn.results=rs.toArray:=by rfl)(h:r.ak=[]:=by rfl):fA n .ret st (A8 c fn r):=iJ cv b (bg.of_eq g) a h
def c7(b:lu dP st rs=ad r)(a:fn.results=rs.toArray:=by rfl)(g:r.ak=[]:=by rfl):TR c n .ret st (A8 c fn r):=bV<|atR b a g
def bY(b:lu dP st rs=ad r')(g:r'=r)(a:fn.results=rs.toArray:=by rfl)(h:r.ak=[]:=by rfl):TR c n .ret st (A8 c fn r):=bV<|fg b g a h
def bt{a:Type}{b:a->St}{g:a->Prop}{k:a->V}{x}(h:fA n .normal st Q):TR c n (.exit id) st (tM c y0<|G5 b g k x<|xf id Q):=nL<|rk<|ov<|nM h
def aE(h:TR c n y st Q):TR c n .skip st (tM c y Q):=dc<|aK h
def bL(h:TR c n y st Q):fA n .normal st (xf id<|tM c y Q):=fB<|aK h
def bH(h:runs dP n nx draw ops.toList ops.toList 0 ⟨sl,mem,nx,gd⟩ .t []=(⟨ad d,.call ⟨.value<|.func f,args,iz⟩,ty,pos,jA,none⟩::eB,i',⟨sl',cu,cJ,gd'⟩,p,dN))(m:jw ⟨sl',cu,cJ,gd'⟩ args.toList=ad vs)(o:ao c f vs r)
 {b}{a}{u v}{g}(w:runs dP n nx draw ops.toList eB (i'+1) ⟨(d,r)::sl',cu,cJ,gd'⟩ .t (g8 draw dN (bJ args.toList,[.s d]))=([],v,⟨b,a,u,g⟩,q,LJ)) (x:TR c n y ⟨b,a,nx+1,[]⟩ Q)
  (B:p:=by exact ly) (H:cM vs=[]:=by rfl) (k:dt d n=ae:=by rfl) (L:q:=by first|trivial| (simp only[Pr.an,Pr.h,num,fX,true_and,and_true];first|done|omega)| (simp[Pr.an,Pr.h,num,fX];done)| (simp[Pr.an,Pr.h,num,fX];omega)) (P:(!draw||pX ops.toList LJ)=ae:=by kernel_rfl) (l:dU ops.size 1000=ae:=by rfl):TR c n (.seq (.region id ops draw) y) ⟨sl,mem,nx,gd⟩ Q:=
 rb (rc h m o (re w x L P l) B H k)
def aL{f}{fn}{l}{args}{r}(m:Tryz.prog.funcs[f]? =ad fn)(h:TR c n l ⟨dy 0 args,[],0,[]⟩ (A8 c fn r))(o:fn.body=ad l:=by exact Ia)(s:fn.ntmps=n:=by exact Ia)(b:dU args.length n=ae:=by exact Ia)(g:cM args=[]:=by exact Ia)(k:r.ak=[]:=by exact Ia)(a:(fn.name != "runtime.NumGoroutine")=ae:=by decide):ao c f args r:=DQ m o s b g k a h
end
section
variable{n:V}{sl sl':E (V×AV)}{mem cu:E (V×aD)}{nx:V}{gd gd':E (V×Bool)}{ops:Array aX}{draw:Bool}{p:Pr}{ks dN:E Ks}{i i' n0 cJ:V}
variable{R:St->Prop}{os:E aX}{d:V}{ty:dH}{pos:String}{jA:Array Edge}{eB:E aX}
def rl T xs{t b:V}{a}(h:runs dP n nx draw ops.toList os i ⟨sl,mem,n0,gd⟩ .t ks=(⟨ad d,.buildSlice t b a,ty,pos,jA,none⟩::eB,i',⟨sl',cu,cJ,gd'⟩,p,dN)){m}{l}(o:vN dP ⟨sl',cu,cJ,gd'⟩ t b a.toList=ad (m,l,xs.flatMap<|av T))
  (u:RG c n ops draw nx (i'+1) eB ⟨(d,.c<|.S T xs)::sl',cu,cJ,gd'⟩ (g8 draw dN (bJ (Op.buildSlice t b a).operands.toList,[.s d])) R) (v:l.size=T.n:=by rfl) (g:Z xs=b:=by rfl) (f:dU (b*T.n) 16777216=ae:=by rfl)
  (hp:p:=by exact ly) (k:dt d n=ae:=by rfl):RG c n ops draw nx i os ⟨sl,mem,n0,gd⟩ ks R:=
 kh cv h hp (aiY cv T xs o v g f u k)
def gP T xs{t b:V}{a}(h:runs dP n nx draw ops.toList os i ⟨sl,mem,n0,gd⟩ .t ks=(⟨ad d,.buildSlice t b a,ty,pos,jA,none⟩::eB,i',⟨sl',cu,cJ,gd'⟩,p,dN)){l}{o}(u:vN dP ⟨sl',cu,cJ,gd'⟩ t b a.toList=ad (l,o,xs.flatMap<|av T))
  (v:RG c n ops draw nx (i'+1) eB ⟨(d,.c<|.X<|1000000*nx+1000*i')::sl',(1000000*nx+1000*i',.vec l T xs)::cu,cJ,gd'⟩ (g8 draw dN (bJ (Op.buildSlice t b a).operands.toList,[.s d,.m<|1000000*nx+1000*i'])) R) (w:o.size=T.n:=by rfl) (g:Z xs=b:=by rfl) (f:dU (b*T.n) 16777216=ae:=by rfl)
  (x:p:=by exact ly) (k:dt d n=ae:=by rfl):RG c n ops draw nx i os ⟨sl,mem,n0,gd⟩ ks R:=
 kh cv h x (aiZ cv T xs u w g f v k)
def ux{t:V}{x b}{a m k}{o}{T}{xs}{s}{u}(f:T.den)(h:runs dP n nx draw ops.toList os i ⟨sl,mem,n0,gd⟩ .t ks=(⟨none,.store t x b,ty,pos,jA,none⟩::eB,i',⟨sl',cu,cJ,gd'⟩,p,dN))
  (v:St.ev ⟨sl',cu,cJ,gd'⟩ x=ad (.c<|.Y a m k 0)) (w:U a cu=ad (.vec o T xs)) (B:St.ev ⟨sl',cu,cJ,gd'⟩ b=ad s) (g:kI s=ad (av T f)) (H:k<Z xs)
  (L:RG c n ops draw nx (i'+1) eB ⟨sl',(a,.vec o T<|xs.set k f)::cu,cJ,gd'⟩ (g8 draw dN (bJ [x,b]++cY [a],[.m a])) R) (P:T.n=m:=by rfl) (l:ou dP t=ad (m,u):=by rfl)
  (hp:p:=by exact ly):RG c n ops draw nx i os ⟨sl,mem,n0,gd⟩ ks R:=
 kh cv h hp (aiW cv v w B P l f g H L)
def ra{x o}{Q W}{a}{k E2:dH}{T}{xs b}{ti f l}(h:runs dP n nx draw ops.toList os i ⟨sl,mem,n0,gd⟩ .t ks=(⟨ad d,.call ⟨.builtin .append,#[x,o],#[Q,W]⟩,ty,pos,jA,none⟩::eB,i',⟨sl',cu,cJ,gd'⟩,p,dN))
  (hx:St.ev ⟨sl',cu,cJ,gd'⟩ x=ad (.c<|.X a)) (hl:U a cu=ad (.vec k T xs)) (hy:St.ev ⟨sl',cu,cJ,gd'⟩ o=ad (.c<|.S T b)) (u:U Q dP=ad ti) (hk:ti.kind= .sl k) (g:U W dP=ad f) (v:f.kind= .sl E2) (w:U k dP=ad l)
  (hb:((Z xs+Z b)+(Z xs+Z b)/4+192)*l.bytes<=281474976710656) (B:(Z xs+Z b)*T.n<=140737488355328)
  (hr:RG c n ops draw nx (i'+1) eB ⟨(d,.c<|.X<|1000000*nx+1000*i')::sl',(1000000*nx+1000*i',.vec k T<|xs++b)::sF a cu,cJ,gd'⟩ (g8 draw dN (bJ [x,o]++cY [a],[.s d,.m<|1000000*nx+1000*i',.m a])) R) (H:l.size=T.n:=by rfl) (L:Z l.zero=T.n:=by rfl)
  (hp:p:=by exact ly) (P:dt d n=ae:=by rfl):RG c n ops draw nx i os ⟨sl,mem,n0,gd⟩ ks R:=
 kh cv h hp (ai' cv hx hl hy u hk g v w H L hb B hr P)
def ran{x k}{P Q}{l E2:dH}{T}{a}{W b g}(h:runs dP n nx draw ops.toList os i ⟨sl,mem,n0,gd⟩ .t ks=(⟨ad d,.call ⟨.builtin .append,#[x,k],#[P,Q]⟩,ty,pos,jA,none⟩::eB,i',⟨sl',cu,cJ,gd'⟩,p,dN))
  (hx:St.ev ⟨sl',cu,cJ,gd'⟩ x=ad (.c<|.V<|.slice none 0 0)) (hy:St.ev ⟨sl',cu,cJ,gd'⟩ k=ad (.c<|.S T a)) (o:U P dP=ad W) (hk:W.kind= .sl l) (f:U Q dP=ad b) (u:b.kind= .sl E2) (v:U l dP=ad g)
  (hb:(Z a+Z a/4+192)*g.bytes<=281474976710656) (w:Z a*T.n<=140737488355328)
  (hr:RG c n ops draw nx (i'+1) eB ⟨(d,.c<|.X<|1000000*nx+1000*i')::sl',(1000000*nx+1000*i',.vec l T a)::cu,cJ,gd'⟩ (g8 draw dN (bJ [x,k],[.s d,.m<|1000000*nx+1000*i'])) R) (B:g.size=T.n:=by rfl) (H:Z g.zero=T.n:=by rfl)
  (hp:p:=by exact ly) (L:dt d n=ae:=by rfl):RG c n ops draw nx i os ⟨sl,mem,n0,gd⟩ ks R:=
 kh cv h hp (aja cv hx hy o hk f u v B H hb w hr L)
end
def aaG(W:cx)(H:FH)(f:dH)(T:ET)(xs:E T.den)(g:Ending)(d:cx):Prop:=
 ∃v a,g= .returned v/\ic (λb=>W.heap.size<=b) ⟨a,λ_=>v⟩ d 0 (.vec f T xs)/\cE H a/\(∀b o,b<W.heap.size->a b o=H b o)/\Sub a d/\Below W.heap.size W d
structure oz(P:bI)(f:iK)(args:List AV)(E:dH)(T:ET)(xs:List T.den):Prop where
 call:mZ P f=ae
 spec:∀H W vs,Sub H W->fG ⟨H,ja⟩ args vs->Calls P f vs.toArray W (aaG W H E T xs)
def aaH(P:bI)(d:Func)(f:dH)(T:ET)(xs:E T.den):gM:=λF e a W=>(∀b,¬F.own b)->bodyPost P d (aaG F.w0 F.H0 f T xs) e a W
section
variable{P:bI}{tt:TT}{n:V}{st:St}
def Ib(p:cq P tt=ae){L}{t id}{s}{T}{xs}(Q:U t st.sl=ad (.c<|.X id))(hm:U id st.mem=ad (.vec s T xs))(w:L.results= #[.tmp t]:=by rfl):fA n .ret st (aaH P L s T xs):=by
 intro F K g W a h d;let ⟨u,hu,f⟩:=yP (rs:=[.tmp t]) (v:= .c<|.X id) p h w (by simp[lu,oO,Q]);have i:=h.cA id (.vec s T xs) (by simp[St.kn,hm]);have l:u=g.γ id:=f;refine⟨h.defers.trans K.ds,u,hu,u,g.H,J,?_,h.le,λb o e=>h.fresh b o e<|d b,h.sub,⟨h.below.os,h.below.tape,h.below.output,h.below.size,λk j=>h.below.block k j<|d k⟩⟩;rcases i with⟨x,B⟩|⟨b,C,vs,x,B,q,r,y,z,m,A⟩
 .exact .inl ⟨by rw[l];exact x,B⟩
 .refine .inr ⟨b,C,vs,by rw[l];exact x,B,q,r,y,z,?_,A⟩;rcases m with m|m
  .exact m
  .exact(d b m).elim
def Ic{f}{g}{L}{args}{Q}{T}{xs}(hf:P.funcs[f]? =ad g)(hb:g.body=ad L)(hN:g.ntmps=n)(i:dU args.length n=ae)(w:cM args=[])(p8:(g.name != "runtime.NumGoroutine")=ae)
  (h:TR P n L ⟨dy 0 args,[],0,[]⟩ (aaH P g Q T xs)):oz P f args Q T xs:=by
 refine⟨yQ,?_⟩
 intro H W vs l d
 refine calls_of_wp hf hb ?_
 have C:=vI d
 have i:=cP i
 refine wp_mono (h {w0:=W,H0:=H,n:=n} ⟨J,bf _,J,J⟩ ⟨H,ja⟩ W _ ⟨?_,J,?_,?_,?_,?_,?_,l,⟨J,J,J,aT _,λ_ _ _=>rfl⟩,cE.refl _,λ_ _ _ _=>rfl,λ_ h=>absurd h<|tN _⟩)<|λe a D X=>X<|λ_ h=>h
 .simp[hN];omega
 .intro t v K;simp only[St.kn,bS]at K;let ⟨x,hx,he⟩:=K;cases he;let ⟨_,u,hu,q,_⟩:=lv args vs 0 d t v hx;have o:vs[t]? =ad u:=vJ;have jh:t<Z vs:=(pS.1 o).1;have:(vs.toArray++qo (g.ntmps-vs.toArray.size) undef).getD t undef=u:=by rw[ls,tO yR];simp[o]
  rw[this];exact q
 .intro p b e;simp[St.kn,U]at e
 .intro p r b F k e;simp[St.kn,U]at e
 .intro k x e p B;cases k with
  |m j=>simp[St.kn,U]at e
  |s t=>
   simp only[St.kn,bS]at e
   let ⟨y,z,he⟩:=e
   subst he
   let ⟨_,u,_,_,A⟩:=lv args vs 0 d t y z
   have:=A p B
   rw[w]at this
   cases this
 .intro p x e;simp[St.kn,U]at e
def alY{n l}{ops}{i}{o:aX}(ho:ops[i]? =ad o)(hg:o.guard=none){d:V}(hd:o.dst=ad d)(df:d<n){f}{args}{iz}(bO:o.op= .call ⟨.value<|.func f,args,iz⟩)
 {st}{vs}{aU:dH} {T:ET} {xs:E T.den} (hv:jw st args.toList=ad vs) (hm:cM vs=[]) (hf:oz P f vs aU T xs):lr P n ops i st ((st.pm l<|.vec aU T xs).put d<|.c<|.X l) l (bJ args.toList,[.s d,.m l]):=by
 refine⟨args.toList.flatMap<|cH st,[(.s d,ad<|.v<|.c<|.X l),(.m l,ad<|.b<|.vec aU T xs)],?_,?_,DE st d l _ _,eI st _,λk hk=>jG⟩
 .intro F jZ Q z σ g W a K q aS S hK;have A:=(A5 aS st _ _ hv S).iy (γ:=ja) hm;have hc:=hf.spec g.H W _ aS.sub A;unfold wpOp;simp only[ho,gx,hg,cd];refine .inl ?_;unfold Oper.wp;have U:(execOp a.eval o).run P W= .ok (.enter f<|args.map a.eval) W:=by
   have p:=hf.call;unfold mZ at p;rw[execOp,bO];cases D:P.funcs[f]? with
   |none=>rw[D]at p;simp at p
   |some fn=>
    rw[D]at p
    simp only[cD,bne_iff_ne,ne_eq]at p
    have h2:fn.body≠none:=by intro hb;rw[hb]at p;simp at p
    simp[resolve,Act.eval,xq,invoke,callFunc,D,p.1,h2]
  rw[U];simp only[Oper.upon];have I:(args.map a.eval)=(args.toList.map a.eval).toArray:=yM;rw[I];refine hc.mono ?_;rintro e W' ⟨v,H',rfl,M,hle,Y,N,B⟩;simp only[hd];have gw:d<a.tmps.size:=mm;let L:Gh:=⟨H',λr=>if r=l then v else g.γ r⟩;have O:fL z g L:=⟨hle,λr w=>by
   have:r≠l:=λe=>q<|e▸w
   simp[L,this]⟩
  refine hK L W' _<|aS.step (chg:=λ_=>False) (g':=L) ⟨O,Y,N,B.size,λk hk _=>B.block k hk,B.os,B.tape,B.output⟩ _ l q nz aS.defers ?_ (λ_ h=>h.elim) ?_ ?_ ?_ ?_
  .intro t ht;have fe:d≠t:=sD;simp[gT,kH fe]
  .intro t u ht;simp only[aC]at ht;split at ht
   .rename_i e;simp only[Key.s.injEq]at e;simp only[aq,Info.v.injEq]at ht;subst e;subst ht;simp[gT,gw,a8,cN,L]
   .split at ht
    .simp at ht
    .simp at ht
  .intro r b ht;simp only[aC,reduceCtorEq,bQ]at ht;split at ht
   .rename_i e;simp only[Key.m.injEq]at e;simp only[aq,Info.b.injEq]at ht;subst e;subst ht;have hs0:=aS.below.size;rcases M with⟨j,e2⟩|⟨b,R,ws,j,e2,e3,e4,e5,e6,e7,e8⟩
    .refine⟨.inl ⟨by simpa[L]using j,e2⟩,.inr ⟨J,λk hk=>?_⟩⟩;have j:v= .slice none 0 0:=j;simp[L,j,cy]at hk
    .have j:v= .slice (ad ⟨b,0,none⟩) (Z xs) R:=j;refine⟨.inr ⟨b,R,ws,by simpa[L]using j,e2,e3,e4,e5,e6,.inl G,e8⟩,.inr ⟨J,λk hk=>?_⟩⟩;simp[L,j,cy]at hk;exact .inl G
   .simp at ht
  .intro k y ht;simp only[aC]at ht;split at ht
   .simp only[aq]at ht;subst ht;intro r w;simp[Info.ak,AV.ak,C.ak]at w;exact .inr w
   .split at ht
    .simp only[aq]at ht;subst ht;intro r w;simp[Info.ak,aD.ak]at w
    .simp at ht
  .intro r y ht;simp only[aC,reduceCtorEq,bQ]at ht;split at ht
   .rename_i e;simp only[Key.m.injEq]at e;exact .inr e.symm
   .simp at ht
 .intro kx cc;let ⟨x,_,h⟩:=iV.1 cc;exact dX st x kx h
def alZ{n}{b}{a}{g i}{d f:V}{args}{k}{B}{pos}{l}{v}{o}{mem}{p}{t}{w}{Q:St->Prop}{vs}{x}{T}{xs}
  (H:jw ⟨o,mem,p,t⟩ args.toList=ad vs) (L:oz P f vs x T xs) (h:RG P n b a g (i+1) v ⟨(d,.c<|.X<|1000000*g+1000*i)::o,(1000000*g+1000*i,.vec x T xs)::mem,p,t⟩ (g8 a w (bJ args.toList,[.s d,.m<|1000000*g+1000*i])) Q) (W:cM vs=[]:=by rfl) (u:dt d n=ae:=by rfl):
  RG P n b a g i (⟨ad d,.call ⟨.value<|.func f,args,k⟩,B,pos,l,none⟩::v) ⟨o,mem,p,t⟩ w Q:=
 nJ (λC=>alY C J J (cP u) J H W L) (nK h)
end
section
variable{P:bI}{tt:TT}
def al0(g:cq P tt=ae){n b}{f}{i}{o:aX}(t:f[i]? =ad o)(u:o.guard=none){d:V}(w:o.dst=ad d)(l:d<n){a}{x}{p}(B:vQ tt a o.op=ad (x,p))(H:p):lr P n f i a (a.put d x) b (bJ o.op.operands.toList,[.s d]):=by refine⟨ot a o.op,[(.s d,ad<|.v x)],RE g t u w l B H b,?_,pV a d x,eI a _,λk hk=>jG⟩;intro C m;let ⟨x,_,h⟩:=iV.1 m;exact dX a x C h
def al1{n}{b}{a}{t i}{d}{op:Op}{w}{pos}{f}{u}{g}{mem}{k}{l}{v}{Q:St->Prop}(m:cq P tt=ae){x}{p}(B:vQ tt ⟨g,mem,k,l⟩ op=ad (x,p))(H:p)
  (h:RG P n b a t (i+1) u ⟨(d,x)::g,mem,k,l⟩ (g8 a v (bJ op.operands.toList,[.s d])) Q) (o:dt d n=ae:=by rfl):
  RG P n b a t i (⟨ad d,op,w,pos,f,none⟩::u) ⟨g,mem,k,l⟩ v Q:=
 nJ (λC=>al0 m C J J (cP o) B H) (nK h)
end
section
variable{n:V}{Q:gM}{sl sl':E (V×AV)}{mem cu:E (V×aD)}{nx:V}{gd gd':E (V×Bool)}{ops:Array aX}{draw:Bool}{p:Pr}{ks dN:E Ks}{i i' n0 cJ:V}{os eB:E aX}{d:V}{ty:dH}{pos:String}{jA:Array Edge}{R:St->Prop}
def rx{op:Op}{x}{pm}(h:runs dP n nx draw ops.toList os i ⟨sl,mem,n0,gd⟩ .t ks=(⟨ad d,op,ty,pos,jA,none⟩::eB,i',⟨sl',cu,cJ,gd'⟩,p,dN))(f:vQ dP ⟨sl',cu,cJ,gd'⟩ op=ad (x,pm))(a:pm)
  (g:RG c n ops draw nx (i'+1) eB ⟨(d,x)::sl',cu,cJ,gd'⟩ (g8 draw dN (bJ op.operands.toList,[.s d])) R)
  (hp:p:=by exact ly) (b:dt d n=ae:=by rfl):RG c n ops draw nx i os ⟨sl,mem,n0,gd⟩ ks R:=
 kh cv h hp (al1 cv f a g b)
def BT{f}{args}{a}{vs}{g}{T}{xs}(h:runs dP n nx draw ops.toList os i ⟨sl,mem,n0,gd⟩ .t ks=(⟨ad d,.call ⟨.value<|.func f,args,a⟩,ty,pos,jA,none⟩::eB,i',⟨sl',cu,cJ,gd'⟩,p,dN))(k:jw ⟨sl',cu,cJ,gd'⟩ args.toList=ad vs)(l:oz c f vs g T xs)
  (o:RG c n ops draw nx (i'+1) eB ⟨(d,.c<|.X<|1000000*nx+1000*i')::sl',(1000000*nx+1000*i',.vec g T xs)::cu,cJ,gd'⟩ (g8 draw dN (bJ args.toList,[.s d,.m<|1000000*nx+1000*i'])) R)
  (hp:p:=by exact ly) (u:cM vs=[]:=by rfl) (b:dt d n=ae:=by rfl):RG c n ops draw nx i os ⟨sl,mem,n0,gd⟩ ks R:=
 kh cv h hp (alZ k l o u b)
end
def aaI(g:Gh)(W:cx)(h:dH)(T:ET)(i:AV)(d:E T.den)(k:Ending)(f:cx):Prop:=
 ∃v a,k= .returned v/\a8 ⟨a.H,ja⟩ i v/\ic (λ_=>True) a f 0 (.vec h T d)/\a.γ 0=g.γ 0/\cE g.H a.H/\(∀b o,b<W.heap.size->¬cy (g.γ 0)=ad b->a.H b o=g.H b o)/\Sub a.H f/\Dd (λb=>cy (g.γ 0)=ad b) W f
structure uy(P:bI)(f:iK)(args:List AV)(E:dH)(T:ET)(xs:List T.den)(r:AV)(a:List T.den):Prop where
 call:mZ P f=ae
 iy:r.ak=[]
 spec:∀g W vs,Sub g.H W->fG g args vs->ic (λ_=>True) g W 0 (.vec E T xs)->Calls P f vs.toArray W (aaI g W E T r a)
def S4(P:bI)(h:Func)(i:dH)(T:ET)(k:AV)(f:E T.den):gM:=λF e a W=>F.k0=1->bodyPost P h (λe g=>∃v d,e= .returned v/\a8 ⟨d.H,ja⟩ k v/\ic F.N d g 0 (.vec i T f)/\d.γ 0=F.γ0 0/\cE F.H0 d.H/\(∀b o,b<F.w0.heap.size->¬F.own b->d.H b o=F.H0 b o)/\Sub d.H g/\Dd F.own F.w0 g) e a W
section
variable{P:bI}{tt:TT}{n:V}{st:St}
def zo(f:cq P tt=ae){o}{p}{s i}{t}{T}{b}(v:lu tt st p=ad s)(k:bg s i)(l:U 0 st.mem=ad (.vec t T b))(m:o.results=p.toArray:=by rfl)(w:i.ak=[]:=by rfl):fA n .ret st (S4 P o t T i b):=by intro F x g W a h B;let ⟨u,hu,d⟩:=yP f h m v;exact⟨h.defers.trans x.ds,u,hu,u,g,J,(k.1 _ _ d).iy w (cE.refl _) ja,h.cA 0 _ (by simp[St.kn,l]),(h.fv 0 G).2,h.le,h.fresh,h.sub,h.below⟩
def aaJ(d:cq P tt=ae){m}{o}{p f}{s}{T}{b}(t:lu tt st o=ad p)(i:bg p f)(k:U 0 st.mem=ad (.vec s T b))(l:m.results=o.toArray:=by rfl)(u:f.ak=[]:=by rfl):fA n .normal st (S4 P m s T f b):=
 λF v g W a h=>zo d t i k l u F v g W a h
def MN:E V->Bool
 |[]=>ae
 |id::a=>Nat.beq id 0&&MN a
def aaK:∀{l:E V},MN l=ae->∀a∈l,a=0
 |[],_,_,h=>by cases h
 |d::f,b,a,h=>by
  simp only[MN,cD]at b;rcases bZ.1 h with rfl|h
  .exact kO b.1
  .exact aaK b.2 a h
def Ie{f}{fn}{ew}{args}{L}{T}{xs p}{a7}(hf:P.funcs[f]? =ad fn)(hb:fn.body=ad ew)(hN:fn.ntmps=n)(hle:dU args.length n=ae)(zp:MN (cM args)=ae)(H9:a7.ak=[])(p8:(fn.name != "runtime.NumGoroutine")=ae)
  (h:TR P n ew ⟨dy 0 args,[(0,.vec L T xs)],1,[]⟩ (S4 P fn L T a7 p)):uy P f args L T xs a7 p:=by
 refine⟨yQ,H9,?_⟩
 intro g W vs z l A
 refine calls_of_wp hf hb ?_
 have M:=vI l
 have hle:=cP hle
 have d:∀i b,St.kn ⟨dy 0 args,[(0,.vec L T xs)],1,[]⟩ (.m i)=ad (.b b)->i=0/\b= .vec L T xs:=by
  intro i b e;simp only[St.kn,U,bS]at e;let ⟨x,hx,he⟩:=e;cases he;split at hx
  .rename_i R;cases hx;exact⟨R.symm,J⟩
  .cases hx
 let F:dm:={w0:=W,H0:=g.H,n:=n,own:=λb=>cy (g.γ 0)=ad b,k0:=1,γ0:=g.γ}
 refine wp_mono (h F ⟨J,aT _,J,J⟩ g W _ ⟨?_,J,?_,?_,?_,?_,?_,z,⟨J,J,J,aT _,λ_ _ _=>rfl⟩,cE.refl _,λ_ _ _ _=>rfl,?_⟩) ?_
 .simp[hN,F];omega
 .intro t v O;simp only[St.kn,bS]at O;let ⟨x,hx,he⟩:=O;cases he;let ⟨_,u,hu,S,_⟩:=lv args vs 0 l t v hx;have G:vs[t]? =ad u:=vJ;have jh:t<Z vs:=(pS.1 G).1;have:(vs.toArray++qo (fn.ntmps-vs.toArray.size) undef).getD t undef=u:=by rw[ls,tO yR];simp[G]
  rw[this];exact S
 .intro i b e;obtain⟨rfl,rfl⟩:=d i b e;exact A.D6 (λk V=> .inr V) J J ⟨cE.refl _,λ_ _=>rfl⟩
 .intro i I b Y k e e' _ _;rw[(d i b e).1,(d I Y e').1]
 .intro k x e i w;cases k with
  |m j=>
   cases x with
   |v y=>simp only[St.kn,bS]at e;let ⟨_,_,he⟩:=e;cases he
   |b b=>obtain⟨_,rfl⟩:=d j b e;simp[Info.ak,aD.ak]at w
  |s t=>
   simp only[St.kn,bS]at e
   let ⟨y,hy,he⟩:=e
   subst he
   let ⟨_,u,_,_,h6⟩:=lv args vs 0 l t y hy
   have:=aaK zp i<|h6 i w
   subst this
   show 0<1000000*1
   decide
 .intro i x e;cases x with
  |v y=>simp only[St.kn,bS]at e;let ⟨_,_,he⟩:=e;cases he
  |b b=>rw[(d i b e).1];show 0<1000000*1;decide
 .intro i w;have:i=0:=by have:i<1:=w;omega
  subst this;exact⟨(D:0<1000000*1),J⟩
 .intro e a q C;have C:=C J;have B:∀e q,(∃v K,e=Ending.returned v/\a8 ⟨K.H,ja⟩ a7 v/\ic F.N K q 0 (.vec L T p)/\K.γ 0=F.γ0 0/\cE F.H0 K.H/\(∀b o,b<F.w0.heap.size->¬F.own b->K.H b o=F.H0 b o)/\Sub K.H q/\Dd F.own F.w0 q)->aaI g W L T a7 p e q:=by rintro e q ⟨v,K,Q,h2,X,h4⟩;exact⟨v,K,Q,h2,X.D6 (λ_ _=>trivial) J J ⟨cE.refl _,λ_ _=>rfl⟩,h4⟩
  cases e with
  |normal=>let ⟨Q,v,h2,X⟩:=C;exact⟨Q,v,h2,B _ _ X⟩
  |ret=>let ⟨Q,v,h2,X⟩:=C;exact⟨Q,v,h2,B _ _ X⟩
  |panic ew=>let ⟨Q,X⟩:=C;exact⟨Q,B _ _ X⟩
  |outgrown=>exact B _ _ C
  |exit _=>exact C
  |goto _=>exact C
def ES(a:V):C->C
 | .P _ o=> .P a o
 | .X _=> .X a
 | .Y _ n i o=> .Y a n i o
 | .L _ o l b=> .L a o l b
 | .W _ o l=> .W a o l
 |b=>b
def If(b:V):AV->AV
 | .c x=> .c<|ES b x
 | .a cs=> .a<|cs.map<|ES b
 | .t d=> .t<|d.map λs=>(s.1,s.2.map<|ES b)
def S5{g:Gh}{a:V}:∀{b:C}{v:aR},cN g (ES a b) v->cN ⟨g.H,λ_=>g.γ a⟩ b v
 | .any,_,h=>h
 | .B _,_,h=>h
 | .I _ _,_,h=>h
 | .V _,_,h=>h
 | .S _ _,_,h=>h
 | .P _ _,_,h=>h
 | .X _,_,h=>h
 | .Y _ _ _ _,_,h=>h
 | .E _ _ _,_,h=>h
 | .M _,_,h=>h
 | .L _ _ _ (ad _),_,h=>h
 | .L _ _ _ none,_,h=>h
 | .W _ _ _,_,h=>h
def S6{g:Gh}{a:V}:∀{b:E C}{vs:E aR},aY g (b.map<|ES a) vs->aY ⟨g.H,λ_=>g.γ a⟩ b vs
 |[],_,h=>h
 |_::_,_,h=>by let ⟨v,d,f,i,h2⟩:=h;exact⟨v,d,f,S5 i,S6 h2⟩
def aaL{g:Gh}{i:V}:∀{k:E (Bool×E C)}{vs:E aR},du g (k.map λs=>(s.1,s.2.map<|ES i)) vs->du ⟨g.H,λ_=>g.γ i⟩ k vs
 |[],_,h=>h
 | (b,d)::_,_,h=>by
  let ⟨v,l,f,a,h2⟩:=h;refine⟨v,l,f,?_,aaL h2⟩;match b,d,a with
  |true,d,a=>let ⟨vs,f,h⟩:=a;exact⟨vs,f,S6 h⟩
  |false,[d],a=>exact S5 a
  |false,[],a=>exact a.elim
  |false,_::_::_,a=>exact a.elim
def al2{g}{b}{x}{v}(h:a8 g (If b x) v):a8 ⟨g.H,λ_=>g.γ b⟩ x v:=by
 cases x with
 |c y=>exact S5 h
 |a cs=>let ⟨vs,e,h⟩:=h;exact⟨vs,e,S6 h⟩
 |t d=>let ⟨vs,e,h⟩:=h;exact⟨vs,e,aaL h⟩
def aaM{g:Gh}{a:V}:∀{xs:E AV}{vs:E aR},fG g (xs.map<|If a) vs->fG ⟨g.H,λ_=>g.γ a⟩ xs vs
 |[],_,h=>h
 |_::_,_,h=>by let ⟨v,b,d,f,h2⟩:=h;exact⟨v,b,d,al2 f,aaM h2⟩
def al3{n new}{ops}{i}{o:aX}(ho:ops[i]? =ad o)(hg:o.guard=none){d:V}(hd:o.dst=ad d)(df:d<n){f}{args}{iz}(bO:o.op= .call ⟨.value<|.func f,args,iz⟩)
 {st}{vs}{l:V} {aU:dH} {T:ET} {xs xu:E T.den} {a7:AV} (hv:jw st args.toList=ad (vs.map<|If l)) (hl:U l st.mem=ad (.vec aU T xs)) (hf:uy P f vs aU T xs a7 xu):lr P n ops i st ((st.pm l<|.vec aU T xu).put d a7) new (bJ args.toList++cY [l],[.s d,.m l]):=by
 refine⟨args.toList.flatMap (cH st)++fM st [l],[(.s d,ad<|.v a7),(.m l,ad<|.b<|.vec aU T xu)],?_,?_,DE st d l _ _,?_,λk hk=>jG⟩
 .intro F jZ Q N σ g W a K AN aS fE hK;have O:=A5 aS st _ _ hv<|λkx C=>fE kx<|eH _ C;have X:σ (.m l)=ad (.b<|.vec aU T xs):=fE (.m l,.b<|.vec aU T xs) pU;have c:=aS.cA l _ X;have R:ic (λ_=>True) ⟨g.H,λ_=>g.γ l⟩ W 0 (.vec aU T xs):=by
   rcases c with⟨I,e2⟩|⟨b,cap,ws,I,e2,e3,e4,e5,e6,e7,e8⟩
   .exact .inl ⟨I,e2⟩
   .exact .inr ⟨b,cap,ws,I,e2,e3,e4,e5,e6,A,e8⟩
  have hc:=hf.spec ⟨g.H,λ_=>g.γ l⟩ W _ aS.sub (aaM O) R;unfold wpOp;simp only[ho,gx,hg,cd];refine .inl ?_;unfold Oper.wp;have hex:(execOp a.eval o).run P W= .ok (.enter f<|args.map a.eval) W:=by
   have B:=hf.call;unfold mZ at B;rw[execOp,bO];cases S:P.funcs[f]? with
   |none=>rw[S]at B;simp at B
   |some fn=>
    rw[S]at B
    simp only[cD,bne_iff_ne,ne_eq]at B
    have h2:fn.body≠none:=by intro hb;rw[hb]at B;simp at B
    simp[resolve,Act.eval,xq,invoke,callFunc,S,B.1,h2]
  rw[hex];simp only[Oper.upon];have al4:(args.map a.eval)=(args.toList.map a.eval).toArray:=yM;rw[al4];refine hc.mono ?_;rintro e W' ⟨v,g',rfl,SQ,q,p,hle,vK,tX,z⟩;simp only[hd];have gw:d<a.tmps.size:=mm;let g2:Gh:=⟨g'.H,g.γ⟩;have D0:fL N g g2:=⟨hle,λ_ _=>rfl⟩;have p:g'.γ 0=g.γ l:=p;have al5:∀b o,b<W.heap.size->g2.H b o=g.H b o:=by
   intro b o hb;by_cases L:cy (g.γ l)=ad b
   .rcases c with⟨I,_⟩|⟨b1,cap,ws,I,e2,e3,e4,e5,e6,e7,e8⟩
    .rw[I]at L;simp[cy]at L
    .rcases q with⟨w,_⟩|⟨b2,M,ws',w,G,e3',La,e5',e6',e7',Y⟩
     .rw[p,I]at w;simp at w
     .have h1:b1=b:=by rw[I]at L;simpa[cy]using L
      have h2:b2=b:=by rw[<-p,w]at L;simpa[cy]using L
      subst h1;rw[e8 o];subst h2;exact Y o
   .exact vK b o hb L
  refine hK g2 W' _<|aS.step (chg:=λj=>j=l) (g':=g2) ⟨D0,al5,tX,z.size,?_,z.os,z.tape,z.output⟩ _ new AN nz aS.defers ?_ ?_ ?_ ?_ ?_ ?_
  .intro k hk Z;exact z.block k hk<|Z l J
  .intro t ht;have Z:d≠t:=sD;simp[gT,kH Z]
  .intro j hj;subst hj;exact⟨xb,_,X⟩
  .intro t u ht;simp only[aC]at ht;split at ht
   .rename_i e;simp only[Key.s.injEq]at e;simp only[aq,Info.v.injEq]at ht;subst e;subst ht;have:=SQ.iy hf.iy (cE.refl _) g.γ;simpa[gT,gw,g2]using this
   .split at ht
    .simp at ht
    .simp at ht
  .intro j b ht;simp only[aC,reduceCtorEq,bQ]at ht;split at ht
   .rename_i e;simp only[Key.m.injEq]at e;simp only[aq,Info.b.injEq]at ht;subst e;subst ht;refine⟨?_,.inl ⟨aS.dn _ _ X,_,X⟩⟩;rcases q with⟨w,G⟩|⟨b2,M,ws',w,G,e3',La,e5',e6',e7',Y⟩
    .exact .inl ⟨by show g.γ l=_;rw[<-p,w],G⟩
    .refine .inr ⟨b2,M,ws',by show g.γ l=_;rw[<-p,w],G,e3',La,e5',e6',?_,Y⟩;exact(c.block (k:=b2)<|by rw[<-p,w];rfl).1
   .simp at ht
  .intro k y ht;simp only[aC]at ht;split at ht
   .simp only[aq]at ht;subst ht;intro l D;simp only[Info.ak]at D;rw[hf.iy]at D;cases D
   .split at ht
    .simp only[aq]at ht;subst ht;intro l D;simp[Info.ak,aD.ak]at D
    .simp at ht
  .intro j y ht;simp only[aC,reduceCtorEq,bQ]at ht;split at ht
   .rename_i e;simp only[Key.m.injEq]at e;exact .inl<|e▸aS.dn _ _ X
   .simp at ht
 .intro kx C;rcases be.1 C with C|C
  .let ⟨x,_,h⟩:=iV.1 C;exact dX st x kx h
  .exact lp st [l] kx C
 .intro k hk;simp only[dw,fF,be]at hk;rcases hk with h|h
  .exact eH _<|eI st _ k h
  .exact gI _<|kf st [l] k h
def al7{n}{b}{a}{x i}{d f:V}{args}{l}{W}{pos}{o}{B}{p}{mem}{t}{u}{H}{Q:St->Prop}{vs}{g}{v}{T}{xs k}{L}
  (hv:jw ⟨p,mem,t,u⟩ args.toList=ad (vs.map<|If g)) (hl:U g mem=ad (.vec v T xs)) (hf:uy P f vs v T xs L k) (h:RG P n b a x (i+1) B ⟨(d,L)::p,(g,.vec v T k)::mem,t,u⟩ (g8 a H (bJ args.toList++cY [g],[.s d,.m g])) Q) (w:dt d n=ae:=by rfl):
  RG P n b a x i (⟨ad d,.call ⟨.value<|.func f,args,l⟩,W,pos,o,none⟩::B) ⟨p,mem,t,u⟩ H Q:=
 nJ (λC=>al3 C J J (cP w) J hv hl hf) (nK h)
def al8(b7:cq P tt=ae){n new}{ops}{i}{o:aX}(ho:ops[i]? =ad o)(hg:o.guard=none){d:V}(hd:o.dst=ad d)(df:d<n){t}{x B H}(bO:o.op= .slice t x (ad B) (ad H) none)
 {st}{p}{aU}{T:ET} {xs:E T.den} {k1 k2:IntKind} {a b:Y} (hx:st.ev x=ad (.c<|.X p)) (hl:U p st.mem=ad (.vec aU T xs)) (hlo:st.ev B=ad (.c<|.I k1 a)) (hhi:st.ev H=ad (.c<|.I k2 b)) (hT:T.n=1) (ud:wX tt t 1=ae)
  {u v:V} (ea:a=(u:Y)) (eb:b=(v:Y)) (huv:u<v) (hv:v<=Z xs):lr P n ops i st (st.put d<|.c<|.W p u<|v-u) new (bJ [x,B,H]++cY [p],[.s d]):=by
 refine⟨(cH st x++(cH st B++cH st H))++fM st [p],[(.s d,ad<|.v<|.c<|.W p u<|v-u)],?_,?_,pV st d _,?_,λk hk=>jG⟩
 .refine sB ho hg hd df _ _ new ?_;intro F r σ g W L f K;have y:L.eval x=g.γ p:=dq f st x _ hx<|λw cc=>K w dT;have z:L.eval B= .int k1 a:=dq f st B _ hlo<|λw cc=>K w dT;have A:L.eval H= .int k2 b:=dq f st H _ hhi<|λw cc=>K w dT;have D:=q8 f st x _ hx<|λw cc=>K w dT;have M:σ (.m p)=ad (.b<|.vec aU T xs):=K (.m p,.b<|.vec aU T xs) pU;let ⟨e,i',N,O,hs⟩:=Ds b7 ud;rcases f.cA p _ M with⟨_,h0⟩|⟨bb,l,vs,q,_,_,yG,_⟩
  .subst h0;simp at hv;omega
  .refine⟨λj hj=>D j QI,.slice (ad ⟨bb,u,none⟩) (v-u) (l-u),?_,bb,l-u,by rw[q];rfl,J,G⟩;have Q:execOp L.eval o=(do pure (.value<|<-Instr.sliceAt t (L.eval x) ((ad B).map L.eval) ((ad H).map L.eval) (none.map L.eval))):=vC;have R:(wZ ae (Z xs) l (ad<|.int k1 a) (ad<|.int k2 b) none).run P W= .ok (u,v,l) W:=by have c1:v<=l:=G;have c2:u<=v:=G;subst ea eb;simp[wZ,Instr.sliceBound,asIntOf,c1,c2,Sem.run,pure]
   have S:¬l=u:=G;rw[Q];simp only[vH,Option.map_none,y,z,A,q,Instr.sliceAt,Sem.run_bind,run_underlying N,Result.andThen,Instr.slice,R,run_sizeOf O,hs];simp[S,lO,Sem.run,pure]
 .intro w cc;rcases be.1 cc with h|h
  .rcases be.1 h with h|h
   .exact dX _ x w h
   .rcases be.1 h with h|h
    .exact dX _ B w h
    .exact dX _ H w h
  .exact lp _ [p] w h
 .intro k hk;simp only[dw,fF,be]at hk;rcases hk with(h|h|h)|h
  .exact eH _<|eI st [x,B,H] k tL
  .exact eH _<|eI st [x,B,H] k vE
  .exact eH _ (eI st [x,B,H] k (by simp only[dw,lq,fF,be];exact .inr<|.inr<|.inl h))
  .exact gI _<|kf st [p] k h
def aaR{g:Gh}(T:ET):∀(xs:E T.den)(vs:E aR),aY g (xs.flatMap<|av T) vs->Z vs=Z xs*T.n/\∀i(h:i<Z xs),c6 g.H T xs[i] ((ay (i*T.n) vs).take T.n)
 |[],vs,h=>by have h:vs=[]:=h;subst h;exact⟨ax,λi h=>by simp at h⟩
 |x::xs,vs,h=>by
  rw[lq]at h;obtain⟨a,b,rfl,k,l⟩:=Gv h;have f:=AK T x a k;have d:=c6.length T _ _ f;let ⟨hl,hc⟩:=aaR T xs b l;refine⟨by simp[d,hl,gy];omega,λi m=>?_⟩;cases i with
  |zero=>
   simp only[qf,qh,vw]
   rw[<-d,List.take_left']
   .exact f
   .rfl
  |succ i=>
   simp only[AW]
   have:=hc i (by simpa using m)
   rw[show(i+1)*T.n=Z a+i*T.n by rw[gy,d];omega,<-pY,List.drop_left']
   .exact this
   .rfl
def ama(b7:cq P tt=ae){n new}{ops}{i}{o:aX}(ho:ops[i]? =ad o)(hg:o.guard=none){d:V}(hd:o.dst=ad d)(df:d<n){x p}{t1 t2}(bO:o.op= .call ⟨.builtin .copy,#[x,p],#[t1,t2]⟩)
 {st}{l}{aU E1:dH} {T}{xs f:E T.den} {ei:TI} (hx:st.ev x=ad (.c<|.X l)) (hl:U l st.mem=ad (.vec aU T xs)) (hy:st.ev p=ad (.c<|.S T f)) (hT:y5 tt t1 t2=ad (E1,ei)) (pT:ei.size=T.n) (hle:Z f<=Z xs) (w:xs≠[]):
  lr P n ops i st ((st.pm l<|.vec aU T<|f++ay (Z f) xs).put d<|.c<|.I .i64<|Z f) new (bJ [x,p]++cY [l],[.s d,.m l]):=by
 refine⟨(cH st x++cH st p)++fM st [l],[(.s d,ad<|.v<|.c<|.I .i64<|Z f),(.m l,ad<|.b<|.vec aU T<|f++ay (Z f) xs)],?_,?_,DE st d l _ _,?_,λk hk=>jG⟩
 .intro F jZ Q known σ g W a K N aS q hK;have hT:=Lz b7 hT;rw[pT]at hT;have tW:a.eval x=g.γ l:=dq aS st x _ hx<|λr cc=>q r dT;have tV:=dq aS st p _ hy<|λr cc=>q r dT;have B:σ (.m l)=ad (.b<|.vec aU T xs):=q (.m l,.b<|.vec aU T xs) pU;let ⟨e2,iZ⟩:=hT.u2;let ⟨inf,z,O,R,DZ,xj,tT⟩:=hT.info;let ⟨us,H,D3,ry,xn⟩:=Bj (P:=P) (st:=st) (sz:=T.n) (y:= .c<|.S T f) (m:=Z f) (cs:=f.flatMap<|av T) (ids:=[]) aS (by simp[ua]) tV (λl a6=>wY) iZ<|mn.2<|Ya f;let ⟨A,huc⟩:=aaR T f us D3;rcases aS.cA l _ B with⟨_,h0⟩|⟨b,cap,vs,D,hh,Y,yG,hlen,hr,hN,hz⟩
  .exact absurd h0 w
  have Lo:Z us<=Z vs:=by rw[A,Y];exact et _ G
  have ud:=yH (P:=P) b us W vs 0 0 hh G xn;simp only[jv]at ud;have iW:(Builtin.copy_ #[t1,t2] o.type #[a.eval x,a.eval p]).run P W= .ok (.int .i64<|Z f) (iH W b (cF vs us 0) aU):=by rw[tW,D];have Rf:Nat.min (Z f) (Z xs)=Z f:=sK hle;have hc:=H.cells;simp[Builtin.copy_,run_underlying hT.u1,sizeOf,typeInfo,O,H.len,Rf,R,hc,ud,goInt,Sem.run,pure]
  have hex:(execOp a.eval o).run P W= .ok (.value<|.int .i64<|Z f) (iH W b (cF vs us 0) aU):=by refine DY bO<|λcs=>?_;have e:(#[x,p]:Array Operand).map a.eval= #[a.eval x,a.eval p]:=ax;rw[e];simp only[Go.builtin,Sem.run_bind,iW,Result.andThen];rfl
  unfold wpOp;simp only[ho,gx,hg,cd];refine .inl ?_;unfold Oper.wp;rw[hex];simp only[Oper.upon,hd];have gw:d<a.tmps.size:=mm;have hb:b<W.heap.size:=(fb.1 hh).1;have M:Z (f++ay (Z f) xs)=Z xs:=bX;refine hK g _ _<|aS.step (chg:=λj=>j=l) (g':=g) ⟨⟨cE.refl _,λ_ _=>rfl⟩,λ_ _ _=>rfl,yI aS.sub hz,yJ,?_,J,J,J⟩ _ new N nz aS.defers ?_ ?_ ?_ ?_ ?_ ?_
  .intro k' GW w;have:b≠k':=λe=>w l J (by rw[D,e];rfl)
   exact w7 this
  .intro t ht;have w:d≠t:=sD;simp[gT,kH w]
  .intro j L;subst L;exact⟨xb,_,B⟩
  .intro t u ht;simp only[aC]at ht;split at ht
   .rename_i e;simp only[Key.s.injEq]at e;simp only[aq,Info.v.injEq]at ht;subst e;subst ht;simp[gT,gw,a8,cN]
   .split at ht
    .simp at ht
    .simp at ht
  .intro j bk L;simp only[aC,reduceCtorEq,bQ]at L;split at L
   .rename_i e';simp only[Key.m.injEq]at e';subst e';simp only[aq,Info.b.injEq]at L;subst L;refine⟨.inr ⟨b,cap,cF vs us 0,by rw[M];exact D,Dv hb,?_,by rw[M];exact yG,by rw[M];exact hlen,λj L=>?_,hN,hz⟩,.inl ⟨aS.dn _ _ B,_,B⟩⟩
    .rw[w8 _ _ _ G];exact Y
    .have rh:cF vs us 0=us++ay (Z us) vs:=by simp[cF]
     rw[rh];by_cases vq:j<Z f
     .rw[w6 vq];have h1:=huc j vq;have h2:j*T.n+T.n<=Z us:=by rw[A,(GG:j*T.n+T.n=(j+1)*T.n)];exact et _ G
      rw[AX G,xa bX];exact h1
     .have Hg:j<Z xs:=by omega
      rw[List.getElem_append_right G,tH];have h1:=hr j Hg;have e1:Z f+(j-Z f)=j:=G;have h3:Z us<=j*T.n:=by rw[A];exact et _ G
      have e2:ay (j*T.n) (us++ay (Z us) vs)=ay (j*T.n) vs:=by rw[List.drop_append,tK h3,tI,pY,(G:Z us+(j*T.n-Z us)=j*T.n)]
      rw[e2];simp only[e1];exact h1
   .simp at L
  .intro k p ht;simp only[aC]at ht;split at ht
   .simp only[aq]at ht;subst ht;intro l a6;simp[Info.ak,AV.ak,C.ak]at a6
   .split at ht
    .simp only[aq]at ht;subst ht;intro l a6;simp[Info.ak,aD.ak]at a6
    .simp at ht
  .intro j p ht;simp only[aC,reduceCtorEq,bQ]at ht;split at ht
   .rename_i e;simp only[Key.m.injEq]at e;exact .inl<|e▸aS.dn _ _ B
   .simp at ht
 .intro r cc;rcases be.1 cc with h|h
  .rcases be.1 h with h|h
   .exact dX _ x r h
   .exact dX _ p r h
  .exact lp _ [l] r h
 .intro k hk;simp only[dw,fF,be]at hk;rcases hk with(h|h)|h
  .exact eH _<|eI st [x,p] k tL
  .exact eH _<|eI st [x,p] k vE
  .exact gI _<|kf st [l] k h
end
section
variable{n:V}{sl sl':E (V×AV)}{mem cu:E (V×aD)}{nx:V}{gd gd':E (V×Bool)}{ops:Array aX}{draw:Bool}{p:Pr}{ks dN:E Ks}{i i' n0 cJ:V}{os eB:E aX}{d:V}{ty:dH}{pos:String}{jA:Array Edge}{R:St->Prop}
def zq id{f}{args}{b}{vs}{g}{T}{xs a}{l}(h:runs dP n nx draw ops.toList os i ⟨sl,mem,n0,gd⟩ .t ks=(⟨ad d,.call ⟨.value<|.func f,args,b⟩,ty,pos,jA,none⟩::eB,i',⟨sl',cu,cJ,gd'⟩,p,dN))(o:uy c f vs g T xs l a)(u:jw ⟨sl',cu,cJ,gd'⟩ args.toList=ad (vs.map<|If id))(v:U id cu=ad (.vec g T xs))
  (w:RG c n ops draw nx (i'+1) eB ⟨(d,l)::sl',(id,.vec g T a)::cu,cJ,gd'⟩ (g8 draw dN (bJ args.toList++cY [id],[.s d,.m id])) R)
  (hp:p:=by exact ly) (k:dt d n=ae:=by rfl):RG c n ops draw nx i os ⟨sl,mem,n0,gd⟩ ks R:=
 kh cv h hp (al7 u v o w k)
def rw_(u v:V){t}{x g k}{f}{H}{T}{xs}{L P}{a b}(h:runs dP n nx draw ops.toList os i ⟨sl,mem,n0,gd⟩ .t ks=(⟨ad d,.slice t x (ad g) (ad k) none,ty,pos,jA,none⟩::eB,i',⟨sl',cu,cJ,gd'⟩,p,dN))
  (Q:St.ev ⟨sl',cu,cJ,gd'⟩ x=ad (.c<|.X f)) (hl:U f cu=ad (.vec H T xs)) (l:St.ev ⟨sl',cu,cJ,gd'⟩ g=ad (.c<|.I L a)) (m:St.ev ⟨sl',cu,cJ,gd'⟩ k=ad (.c<|.I P b)) (ea:a=(u:Y)) (eb:b=(v:Y)) (o:u<v) (hv:v<=Z xs)
  (hk:RG c n ops draw nx (i'+1) eB ⟨(d,.c<|.W f u<|v-u)::sl',cu,cJ,gd'⟩ (g8 draw dN (bJ [x,g,k]++cY [f],[.s d])) R) (hT:T.n=1:=by rfl) (w:wX dP t 1=ae:=by rfl)
  (hp:p:=by exact ly) (B:dt d n=ae:=by rfl):RG c n ops draw nx i os ⟨sl,mem,n0,gd⟩ ks R:=
 kh cv h hp (nJ (λC=>al8 cv C J J (cP B) J Q hl l m hT w ea eb o hv)<|nK hk)
def MQ{x f}{u v}{a}{w H:dH}{T}{xs b}{B}(h:runs dP n nx draw ops.toList os i ⟨sl,mem,n0,gd⟩ .t ks=(⟨ad d,.call ⟨.builtin .copy,#[x,f],#[u,v]⟩,ty,pos,jA,none⟩::eB,i',⟨sl',cu,cJ,gd'⟩,p,dN))
  (L:St.ev ⟨sl',cu,cJ,gd'⟩ x=ad (.c<|.X a)) (P:U a cu=ad (.vec w T xs)) (Q:St.ev ⟨sl',cu,cJ,gd'⟩ f=ad (.c<|.S T b)) (W:y5 dP u v=ad (H,B)) (g:Z b<=Z xs) (k:xs≠[])
  (hk:RG c n ops draw nx (i'+1) eB ⟨(d,.c<|.I .i64<|Z b)::sl',(a,.vec w T<|b++ay (Z b) xs)::cu,cJ,gd'⟩ (g8 draw dN (bJ [x,f]++cY [a],[.s d,.m a])) R) (l:B.size=T.n:=by rfl)
  (hp:p:=by exact ly) (o:dt d n=ae:=by rfl):RG c n ops draw nx i os ⟨sl,mem,n0,gd⟩ ks R:=
 kh cv h hp (nJ (λC=>ama cv C J J (cP o) J L P Q W l g k)<|nK hk)
end
section
variable{P:bI}{tt:TT}
def amc{d}{m}{st}{Q:St->Prop}{F}{id}{kJ:Exit->Act->cx->Prop}(B:vp F.rd d)(jQ:P.follows .mixedOrders=ae)(h:RG P F.n d m st.nx 0 d.toList st [] Q)
  (hQ:∀o,Q o->∀g W a,aJ F (kb o) o.kn g W a->kJ .normal a W) {g}{W}{a}(h0:aJ F (kb st) st.kn g W a):(Code.region id d m).wpIn (di F.rd) 0 P kJ a W:=by
 let ⟨ds,o,hl,E,h2,M,N,O,S,U⟩:=h ax
 have V:Z ds=d.size:=tG
 have y:∀i,i<d.size->sx P F.n d i ((I ds i ([],[])).1) ((I ds i ([],[])).2) (pP (λi=>1000000*st.nx+1000*i) i):=by intro i X;have:=E i G;rw[vF ds _ i G];simpa using this
 have z:∀i,i<d.size->∀T∈(I ds i ([],[])).1,fold (λi=>(I ds i ([],[])).2) st.kn (cw i) T.1=ad T.2:=by intro i X T C;rw[DJ ds st.kn i G];rw[vF ds _ i G]at C;exact h2 i G T C
 have v:∀g W a,aJ F (·<1000000*st.nx+1000*d.size) (fold (λi=>(I ds i ([],[])).2) st.kn<|cw d.size) g W a->kJ .normal a W:=by intro g W a A;refine hQ o U g W a ?_;rw[M];rw[DJ ds st.kn d.size G,iY G]at A;exact A.weaken (λid Y=>by simp only[kb,N];omega)
 cases m with
 |false=>exact Qn (c:=λi=>1000000*st.nx+1000*i) (λi=>KY) h0 y z v B
 |true=>
  let ⟨H,⟨pQ,e⟩,K⟩:=S J
  have D:=QQ K
  have p:∀i j,i<j->j<d.size->∀a b:Ks,(H[i]? =ad a->H[j]? =ad b->nH a b=ae->lM d i j):=by intro i j l u a b ha hb hc;exact D.2 i j a b l u A4 vG hc
  have f:∀i(X:i<d.size),∃a,H[i]? =ad a/\(∀k∈dw (I ds i ([],[])).1,k∈a.1)/\∀k∈fP (I ds i ([],[])).2,k∈a.2:=by intro i X;have L:i<Z H:=G;refine⟨H[i],cO L,?_⟩;rw[vF ds _ i G];exact e i G L
  refine Qo (c:=λi=>1000000*st.nx+1000*i) (λi=>KY) jQ D.1 h0 y z ?_ ?_ ?_ v B
  .intro i j l u k s t;let ⟨a,ha,_,w⟩:=f i G;let ⟨b,hb,_,x⟩:=f j u;exact p i j l u a b ha hb (by simp only[nH,xe (w k s)<|x k t,DK])
  .intro i j l u k s t;let ⟨a,ha,_,w⟩:=f i G;let ⟨b,hb,q,_⟩:=f j u;exact p i j l u a b ha hb (by simp only[nH,xe (w k s)<|q k t,DK,DL])
  .intro i j l u k s t;let ⟨a,ha,r,_⟩:=f i G;let ⟨b,hb,_,x⟩:=f j u;exact p i j l u a b ha hb (by simp only[nH,xe (r k s)<|x k t,DL])
def dm.dr(a:dm)(ds:E Deferred):dm:={a with ds:=ds}
abbrev uz:=dm->E Deferred->cx->Prop
def zr(a:uz):Prop:=∀F b W d,KeepsOthers W d->a F b W->a F b d
variable{n:V}{Q:gM}{st:St}{O:uz}
def hP(n:V)(d:Exit)(st:St)(O:uz)(Q:gM):Prop:=∀F:dm,F.n=n->F.k0<=1->∀b g W a,aJ (F.dr b) (kb st) st.kn g W a->O F b W->Q F d a W
def TJ(P:bI)(n:V)(b:eU)(st:St)(O:uz)(Q:gM):Prop:=∀F:dm,F.n=n->F.k0<=1->lS F.rd b->∀d g W a,aJ (F.dr d) (kb st) st.kn g W a->O F d W->b.wpIn (di F.rd) 0 P (Q F) a W
def BU(P:bI)(b:eU)(Q:gM):gM:=λF=>Exit.then (λa W=>lS F.rd b->b.wpIn (di F.rd) 0 P (Q F) a W)<|Q F
def EU(a:V)(Q:gM):gM:=λF=>Exit.inBlock a<|Q F
def Ig{d:Type}(b:d->St)(k:d->Prop)(h:d->V)(x:d)(O:uz)(Q:gM):gM:=λF=>Exit.then (λa W=>∃f g i,k f/\h f<h x/\aJ (F.dr i) (kb<|b f) (b f).kn g W a/\O F i W)<|Q F
def mF{x d}(h:TJ P n x st O (BU P d Q)):TJ P n (.seq x d) st O Q:=λF i k b l g W a m o=>by
 let ⟨p,h2⟩:=b.seq;refine wpIn_seq<|wpIn_mono (h F i k p l g W a m o) ?_;intro e s t f;cases e with
 |normal=>exact f h2
 |_=>exact f
def uA(h:hP n .normal st O Q):TJ P n .skip st O Q:=λF b d _ f g W a i k=>wpIn_skip<|h F b d f g W a i k
def S7{b}(h:hP n (.exit b) st O Q):TJ P n (.exit b) st O Q:=λF d f _ i g W a k l=>wpIn_exit<|h F d f i g W a k l
def S8(h:hP n .ret st O Q):TJ P n .ret st O Q:=λF b d _ f g W a i k=>wpIn_ret<|h F b d f g W a i k
def qu{d}{f}(h:TJ P n f st O (EU d Q)):TJ P n (.block d f) st O Q:=λF i k b l g W a m o=>wpIn_block<|h F i k b l g W a m o
def sV{d}{x i}{b}(p:st.ev d=ad (.c<|.B b))(s:b=ae->TJ P n x st O Q)(t:b=ah->TJ P n i st O Q):TJ P n (.cond d x i) st O Q:=by intro F k l f m g W a h o;let ⟨u,h2⟩:=f.cond;have v:a8 g (.c<|.B b) (a.eval d):=dq h st d _ p<|dX st d;exact wpIn_cond_split v (λe=>s e F k l u m g W a h o)<|λe=>t e F k l h2 m g W a h o
def qv(m:E (V×aD)):Bool:=m.all λe=>match e.2 with
 | .mp _ _ _=>ah
 | .it _ _ _=>ah
 |_=>ae
def Ih{st:St}(h:qv st.mem=ae):H2 st.kn:=by
 intro g y d e;simp only[St.kn,bS,Info.b.injEq]at e;obtain⟨b,f,rfl⟩:=e;have a:=mn.1 h _<|v8 f;cases b with
 |mp i k xs=>cases a
 |it m n seen=>cases a
 |_=>cases d
def MR{u}{d}{b}(i:P.follows .mixedOrders=ae)(v:zr O)(l:qv st.mem=ae)(h:RG P n d b st.nx 0 d.toList st [] (λf=>hP n .normal f O Q)):TJ P n (.region u d b) st O Q:=by intro F w x m o g W a s B;subst w;refine amc (F:=(F.dr o).re W g<|1000000*st.nx) (st:=st) m.region i h (λf C H t K p=>?_)<|aJ.re (k:=1000000*st.nx) s<|Ih l;let ⟨L,h2,_⟩:=aJ.un (k:=1000000*st.nx) (k':=1000000*f.nx) s p;exact C F J x o H t K L<|v F o W t h2 B
def Ii{d}{st'}(k:Wk st st')(h:TJ P n d st' O Q):TJ P n d st O Q:=by intro F l f b i g W a m o;let ⟨p,s⟩:=k (F.dr i) f g W a m;exact h F l f b i p W a s o
def zs{b}{st'}(i:Wk st st')(h:hP n b st' O Q):hP n b st O Q:=by intro F k d f g W a l m;let ⟨o,p⟩:=i (F.dr f) d g W a l;exact h F k d f o W a p m
def lU{d}(h:TJ P n d st O Q):hP n .normal st O (BU P d Q):=λF f i k g W a l m b=>h F f i b k g W a l m
def S9{b}{a}(h:hP n (.exit a) st O Q):hP n (.exit a) st O (BU P b Q):=h
def S'{a}(h:hP n .ret st O Q):hP n .ret st O (BU P a Q):=h
def uB{a}(h:hP n .normal st O Q):hP n .normal st O (EU a Q):=h
def aaT{a}(h:hP n .ret st O Q):hP n .ret st O (EU a Q):=h
def Ta{b}(h:hP n .normal st O Q):hP n (.exit b) st O (EU b Q):=λF d f i g W a k l=>by simp only[EU,Exit.inBlock,cd];exact h F d f i g W a k l
def Tb{a:Type}{b:a->St}{f:a->Prop}{g:a->V}{x}{d}(h:hP n (.exit d) st O Q):hP n (.exit d) st O (Ig b f g x O Q):=h
def amd{a:Type}{b:a->St}{d:a->Prop}{f:a->V}{x}(h:hP n .ret st O Q):hP n .ret st O (Ig b d f x O Q):=h
def EV{f:Type}{b:f->St}{i:f->Prop}{h:f->V}{x}d(l:i d)(m:h d<h x)(o:Wk st (b d)):hP n .normal st O (Ig b i h x O Q):=by intro F w p k g W a s t;let ⟨u,v⟩:=o (F.dr k) p g W a s;exact⟨d,u,k,l,m,v,t⟩
def Ij{α:Type}(b:α->St)(f:α->Prop)(p:α->V) h{s}(v:f h)(w:Wk st (b h))(round:∀x,f x->TJ P n s (b x) O (Ig b f p x O Q)):TJ P n (.loop s) st O Q:=by
 intro F B t i d g W a C k;let ⟨H,K⟩:=w (F.dr d) t g W a C;refine Sn (λx a W=>f x/\∃g d,aJ (F.dr d) (kb<|b x) (b x).kn g W a/\O F d W) p h ⟨v,H,d,K,k⟩ ?_;rintro x a W ⟨l,g,d,hg,k⟩;refine wpIn_mono (round x l F B t i.loop d g W a hg k) ?_;intro e q r u;cases e with
 |normal=>
  let ⟨L,m,o,T,h2,X,j⟩:=u
  exact⟨L,⟨T,m,o,X,j⟩,h2⟩
 |_=>exact u
end
section
variable{F:dm}{sl sl':E (V×AV)}{M M':E (V×aD)}{nx nx':V}{gd gd':E (V×Bool)}{g g':Gh}{W W':cx}{a a':Act}{K:V->Prop}
def aJ.frame{n'}{ds'}{rd'}(h:aJ F K (St.kn ⟨sl,M,nx,gd⟩) g W a)(H:a'.tmps.size=n')(L:a'.defers=ds')(i:∀t v,U t sl'=ad v->a8 g v (a'.tmps.getD t undef)/\∀d∈v.ak,K d)(P:∀d b,U d M'=ad b->U d M=ad b):
  aJ {F with n:=n',ds:=ds',rd:=rd'} K (St.kn ⟨sl',M',nx',gd'⟩) g W a':=by
 have l:∀d x,(St.kn ⟨sl',M',nx',gd'⟩) (.m d)=ad x->(St.kn ⟨sl,M,nx,gd⟩) (.m d)=ad x:=by intro d x f;simp only[St.kn,bS]at f⊢;let ⟨b,p,e⟩:=f;exact⟨b,P d b p,e⟩
 refine⟨H,L,λt v C=>?_,λd b p=>h.cA d b<|l _ _ p,λd u b Q k T X c q=>h.inj d u b Q k (l _ _ T) (l _ _ X) c q,λw x f d o=>?_,λd x f=>h.dn d x<|l _ _ f,h.sub,h.below,h.le,h.fresh,h.fv⟩
 .simp only[St.kn,bS]at C;let ⟨y,B,e⟩:=C;cases e;exact(i t v B).1
 .cases w with
  |m j=>exact h.ak (.m j) x (l _ _ f) d o
  |s j=>
   simp only[St.kn,bS]at f
   let ⟨y,B,e⟩:=f
   subst e
   exact(i j y B).2 d o
def aJ.re1{k}{d}(h:aJ F (·<k) d g W a)(m:1<=k)(f:H2 d):aJ (F.re W g 1) (·<k) d g W a:=by have b:=h.re f;exact⟨b.size,b.defers,b.dv,b.cA,b.inj,b.ak,b.dn,b.sub,b.below,b.le,b.fresh,λl i=>⟨by have:l<1:=i;omega,J⟩⟩
def aJ.un1{k k'}{H t}(d:aJ F (·<k) H g W a)(L:F.k0<=1)(h:aJ (F.re W g 1) (·<k') t g' W' a'):
  aJ F (·<k') t g' W' a'/\KeepsOthers W W'/\fL (·<1) g g':=by
 refine⟨⟨h.size,h.defers,h.dv,λl b v=>(h.cA l b v).Mq ?_ ?_,h.inj,h.ak,h.dn,h.sub,?_,d.le.trans h.le,?_,?_⟩,?_,h.le,λl m=>(h.fv l m).2⟩
 .intro x vs E p C f;rcases f with f|f
  .exact .inl<|b6 d.below.size f
  .exact f.1
 .intro x _ f;rcases f with f|f
  .exact .inl<|b6 d.below.size f
  .exact f.1
 .refine⟨h.below.os.trans d.below.os,h.below.tape.trans d.below.tape,h.below.output.trans d.below.output,b6 d.below.size h.below.size,λj s i=>?_⟩;rw[<-d.below.block j s i];refine h.below.block j (fO s d.below.size)<|λu=>?_;rcases u.1 with n|n
  .omega
  .exact i n
 .intro b o v i;rw[<-d.fresh b o v i];refine h.fresh b o (fO v d.below.size)<|λu=>?_;rcases u.1 with n|n
  .omega
  .exact i n
 .intro l m;have n:=d.fv l m;have w:=h.fv l (G:l<1);exact⟨w.1,w.2.trans n.2⟩
 .refine⟨h.below.size,λj o s B=>?_⟩;rw[<-s];refine h.below.block j (fb.1 s).1<|λu=>?_;rw[u.2 o s]at B;cases B
def mG(b:E aR):aR:= .func (.func 0) #[] b.toArray
def aJ.ghost{k}(h:aJ F (·<k) (St.kn ⟨sl,M,nx,gd⟩) g W a)(hk:1<=k)(m5:F.k0=0)(hz:∀t v,U t sl=ad v->0∉v.ak)(T:∀d b,U d M=ad b->d≠0/\0∉b.ak){f}{w}(hr:du g f w)(hc:∀d∈eG f,d≠0/\d<k):
  aJ {F with k0:=1,γ0:=λ_=>mG w} (·<k) (St.kn ⟨sl,(0,.dI 0 [] f)::M,nx',gd'⟩) (g.new 0<|mG w) W a:=by
 have B:fL (λd=>d≠0) g (g.new 0<|mG w):=⟨cE.refl _,λd i=>by simp[Gh.new,i]⟩
 have z:Ext (λd=>d≠0) (λ_=>False) g W (g.new 0<|mG w) W:=⟨B,λ_ _ _=>rfl,h.sub,aT _,λ_ _ _=>rfl,J,J,J⟩
 have p:(g.new 0<|mG w).γ 0=mG w:=by simp[Gh.new]
 have Q:∀d b,(St.kn ⟨sl,(0,.dI 0 [] f)::M,nx',gd'⟩) (.m d)=ad (.b b)->(d=0/\b= .dI 0 [] f)\/(d≠0/\U d M=ad b):=by
  intro d b H;simp only[St.kn,U,bS]at H;let ⟨y,L,e⟩:=H;cases e;split at L
  .rename_i e;cases L;exact .inl ⟨e.symm,J⟩
  .rename_i e;exact .inr ⟨λh=>e h.symm,L⟩
 have u:∀d b,U d M=ad b->(St.kn ⟨sl,M,nx,gd⟩) (.m d)=ad (.b b):=λd b H=>by simp[St.kn,H]
 refine⟨h.size,h.defers,λt v q=>?_,λd b H=>?_,λd P b r X A D E G=>?_,λc x o d i=>?_,λd x o=>?_,h.sub,h.below,h.le,h.fresh,λd i=>?_⟩
 .simp only[St.kn,bS]at q;let ⟨y,L,e⟩:=q;cases e;exact a8.mono B (λd i e=>hz t v L<|e▸i) (h.dv t v<|by simp[St.kn,L])
 .rcases Q d b H with⟨rfl,rfl⟩|⟨l,n⟩
  .exact⟨[],w,p,J,du.mono B (λd i=>(hc d i).1) hr⟩
  .exact(h.cA d b<|u d b n).step z l (λj I e=>(T d b n).2<|e▸I)<|λ_ _ N _=>N.elim
 .have l:∀d b,(St.kn ⟨sl,(0,.dI 0 [] f)::M,nx',gd'⟩) (.m d)=ad (.b b)->cy ((g.new 0<|mG w).γ d)=ad X->U d M=ad b/\cy (g.γ d)=ad X:=by
   intro d b H C;rcases Q d b H with⟨rfl,rfl⟩|⟨l,n⟩
   .rw[p]at C;simp[mG,cy]at C
   .rw[B.γ d l]at C;exact⟨n,C⟩
  let ⟨p1,O⟩:=l d b A E;let ⟨q1,R⟩:=l P r D G;exact h.inj d P b r X (u _ _ p1) (u _ _ q1) O R
 .cases c with
  |s j=>
   exact h.ak (.s j) x o d i
  |m j=>
   cases x with
   |v _=>simp[St.kn]at o
   |b y=>
    rcases Q j y o with⟨rfl,rfl⟩|⟨l,n⟩
    .have:d∈eG f:=by simpa[Info.ak,aD.ak,eG]using i
     exact(hc d this).2
    .exact h.ak (.m j) (.b y) (u j y n) d i
 .cases x with
  |v _=>simp[St.kn]at o
  |b y=>
   rcases Q d y o with⟨rfl,rfl⟩|⟨l,n⟩
   .exact hk
   .exact h.dn d (.b y)<|u d y n
 .have:d=0:=by have:d<1:=i;omega
  subst this;exact⟨hk,p⟩
def aJ.MS{k}{i}(h:aJ F (·<k) i g W a){d}(o:F.k0=1)(f:F.γ0 0=mG d){caps}(l:i (.m 0)=ad (.b<|.dI 0 [] caps)):du g caps d:=by
 let ⟨us,vs,e,_,h2⟩:=h.cA 0 _ l;have n:=(h.fv 0 G).2;rw[n,f]at e;simp only[mG,Value.func.injEq]at e;have:d=vs:=by have:=e.2.2;simpa using this
 rw[this];exact h2
end
section
variable{P:bI}{tt:TT}
inductive SG(P:bI)(n:V)(a:Array aX)(nx:V):V->St->V->St->Prop
 |nil {i:V} {st b:St} (h:b.kn=st.kn):SG P n a nx i st i b
 |cons {i g:V} {st d f:St} {k:Ks} (h:lr P n a i st d (1000000*nx+1000*i) k) (t:SG P n a nx (i+1) d g f):SG P n a nx i st g f
def SG.le{n}{a}{f i d}{g b}(h:SG P n a f i g d b):i<=d:=by
 induction h with
 |nil _=>exact aT _
 |cons _ _ k=>omega
def SG.sound{n}{d}{o i m}{u f}(h:SG P n d o i u m f):∀(b:dm),b.n=n->vp b.rd d->∀(Q:Exit->Act->cx->Prop)(rest:E V) g W a,aJ b (·<1000000*o+1000*i) u.kn g W a->
  (∀v p s,aJ b (·<1000000*o+1000*m) f.kn v p s->wpOpsIn (di b.rd) 0 P d Q rest s p)->wpOpsIn (di b.rd) 0 P d Q (H5 i (m-i)++rest) a W:=by
 induction h with
 |nil h=>
  intro b w k Q rest g W a x B
  rw[kg]
  exact B g W a (by rw[h];exact x)
 |@cons i m u T f e h t X=>
  intro b w k Q rest g W a x B
  have c:=t.le
  let ⟨rd,wr,C,H,K,_,_⟩:=h
  rw[(G:m-i=(m-(i+1))+1),Df,ln,wpOpsIn_cons]
  refine Kv (k i) ?_
  refine C b w _ (·<1000000*o+1000*i) _ g W a _ (H3 _) x H<|λv p s L=>?_
  rw[<-K]at L
  exact X b w k Q rest v p s (L.weaken<|λq l=>by rcases l with l|l<;>omega) B
def aaW{n w:V}{a:Array aX}(l:cq P tt=ae):∀(m:E aX)(i:V)(s:St)(p:Pr)(t:E Ks){d:E aX}{u j:V}{b st2:St}{v:Pr}{f:E Ks},runs tt n w ah a.toList m i s p t=(d,u,b,v,f)->v->(∀g o,m[g]? =ad o->a[i+g]? =ad o)->(p->SG P n a w u b j st2->SG P n a w i s j st2)/\p
 |[],i,s,p,t,d,u,j,b,st2,v,f,h,hp,_=>by simp only[runs,bK]at h;obtain⟨rfl,rfl,rfl,rfl,rfl⟩:=h;exact⟨λ_ h=>h,hp⟩
 |o::m,i,s,p,t,d,u,j,b,st2,v,f,h,hp,hg=>by
  rw[runs]at h;split at h
  .rename_i x g k K;let ⟨L,g2⟩:=aaW l m (i+1) x (.an p g) (g8 ah t k) (j:=j) (st2:=st2) h hp (λr Q B=>by have:=hg (r+1) Q (by simpa using B);rwa[(G:i+(r+1)=i+1+r)]at this);have H:p.h/\g.h:=by have:(Pr.an p g).h:=g2;cases p<;>cases g<;>simp_all[Pr.an,Pr.h]
   refine⟨λ_ C=> .cons (XF l (hg 0 o J) K H.2)<|L g2 C,H.1⟩
  .simp only[bK]at h;obtain⟨rfl,rfl,rfl,rfl,rfl⟩:=h;exact⟨λ_ h=>h,hp⟩
end
structure RgD where
 n0:V
 a0:Act
 S0:E (V×AV)
 caps:E (Bool×E C)
 ws:E aR
 l:V
 D:V
 fnid:iK
 p:V
 dV:eU
 bd:eU
 ms:E V
def uC:uz:=λ_ a _=>a=[]
def EW:zr uC:=λ_ _ _ _ _ h=>h
def Ik(f:Bool)(d:V)(Mo:E (V×aD)):gM:=λF e a W=>e=(if f then .normal else .exit d)/\∃g b,1<=b/\aJ (F.dr []) (·<1000000*b) (St.kn ⟨[],Mo,b,[]⟩) g W a
def nc(b:Bool)(a:V):Option eU:=if b then none else ad (.exit a)
section
variable{P:bI}{R:RgD}
def aJ.restrict{i}{K K':V->Prop}{f}{g}{W}{a}(h:aJ i K f g W a)(l:∀k x,f k=ad x->∀b∈x.ak,K' b)(n:∀b x,f (.m b)=ad x->K' b)(o:∀b,b<i.k0->K' b):aJ i K' f g W a:=
 ⟨h.size,h.defers,h.dv,h.cA,h.inj,l,n,h.sub,h.below,h.le,h.fresh,λb d=>⟨o b d,(h.fv b d).2⟩⟩
end
def OM:uz:=λF a W=>F.k0=0/\F.rd=none/\∃mk:E V,a=mk.map jz/\(∀D∈mk,W.heap[D]? =ad (.deferred<|ad [])/\F.w0.heap.size<=D)/\mk.Nodup
def iB:zr OM:=λ_ _ _ _ d ⟨f,g,mk,h,a,i⟩=>⟨f,g,mk,h,λD b=>⟨d.same _ _ (a D b).1 J,(a D b).2⟩,i⟩
def lV(a:E (V×C)):E (V×AV):=a.map λs=>(s.1,.c s.2)
def qx(a:E (V×C)):E (Bool×E C):=a.map λs=>(ah,[s.2])
def MU{t:V}{v:AV}:∀{a:E (V×C)},U t (lV a)=ad v->∃b,v= .c b/\U t a=ad b
 |[],h=>by simp[lV,U]at h
 |s::a,h=>by
  simp only[lV,gJ,U]at h⊢;by_cases d:s.1=t
  .rw[q d]at h⊢;cases h;exact⟨s.2,J,J⟩
  .rw[y d]at h⊢;exact MU h
def aaX{g:Gh}:∀{a b:E (Bool×E C)}{d vs:E aR},du g a d->du g b vs->du g (a++b) (d++vs)
 |[],_,_,_,h,f=>by simp only[du]at h;subst h;exact f
 |s::a,b,d,vs,h,f=>by obtain⟨v,i,rfl,k,l⟩:=h;exact⟨v,i++vs,J,k,aaX l f⟩
def aaY{g:Gh}{f:V->aR}:∀{a:E (V×C)},(∀s∈a,cN g s.2 (f s.1))->du g (qx a) (a.map λs=>f s.1)
 |[],_=>rfl
 |s::a,h=>⟨_,_,J,h s ax,aaY λx hx=>h x lj⟩
def Tc{g:Gh}{f:V->aR}{d:E (Bool×E C)}{vs:E aR}:∀{a:E (V×C)},du g (qx a++d) ((a.map λs=>f s.1)++vs)->(∀s∈a,cN g s.2 (f s.1))/\du g d vs
 |[],h=>⟨λs k=>(by cases k),h⟩
 |s::a,h=>by
  let ⟨v,m,i,l,h2⟩:=h;simp only[gJ,ln,KK]at i;obtain⟨rfl,rfl⟩:=i;let ⟨i1,i2⟩:=Tc h2;refine⟨λx b=>?_,i2⟩;rcases bZ.1 b with rfl|b
  .exact l
  .exact i1 x b
structure nS where
 n0:V
 a0:Act
 S0:E (V×AV)
 caps:E (Bool×E C)
 ws:E aR
 l:V
 D:V
 fnid:iK
 p:V
 q:V
 dV:eU
 bd:eU
 ms:E V
def nS.O(a:nS)(b:Option eU):uz:=λF d W=>F.k0=1/\F.γ0 0=mG a.ws/\F.rd=none/\d=[]/\F.w0.heap.size<=a.l/\W.heap[a.l]? =ad (.loop<|jl a.fnid a.a0.tmps [a.p,a.q] a.dV a.bd a.D b)/\∀D∈a.ms,W.heap[D]? =ad (.deferred<|ad [])
def nS.Td(b:nS) pd:zr (b.O pd):=λ_ _ _ _ a ⟨d,f,g,h,i,k,l⟩=>⟨d,f,g,h,i,a.same _ _ k J,λD m=>a.same _ _ (l D m) J⟩
structure nS.Ok(a:nS):Prop where
 hp:a.p<a.n0
 hq:a.q<a.n0
 fe:a.p≠a.q
 gw:a.a0.tmps.size=a.n0
 qi:a.l∉a.ms
 xF:lR a.dV=ae
 xG:lR a.bd=ae
 cap:∀g,du g a.caps a.ws->∀t v,U t a.S0=ad v->a8 g v (a.a0.tmps.getD t undef)
 sp:U a.p a.S0=none
section
variable{P:bI}{R:nS}
def amf(x:R.Ok){xid}{i}{v v2}{m}{uD Mo}{bo}(Te:qv uD=ae)(Tf:qv i.mem=ae)(Il:1<=m)(MV:1<=i.nx)
  (hA:TJ P R.n0 R.dV ⟨(R.q,v2)::(R.p,v)::R.S0,uD,m,[]⟩ uC (λs B a W=>B= .normal/\∃g,aJ (s.dr []) (kb i) i.kn g W a))
  (hB:TJ P R.n0 R.bd i uC (Ik bo xid Mo))
 {s}{k}{slI}{nxI}{gdI}{g}{W}{aI}(h:aJ s (·<k) (St.kn ⟨slI,uD,nxI,gdI⟩) g W aI) (hk:k<=1000000*m) (MW:U 0 uD=ad (.dI 0 [] R.caps)) (Im:∀t v,U t R.S0=ad v->∀Q∈v.ak,Q<k)
 {u u2}(hv:a8 g v u) (uh:v.ak=[]) (xH:a8 g v2 u2) (Tg:v2.ak=[]) (hO:R.O none s [] W) {Rr:Ending->cx->Prop}
  (hR:∀g' W' f a',1<=f->aJ {s with n:=R.n0,ds:=[],rd:=ad R.l} (·<1000000*f) (St.kn ⟨[],Mo,f,[]⟩) g' W' a'->cE g.H g'.H->KeepsOthers W W/\R.O (nc bo xid) s [] W'->Rr (.returned<|.bool bo) W'):
  RoundIn (di none) 0 P R.l R.fnid ((R.a0.tmps.setIfInBounds R.p u).setIfInBounds R.q u2) R.dV R.bd W Rr:=by
 let ⟨S,o2,o3,o4,Z,o6,o7⟩:=hO
 have j:=h.MS S o2 (caps:=R.caps) (by simp[St.kn,MW])
 have h0:aJ {s with n:=R.n0,ds:=[],rd:=ad R.l} (·<1000000*m) (St.kn ⟨(R.q,v2)::(R.p,v)::R.S0,uD,m,[]⟩) g W {tmps:=(R.a0.tmps.setIfInBounds R.p u).setIfInBounds R.q u2,defers:=[]}:=by
  refine aJ.frame (h.weaken<|λQ d=>fO d hk) (by simpa using x.gw) J (λt w C=>?_)<|λQ b hb=>hb;simp only[U]at C;split at C
  .rename_i B;cases C;subst B;have T:R.q<R.a0.tmps.size:=by rw[x.gw];exact x.hq
   refine⟨by simpa[T]using xH,λQ d=>by rw[Tg]at d;cases d⟩
  .rename_i e2;have h3:=kH (xs:=R.a0.tmps.setIfInBounds R.p u) (a:=u2) e2;split at C
   .rename_i B;cases C;subst B;have T:R.p<R.a0.tmps.size:=by rw[x.gw];exact x.hp
    refine⟨?_,λQ d=>by rw[uh]at d;cases d⟩;rw[ls,h3];simpa[T]using hv
   .rename_i B;have h1:=x.cap g j t w C;refine⟨?_,λQ d=>fO (Im t w C Q d) hk⟩;have:=kH (xs:=R.a0.tmps) (a:=u) B;rw[ls,h3,this,<-ls];exact h1
 refine roundIn_of_wpIn (F:=di none) A ?_
 refine wpIn_mono (F:=di<|ad R.l) (hA (({s with n:=R.n0,ds:=[],rd:=ad R.l}:dm).re W g 1) J (aT _) (.inr x.xF) [] g W _ (aJ.re1 h0 G<|Ih (st:=⟨(R.q,v2)::(R.p,v)::R.S0,uD,m,[]⟩) Te) J) ?_
 rintro e1 a1 W1 ⟨rfl,gB,hB1⟩
 let ⟨b1,b2,b3⟩:=aJ.un1 h0 (Nat.le_of_eq S) (k':=1000000*i.nx) hB1
 have X:=b2.same _ _ o6 J
 refine⟨_,run_beginRound X J,?_⟩
 have r:R.l<W1.heap.size:=(fb.1 X).1
 have y:=b1.wx<|WX.putObj (.loop {jl R.fnid R.a0.tmps [R.p,R.q] R.dV R.bd R.D none with state:= .busy}) X J Z
 refine wpIn_mono (F:=di<|ad R.l) (hB (({s with n:=R.n0,ds:=[],rd:=ad R.l}:dm).re _ gB 1) J (aT _) (.inr x.xG) [] gB _ _ (aJ.re1 (k:=1000000*i.nx) y G<|Ih Tf) J) ?_
 rintro e2 a2 V ⟨he2,gC,f,BR,ER⟩
 let ⟨c1,c2,c3⟩:=aJ.un1 y (Nat.le_of_eq S) (k':=1000000*f) ER
 have c:=c2.same _ _ (SC (o:= .loop {jl R.fnid R.a0.tmps [R.p,R.q] R.dV R.bd R.D none with state:= .busy}) r) J
 have z:R.l<V.heap.size:=(fb.1 c).1
 have E:∀Y:Option eU,Y=nc bo xid->R.O Y s [] (V.putObj R.l<|.loop<|jl R.fnid R.a0.tmps [R.p,R.q] R.dV R.bd R.D Y):=by
  intro Y _;refine⟨S,o2,o3,J,Z,SC z,λD' I=>?_⟩;have N:D'≠R.l:=λB=>x.qi<|B▸I
  rw[BO N];refine c2.same _ _ ?_ J;rw[BO N];exact b2.same _ _ (o7 D' I) J
 have K:=run_endRound (P:=P) (nc bo xid) c
 have C:∀o',aJ {s with n:=R.n0,ds:=[],rd:=ad R.l} (·<1000000*f) (St.kn ⟨[],Mo,f,[]⟩) gC (V.putObj R.l o') a2:=λo'=>c1.wx<|WX.putObj o' c J Z
 have L:∀(w:cx),w=V.putObj R.l (.loop<|jl R.fnid R.a0.tmps [R.p,R.q] R.dV R.bd R.D (nc bo xid))->Rr (.returned<|.bool (nc bo xid).isNone) w:=by
  rintro w rfl;have:(nc bo xid).isNone=bo:=by unfold nc;cases bo<;>rfl
  rw[this];exact hR gC _ f a2 BR (C _) (b3.H.trans c3.H) ⟨KeepsOthers.refl _,E _ J⟩
 subst he2
 cases bo with
 |true=>exact⟨_,_,K,L _ J⟩
 |false=>exact⟨_,_,K,L _ J⟩
def aaZ(ok:R.Ok){n}{f}{h H Th}{L i d j x x2:V}{o:aX}{iz}(ho:f[i]? =ad o)(SF:o.dst=ad d)(bO:o.op= .call ⟨.value<|.tmp j,#[.tmp x,.tmp x2],iz⟩)
  (hgd:o.guard=none\/∃lz want tg,o.guard=ad (lz,want)/\rj f.toList lz=ad tg/\U tg H.sl=ad (.c<|.B want))
  (pre:SG P n f h.nx 0 h i H) {v v2}(hj:U j H.sl=ad (.c<|.V<|.func (.yield R.l) #[] #[])) (hx:U x H.sl=ad v) (uh:v.ak=[]) (hx2:U x2 H.sl=ad v2) (Tg:v2.ak=[]) (df:d<n)
 {M Mo}(zt:H.mem=M) (MW:U 0 M=ad (.dI 0 [] R.caps)) (hgo:U 0 Mo=ad (.dI 0 [] R.caps))
 {slk}(v5:∀t u,U t slk=ad u->U t H.sl=ad u/\t≠d/\(u.ak=[]\/(∀g g' val,du g R.caps R.ws->a8 g u val->du g' R.caps R.ws->a8 g' u val)/\∀L∈u.ak,L<1000000*h.nx))
  (Sl:qv h.mem=ae) (Te:qv M=ae) (amo:qv Mo=ae) (BV:∀L b,U L Mo=ad b->L<1000000*h.nx/\∀j∈b.ak,j<1000000*h.nx) (hnx:1<=h.nx) (hi:f.size<=1000)
 {xid}{stB:St} {nxr:V} {bo:Bool} (Tf:qv stB.mem=ae) (Il:h.nx+1<=nxr) (MV:1<=stB.nx) (Im:∀t v,U t R.S0=ad v->∀L∈v.ak,L<1000000*h.nx)
  (hA:TJ P R.n0 R.dV ⟨(R.q,v2)::(R.p,v)::R.S0,M,nxr,[]⟩ uC (λT cz a W=>cz= .normal/\∃g,aJ (T.dr []) (kb stB) stB.kn g W a))
  (hB:TJ P R.n0 R.bd stB uC (Ik bo xid Mo)) {gd1:E (V×Bool)}
  (suf:SG P n f h.nx (i+1) ⟨(d,.c<|.B bo)::slk,Mo,h.nx,gd1⟩ f.size Th) {Q:gM} (cont:hP n .normal ⟨Th.sl,Th.mem,h.nx+1,[]⟩ (R.O<|nc bo xid) Q):
  TJ P n (.region L f ah) h (R.O none) Q:=by
 intro T hF m5 jR ds g W a hh hO
 let ⟨o1,o2,o3,o4,o5,o6,o7⟩:=hO
 subst o4
 have z:vp T.rd f:=jR.region
 have als:i<f.size:=(fb.1 ho).1
 have Y:(di T.rd:Fence)=di none:=by rw[o3]
 rw[Y]
 refine wpIn_region ?_
 have r:cw f.size=H5 0 (i-0)++(i::(H5 (i+1) (f.size-(i+1))++[])):=by rw[ik,Kx,<-Df];have:f.size-(i+1)+1=f.size-i:=G;rw[this];have:=List.range'_append (s:=0) (m:=i-0) (n:=f.size-i) (step:=1);simp only[iG,eP]at this;rw[BW]at this⊢;rw[this];congr 1;omega
 rw[r]
 have A:=pre.sound ((T.dr []).re W g<|1000000*h.nx) hF z
 have amq:(di ((T.dr []).re W g<|1000000*h.nx).rd:Fence)=di none:=Y
 rw[amq]at A
 refine A _ _ g W a (aJ.re (k:=1000000*h.nx) hh<|Ih Sl) ?_
 intro g1 W1 C SH
 let ⟨K,EP,MA⟩:=aJ.un (k:=1000000*h.nx) hh SH
 rw[wpOpsIn_cons]
 unfold wpOpIn
 rw[ho]
 have Z:gx o (yielded f C.tmps)=ae:=by
  unfold gx;rcases hgd with hg|⟨lz,want,tg,hg,amr,hb⟩
  .rw[hg]
  .rw[hg];have:=K.dv tg (.c<|.B want) (by simp[St.kn,hb]);simp only[DG amr this];simp
 simp only[Z,cd]
 refine⟨λ_ _=>trivial,?_⟩
 have SI:C.tmps.getD j undef= .func (.yield R.l) #[] #[]:=K.dv j (.c<|.V<|.func (.yield R.l) #[] #[]) (by simp[St.kn,hj])
 have yY:a8 g1 v (C.tmps.getD x undef):=K.dv x v (by simp[St.kn,hx])
 have ams:a8 g1 v2 (C.tmps.getD x2 undef):=K.dv x2 v2 (by simp[St.kn,hx2])
 have X:=EP.same _ _ o6 J
 have hex:(o.semAt (di none).round C.eval).run P W1= .ok (.round R.l R.fnid ((R.a0.tmps.setIfInBounds R.p<|C.tmps.getD x undef).setIfInBounds R.q<|C.tmps.getD x2 undef) R.dV R.bd) W1:=by
  show(execOp C.eval o).run P W1=_;have I:=run_yield (P:=P) (args:= #[C.tmps.getD x undef,C.tmps.getD x2 undef]) X J;rw[execOp,bO];have e1:C.eval (.tmp j)= .func (.yield R.l) #[] #[]:=SI;have e3:C.eval (.tmp x)=C.tmps.getD x undef:=rfl;have e4:C.eval (.tmp x2)=C.tmps.getD x2 undef:=rfl;have e2:(#[Operand.tmp x,Operand.tmp x2]:Array Operand).map C.eval= #[C.tmps.getD x undef,C.tmps.getD x2 undef]:=by simp[e3,e4]
  simp only[resolve,e1,e2,xq,pure_bind,invoke];simpa[jl]using I
 rw[hex]
 simp only[Oper.uponIn_round]
 refine⟨λhh=>De,?_⟩
 have tx:St.kn ⟨H.sl,M,H.nx,H.gd⟩=H.kn:=by rw[<-zt]
 have N:aJ (T.dr []) (·<1000000*h.nx+1000*i) (St.kn ⟨H.sl,M,H.nx,H.gd⟩) g1 W1 C:=by rw[tx];exact K
 refine amf (Mo:=Mo) (bo:=bo) (xid:=xid) ok Te Tf G MV hA hB N G MW (λt w hw L a6=>fO (Im t w hw L a6) G) yY uh ams Tg ⟨o1,o2,o3,J,o5,X,λD hD=>EP.same _ _ (o7 D hD) J⟩ ?_
 intro g2 W2 nx' a' BR hC amt Ti
 let ⟨_,Ti⟩:=Ti
 have amu:=N.MS o1 o2 (caps:=R.caps) (by simp[St.kn,MW])
 have amv:=hC.MS o1 o2 (caps:=R.caps) (by simp[St.kn,hgo])
 simp only
 rw[SF]
 have zl:aJ (T.dr []) (·<1000000*h.nx+1000*(i+1)) (St.kn ⟨(d,.c<|.B bo)::slk,Mo,h.nx,gd1⟩) g2 W2 {C with tmps:=C.tmps.setIfInBounds d<|.bool bo}:=by
  have SU:aJ {T with n:=R.n0,ds:=[],rd:=ad R.l} (·<1000000*h.nx+1000*(i+1)) (St.kn ⟨[],Mo,nx',[]⟩) g2 W2 a':=by
   refine hC.restrict (λkey y I L a6=>?_) (λL y I=>?_)<|λL a6=>?_
   .cases key with
    |s t=>simp[St.kn,U]at I
    |m lz=>
     simp only[St.kn,bS]at I
     let ⟨b,hb,cz⟩:=I
     subst cz
     have:=(BV lz b hb).2 L a6
     omega
   .simp only[St.kn,bS]at I;let ⟨b,hb,cz⟩:=I;have:=(BV L b hb).1;omega
   .have:L<T.k0:=a6;omega
  have vK:=aJ.frame (sl':=(d,.c<|.B bo)::slk) (M':=Mo) (nx':=h.nx) (gd':=gd1) (n':=T.n) (ds':=[]) (rd':=T.rd) (a':={C with tmps:=C.tmps.setIfInBounds d<|.bool bo}) SU (by have:=K.size;simpa[dm.dr]using this) K.defers (λt w hw=>by
   simp only[U]at hw;split at hw
   .rename_i cz;cases hw;subst cz;have gw:d<C.tmps.size:=by rw[K.size];show d<T.n;rw[hF];exact df
    refine⟨by show _=_;simp[gw],λL a6=>wY⟩
   .rename_i cz;let ⟨s1,s2,s3⟩:=v5 t w hw;have v7:a8 g1 w (C.tmps.getD t undef):=K.dv t w (by simp[St.kn,s1]);have Tj:(C.tmps.setIfInBounds d<|.bool bo).getD t undef=C.tmps.getD t undef:=by have:=kH (xs:=C.tmps) (a:=Value.bool bo) cz;simp[this]
    rw[Tj];rcases s3 with s3|⟨s3,s4⟩
    .refine⟨?_,λL a6=>by rw[s3]at a6;cases a6⟩;have h5:=v7.iy s3 amt g2.γ;exact h5
    .exact⟨s3 g1 g2 _ amu v7 amv,λL a6=>by have:=s4 L a6;omega⟩) (λL b hb=>hb)
  exact vK
 have S:=suf.sound ((T.dr []).re W2 g2<|1000000*h.nx+1000*(i+1)) hF z
 have amw:(di ((T.dr []).re W2 g2<|1000000*h.nx+1000*(i+1)).rd:Fence)=di none:=Y
 rw[amw]at S
 refine S _ _ g2 W2 _ (aJ.re (k:=1000000*h.nx+1000*(i+1)) zl<|Ih (st:=⟨(d,.c<|.B bo)::slk,Mo,h.nx,gd1⟩) amo) ?_
 intro g3 W3 a3 SJ
 let ⟨MB,MC,SK⟩:=aJ.un (k:=1000000*h.nx+1000*(i+1)) zl SJ
 exact cont T hF m5 [] g3 W3 a3 (MB.weaken<|λL a6=>by have:L<1000000*h.nx+1000*f.size:=a6;show L<1000000*(h.nx+1);omega) (R.Td _ T [] W2 W3 MC Ti)
end
def nS.Q(f:nS)(h:Bool)(d:V)(Mo:E (V×aD)):gM:=λF e a W=>(e= .normal\/e= .ret)/\(∃g b,1<=b/\aJ (F.dr []) (·<1000000*b) (St.kn ⟨[],Mo,b,[]⟩) g W a)/\f.O (nc h d) F [] W
section
variable{P:bI}
def aa1{n0 nI}{T}{p p2}{dV bd}{B}{Q}{cid f:V}{fn}{cb}{capsI}{wsI}{Sc}{M Mo}{bo}{xid}
  (hg:B.ev T=ad (.c<|.X cid)) (pQ:U cid B.mem=ad (.dI f [] capsI)) (A0:rz capsI=ad wsI) (BS:P.funcs[f]? =ad fn) (w5:fn.body=ad cb) (hnI:fn.ntmps=nI) (p8:(fn.name != "runtime.NumGoroutine")=ae) (Hi:fn.results= #[]) (hlen:Z wsI+1<=nI)
  (hnx:1<=B.nx) (hp:p<n0) (BX:p2<n0) (fe:p≠p2) (xF:lR dV=ae) (xG:lR bd=ae)
  (MY:∀s∈Sc,U s.1 B.sl=ad (.c s.2)) (SE:U p (lV Sc)=none) (hz:∀t v,U t B.sl=ad v->0∉v.ak) (hM:∀d b,U d M=ad b->U d B.mem=ad b) (Tk:∀d b,U d B.mem=ad b->d≠0/\0∉b.ak)
  (BV:∀d b,U d Mo=ad b->d≠0/\d<1000000*B.nx/\∀ix∈b.ak,ix<1000000*B.nx)
  (hI:∀h:nS,h.Ok->h.n0=n0->h.S0=lV Sc->h.caps=qx Sc++capsI->h.p=p->h.q=p2->h.dV=dV->h.bd=bd->TJ P nI cb ⟨(0,.c<|.V<|.func (.yield h.l) #[] #[])::dy 1 wsI,(0,.dI 0 [] (qx Sc++capsI))::M,B.nx,[]⟩ (h.O none) (h.Q bo xid<|(0,.dI 0 [] (qx Sc++capsI))::Mo))
  (hk:hP n0 (if bo then .normal else .exit xid) ⟨lV Sc,Mo,B.nx,[]⟩ OM Q):TJ P n0 (.rangeFunc T ⟨[p,p2]⟩ dV bd) B OM Q:=by
 intro F hF m5 jR ds g W a hh hO
 obtain⟨ok0,ord,mk,rfl,mj,amy⟩:=hO
 let ⟨sl,mem,nx,gd⟩:=B
 simp only at pQ hnx MY hz hM Tk BV hI hk
 have BN:a.eval T=g.γ cid:=dq hh _ T _ hg<|dX _ T
 have tx:(St.kn ⟨sl,mem,nx,gd⟩) (.m cid)=ad (.b<|.dI f [] capsI):=by simp[St.kn,pQ]
 let ⟨SM,K,hγ,r,MH⟩:=hh.cA cid _ tx
 have r:SM=[]:=r
 subst r
 have Dg:=Hs A0 MH
 have z:∀ix∈eG capsI,ix<1000000*nx/\ix≠0:=λix hj=>by
  have h1:ix∈(aD.dI f [] capsI).ak:=by simpa[aD.ak,eG]using hj
  exact⟨hh.ak (.m cid) _ tx ix h1,λe=>(Tk cid _ pQ).2<|e▸h1⟩
 have amz:mZ P f=ae:=by simp[mZ,BS,w5,p8]
 have amA:∀s∈Sc,cN g s.2 (a.tmps.getD s.1 undef):=λs hs=>hh.dv s.1 (.c s.2) (by simp[St.kn,MY s hs])
 have I:∀s∈Sc,∀d∈s.2.ak,d<1000000*nx/\d≠0:=λs hs d a6=>⟨hh.ak (.s s.1) (.v<|.c s.2) (by simp[St.kn,MY s hs]) d a6,λe=>hz s.1 _ (MY s hs)<|e▸a6⟩
 rw[ord]
 refine wpIn_rangeFunc (F:=di none)<|λfnid _=>?_
 obtain⟨h,i⟩:∃h:nS,h={n0:=n0,a0:=a,S0:=lV Sc,caps:=qx Sc++capsI,ws:=(Sc.map λs=>a.tmps.getD s.1 undef)++K,l:=W.heap.size+1,D:=W.heap.size,fnid:=fnid,p:=p,q:=p2,dV:=dV,bd:=bd,ms:=W.heap.size::mk}:=⟨_,J⟩
 obtain⟨H,N⟩:∃H,(W.alloc<|.deferred<|ad []).alloc (.loop {state:= .ready,pending:=none,fn:=fnid,tmps:=a.tmps,params:= #[p,p2],assign:=dV,body:=bd,defers:=W.heap.size})=H:=⟨_,J⟩
 refine⟨W.heap.size+1,[jz W.heap.size],H,{target:= .fn (.func f) K.toArray,args:= #[.func (.yield<|W.heap.size+1) #[] #[]]},H,f,#[.func (.yield<|W.heap.size+1) #[] #[]]++K.toArray,H,?_,?_,λ_ _=>trivial,Lx amz,λhh=>De,?_⟩
 .rw[<-N];exact run_enterLoop_outer fnid a.tmps #[p,p2] dV bd
 .simp only[resolve,BN,hγ,xq];simp[Act.eval]
 have SN:WX F.w0.heap.size W H:=by rw[<-N];exact(WX.alloc _ _ _).trans<|WX.alloc _ _ _
 have hB:F.w0.heap.size<=W.heap.size:=hh.below.size
 have SO:H.heap[W.heap.size]? =ad (.deferred<|ad []):=by rw[<-N];exact(Below.heap_alloc _ _ _ ax).trans<|SP W _
 have H7:H.heap[W.heap.size+1]? =ad (.loop<|jl fnid a.tmps [p,p2] dV bd W.heap.size none):=by rw[<-N];have:=SP (w:=W.alloc<|.deferred<|ad [])<|.loop {state:= .ready,pending:=none,fn:=fnid,tmps:=a.tmps,params:= #[p,p2],assign:=dV,body:=bd,defers:=W.heap.size};rwa[World.size_alloc]at this
 have H8:∀D∈W.heap.size::mk,H.heap[D]? =ad (.deferred<|ad []):=by
  intro D hD;rcases bZ.1 hD with rfl|hD
  .exact SO
  .have h1:=(mj D hD).1;rw[<-N];exact(Below.heap_alloc _ _ _<|by have:=(fb.1 h1).1;simp;omega).trans<|(Below.heap_alloc _ _ _ (fb.1 h1).1).trans h1
 have qi:W.heap.size+1∉W.heap.size::mk:=by intro hc;have:=H8 _ hc;rw[H7]at this;cases this
 have amB:du g h.caps h.ws:=by rw[i];exact aaX (aaY (f:=λt=>a.tmps.getD t undef) amA) MH
 have hcm:∀d∈eG h.caps,d≠0/\d<1000000*nx:=by
  rw[i];have key:∀{L:E (V×C)},(∀s∈L,∀d∈s.2.ak,d<1000000*nx/\d≠0)->∀d∈eG (qx L++capsI),d≠0/\d<1000000*nx:=by
   intro L;induction L with
   |nil=>intro _ d a6;exact⟨(z d a6).2,(z d a6).1⟩
   |cons s L ih=>
    intro hL d a6
    simp only[qx,gJ,ln,eG,be]at a6
    rcases a6 with a6|a6
    .have:d∈s.2.ak:=by simpa[cp]using a6
     exact⟨(hL s ax d this).2,(hL s ax d this).1⟩
    .exact ih (λx hx=>hL x lj) d a6
  exact key I
 have ER:=aJ.ghost (k:=1000000*nx) (hh.wx (W':=H) SN) (nx':=nx) (gd':=[]) G ok0 hz Tk amB hcm
 have ok:h.Ok:=by
  rw[i];refine⟨hp,BX,fe,?_,qi,xF,xG,λg' BD t v hv=>?_,SE⟩
  .have:=hh.size;simpa[dm.dr,hF]using this
  .obtain⟨c,rfl,hc⟩:=MU hv;exact(Tc (f:=λt=>a.tmps.getD t undef) BD).1 (t,c)<|v8 hc
 have m6:Z K=Z wsI:=vI Dg
 have MI:(#[.func (.yield<|W.heap.size+1) #[] #[]]++K.toArray:Array aR)=(.func (.yield<|W.heap.size+1) #[] #[]::K).toArray:=ax
 rw[MI]
 refine callsIn_of_wp (F:=di none) BS w5 A ?_
 have SS:aJ ({F with n:=nI,ds:=[],rd:=none,k0:=1,γ0:=λ_=>mG h.ws}:dm) (·<1000000*nx) (St.kn ⟨(0,.c<|.V<|.func (.yield h.l) #[] #[])::dy 1 wsI,(0,.dI 0 [] (qx Sc++capsI))::M,nx,[]⟩) (g.new 0<|mG h.ws) H {tmps:=(.func (.yield<|W.heap.size+1) #[] #[]::K).toArray++qo (fn.ntmps-(.func (.yield<|W.heap.size+1) #[] #[]::K).toArray.size) undef,defers:=[]}:=by
  refine aJ.frame (F:={F.dr (mk.map jz)with k0:=1,γ0:=λ_=>mG h.ws}) ER (by simp[m6,hnI];omega) J (λt v hv=>?_)<|λd b hb=>?_
  .simp only[U]at hv;split at hv
   .rename_i e;cases hv;subst e;refine⟨?_,λd a6=>wY⟩;show _=_;rw[i,ls,tO ax];simp
   .rename_i e;let ⟨h1,u,h2,h3,h4⟩:=lv wsI K 1 Dg t v hv;have jh:t-1<Z K:=(pS.1 h2).1;have S:∀d∈v.ak,d<1000000*nx/\d≠0:=λd a6=>z d (Bn A0 d<|h4 d a6)
    refine⟨?_,λd a6=>(S d a6).1⟩;rw[ls,tO bX];have Tj:(.func (.yield<|W.heap.size+1) #[] #[]::K).toArray[t]? =ad u:=by rw[tE,(G:t=(t-1)+1),vu,h2]
    rw[Tj];have zm:fL (λd=>d≠0) g (g.new 0<|mG h.ws):=⟨cE.refl _,λd a6=>by simp[Gh.new,a6]⟩;exact a8.mono zm (λd a6=>(S d a6).2) h3
  .simp only[U]at hb⊢;split at hb
   .rename_i e;cases hb;subst e;rw[i];simp
   .rename_i e;rw[y e];exact hM d b hb
 have hO1:h.O none ({F with n:=nI,ds:=[],rd:=none,k0:=1,γ0:=λ_=>mG h.ws}:dm) [] H:=by
  refine⟨J,J,J,J,?_,?_,?_⟩
  .rw[i];show F.w0.heap.size<=W.heap.size+1;omega
  .rw[i];exact H7
  .rw[i];exact H8
 have iW:=hI h ok (by rw[i]) (by rw[i]) (by rw[i]) (by rw[i]) (by rw[i]) (by rw[i]) (by rw[i]) ({F with n:=nI,ds:=[],rd:=none,k0:=1,γ0:=λ_=>mG h.ws}:dm) J (aT _) (.inl J) [] (g.new 0<|mG h.ws) H _ SS hO1
 refine wpIn_mono (F:=di none) iW ?_
 rintro e a' W' ⟨he,⟨g',nx',BR,MJ⟩,hO'⟩
 let ⟨_,_,_,_,_,Y,MK⟩:=hO'
 have MZ:a'.defers=[]:=MJ.defers
 have o:W'.heap[W.heap.size+1]? =ad (.loop<|jl fnid a.tmps [p,p2] dV bd W.heap.size (nc bo xid)):=by rw[i]at Y;exact Y
 have amE:∀D∈W.heap.size::mk,W'.heap[D]? =ad (.deferred<|ad []):=by rw[i]at MK;exact MK
 have SV:WX F.w0.heap.size W' (W'.putObj (W.heap.size+1)<|.loop {jl fnid a.tmps [p,p2] dV bd W.heap.size (nc bo xid)with state:= .exhausted}):=WX.putObj _ o J G
 have zl:=MJ.wx SV
 have hgr:du g' h.caps h.ws:=zl.MS (caps:=h.caps) J J (by rw[i];simp[St.kn,U])
 have vK:aJ (F.dr<|(W.heap.size::mk).map jz) (·<1000000*nx) (St.kn ⟨lV Sc,Mo,nx,[]⟩) g' (W'.putObj (W.heap.size+1)<|.loop {jl fnid a.tmps [p,p2] dV bd W.heap.size (nc bo xid)with state:= .exhausted}) {a with defers:=[jz W.heap.size]++a.defers}:=by
  have h5:aJ ({F with n:=F.n,ds:=(W.heap.size::mk).map jz,rd:=F.rd,k0:=1,γ0:=λ_=>mG h.ws}:dm) (λd=>d<1000000*nx'\/d<1000000*nx) (St.kn ⟨lV Sc,(0,.dI 0 [] (qx Sc++capsI))::Mo,nx,[]⟩) g' (W'.putObj (W.heap.size+1)<|.loop {jl fnid a.tmps [p,p2] dV bd W.heap.size (nc bo xid)with state:= .exhausted}) {a with defers:=[jz W.heap.size]++a.defers}:=by refine aJ.frame (zl.weaken<|λd a6=> .inl a6) (by have:=hh.size;simpa[dm.dr]using this) (by have:=hh.defers;simp only[this];rfl) (λt v hv=>?_)<|λd b hb=>hb;obtain⟨c,rfl,hc⟩:=MU hv;have aa5:=v8 hc;have h6:=(Tc (f:=λt=>a.tmps.getD t undef)<|by rw[i]at hgr;exact hgr).1 (t,c) aa5;exact⟨h6,λd a6=> .inr (I (t,c) aa5 d a6).1⟩
  have h6:=h5.restrict (K':=(·<1000000*nx)) (λkey bN hy d a6=>?_) (λd bN hy=>?_) (λd a6=>by have:d<1:=a6;show d<1000000*nx;omega)
  .have h7:=aJ.frame (sl':=lV Sc) (M':=Mo) (nx':=nx) (gd':=[]) (n':=F.n) (ds':=(W.heap.size::mk).map jz) (rd':=F.rd) (a':={a with defers:=[jz W.heap.size]++a.defers}) h6 h6.size h6.defers (λt v hv=>⟨h6.dv t v p7,λd a6=>h6.ak (.s t) (.v v) p7 d a6⟩) (λd b hb=>by simp only[U];have:d≠0:=(BV d b hb).1;rw[y (λe=>this e.symm)];exact hb);exact⟨h7.size,h7.defers,h7.dv,h7.cA,h7.inj,h7.ak,h7.dn,h7.sub,h7.below,h7.le,h7.fresh,λd a6=>by have:d<F.k0:=a6;omega⟩
  .cases key with
   |s t=>
    simp only[St.kn,bS]at hy
    let ⟨w,hw,e⟩:=hy
    subst e
    obtain⟨c,rfl,hc⟩:=MU hw
    exact(I (t,c) (v8 hc) d a6).1
   |m q=>
    simp only[St.kn,U,bS]at hy
    let ⟨w,hw,e⟩:=hy
    subst e
    split at hw
    .cases hw;have:d∈eG h.caps:=by rw[i];simpa[Info.ak,aD.ak,eG]using a6
     exact(hcm d this).2
    .exact(BV q w hw).2.2 d a6
  .simp only[St.kn,U,bS]at hy;let ⟨w,hw,e⟩:=hy;split at hw
   .rename_i e2;subst e2;show 0<1000000*nx;omega
   .exact(BV d w hw).2.1
 have hOM:OM F ((W.heap.size::mk).map jz) (W'.putObj (W.heap.size+1)<|.loop {jl fnid a.tmps [p,p2] dV bd W.heap.size (nc bo xid)with state:= .exhausted}):=by
  refine⟨ok0,ord,W.heap.size::mk,J,λD hD=>⟨?_,?_⟩,?_⟩
  .have fe:D≠W.heap.size+1:=λe=>qi (e▸hD)
   rw[BO fe];exact amE D hD
  .rcases bZ.1 hD with rfl|hD
   .exact hB
   .exact(mj D hD).2
  .refine AL.2 ⟨λhc=>?_,amy⟩;have:=(fb.1 (mj _ hc).1).1;omega
 have aa6:rangePost (di none) 0 P (W.heap.size+1) (Q F) {a with defers:=[jz W.heap.size]++a.defers} (.returned<|.tuple #[]) W':=by
  refine⟨nc bo xid,_,run_endLoop (P:=P) o (by unfold nc;cases bo<;>simp[jl]),?_⟩;have hq:=hk F hF m5 _ g' _ _ vK hOM;unfold nc;cases bo with
  |true=>exact hq
  |false=>exact wpIn_exit hq
 have ML:(results fn a'.tmps).run P W'= .ok (.tuple #[]) W':=by simp[results,Hi]
 rcases he with rfl|rfl
 .exact⟨MZ,_,ML,aa6⟩
 .exact⟨MZ,_,ML,aa6⟩
end
def val:E Y->Y
 |[]=>0
 |w::a=>w+4294967296*val a
def bW(a:E Y):Prop:=∀w∈a,0<=w/\w<4294967296
def Tl:bW []:=λ_ h=>by cases h
def zu{w}{a}:bW (w::a)↔(0<=w/\w<4294967296)/\bW a:=by simp[bW]
def jm{a}(h:bW a) n:bW (M n a):=λw b=>h w<|EX b
def zv{a}(h:bW a) n:bW (ay n a):=λw b=>h w<|List.mem_of_mem_drop b
def Tm{a b}(h:bW a)(k:bW b):bW (a++b):=λw d=>(be.mp d).elim (h w)<|k w
def zw{a}(h:bW a) i{w}(b:0<=w/\w<4294967296):bW (a.set i w):=λx d=>(List.mem_or_eq_of_mem_set d).elim (h x)<|λe=>e▸b
def rI n:bW (bl n 0):=λw a=>by have:=List.eq_of_mem_replicate a;subst this;decide
def de{a}(h:bW a) i:0<=I a i 0/\I a i 0<4294967296:=by
 by_cases b:i<Z a
 .simp only[aN,cO b,rv];exact h _<|tR b
 .simp[aN,jS<|BY b]
def EY a b:val (a++b)=val a+4294967296^Z a*val b:=by
 induction a with
 |nil=>simp[val]
 |cons w r d=>simp only[ln,val,d,iI,fH];grind
def amG ws i(h:i<Z ws):val (M (i+1) ws)=val (M i ws)+I ws i 0*4294967296^i:=by rw[sW,EY,gL,sK<|BZ h];simp[cO h,val,aN];grind
def mH ws i(h:Z ws<=i):val (M i ws)=val ws:=by rw[iY h]
def ko ws i:val (M (i+1) ws)=val (M i ws)+I ws i 0*4294967296^i:=by
 by_cases h:i<Z ws
 .exact amG ws i h
 .rw[mH ws _ G,mH ws i G];simp[aN,jS<|BY h]
def Tn ws i w(h:i<Z ws):val (ws.set i w)=val ws+(w-I ws i 0)*4294967296^i:=by
 induction ws generalizing i with
 |nil=>simp at h
 |cons x r a=>
  cases i with
  |zero=>simp[val];omega
  |succ i=>
   have:=a i eh
   simp only[List.set_cons_succ,val,this,To,fH];grind
def M0 n:val (bl n 0)=0:=by
 induction n with
 |zero=>rfl
 |succ n a=>simp[yS,val,a]
def lW{a}(h:bW a):0<=val a:=by
 induction a with
 |nil=>exact hY _
 |cons w r b=>
  let ⟨d,h2⟩:=zu.mp h
  have:=b h2
  simp only[val];omega
def nf{a}(h:bW a):val a<4294967296^Z a:=by
 induction a with
 |nil=>decide
 |cons w r b=>
  let ⟨d,h2⟩:=zu.mp h
  have:=b h2
  simp only[val,iI,fH];omega
def amH:∀(f g n:V),n<=f->n<=g->yA f n=yA g n:=by
 intro f;induction f with
 |zero=>
  intro g n h _;have:n=0:=by omega
  subst this;cases g<;>simp[yA]
 |succ f a=>
  intro g n b d
  cases g with
  |zero=>
   have:n=0:=by omega
   subst this;simp[yA]
  |succ g=>
   simp only[yA]
   split
   .rfl
   .rw[a g (n/4294967296) G G]
def EZ:r 0=[]:=rfl
def xI{n}(h:n≠0):r n=((n%4294967296:V):Y)::r (n/4294967296):=by
 unfold r;obtain⟨m,rfl⟩:∃m,n=m+1:=⟨n-1,G⟩;conv=>lhs;unfold yA
 rw[y h,amH m _ _ G<|aT _]
def eJ n:val (r n)=n:=by
 induction n using HZ with
 |ind n a=>
  by_cases h:n=0
  .subst h;rfl
  .rw[xI h];simp only[val,a (n/4294967296) G];omega
def dW n:bW (r n):=by
 induction n using HZ with
 |ind n a=>
  by_cases h:n=0
  .subst h;exact Tl
  .rw[xI h];exact zu.mpr ⟨G,a _ G⟩
def can(a:E Y):Prop:=a=[]\/I a (Z a-1) 0≠0
def amI{d}(h:bW d)(a:can d):d=r (af<|val d):=by
 induction d with
 |nil=>rfl
 |cons w b g=>
  let ⟨n,h2⟩:=zu.mp h
  have i:can b:=by
   cases b with
   |nil=>exact .inl J
   |cons x s=>exact .inr (by rcases a with a|a;cases a;simpa using a)
  have o:=lW h2
  have f:af (val<|w::b)≠0:=by
   simp only[val];intro p;have k:w=0/\val b=0:=G;cases b with
   |nil=>rcases a with a|a;cases a;simp at a;exact a k.1
   |cons x s=>
    have:=g h2 i
    rw[k.2]at this
    exact absurd this (by simp[EZ])
  rw[xI f]
  have l:af (val<|w::b)/4294967296=af (val b):=by simp only[val];omega
  have m:((af (val<|w::b)%4294967296:V):Y)=w:=by simp only[val];omega
  rw[l,m,<-g h2 i]
def wa n:can (r n):=by
 induction n using HZ with
 |ind n b=>
  by_cases h:n=0
  .subst h;exact .inl J
  .rw[xI h];refine .inr ?_;by_cases h2:n/4294967296=0
   .rw[h2,EZ];simp;omega
   .have:=b (n/4294967296) G;rcases this with a|a
    .exfalso;have:=eJ<|n/4294967296;rw[a]at this;simp[val]at this;omega
    .cases hw:r (n/4294967296)with
     |nil=>rw[hw]at a;simp at a
     |cons x s=>rw[hw]at a;simpa using a
def fZ(a:E Y):V->V
 |0=>0
 |n+1=>if I a n 0=0 then fZ a n else n+1
def aM(a:E Y):E Y:=M (fZ a<|Z a) a
def aa7(a:E Y):∀n,fZ a n<=n
 |0=>aT _
 |n+1=>by simp only[fZ];split;exact Nat.le_succ_of_le<|aa7 a n;exact aT _
def aa8(a:E Y):∀n,val (M (fZ a n) a)=val (M n a)
 |0=>rfl
 |n+1=>by
  simp only[fZ];split
  .rename_i h;rw[aa8 a n,ko,h];omega
  .rfl
def aa9(a:E Y):∀n,fZ a n=0\/I a (fZ a n-1) 0≠0
 |0=> .inl J
 |n+1=>by
  simp only[fZ];split
  .exact aa9 a n
  .rename_i h;exact .inr eh
def aa' ws:val (aM ws)=val ws:=by unfold aM;rw[aa8,gQ]
def abb{a}(h:bW a):bW (aM a):=jm h _
def Io ws:can (aM ws):=by
 unfold aM can;have a:=aa7 ws<|Z ws;rcases aa9 ws (Z ws)with h|h
 .left;rw[h];rfl
 .by_cases b:fZ ws (Z ws)=0
  .left;rw[b];rfl
  .right;rw[gL,sK a,aN,GV G,<-aN];exact h
def oV{a}(h:bW a):aM a=r (af<|val a):=by have:=amI (abb h)<|Io a;rwa[aa']at this
def Tp n:aM (r n)=r n:=by rw[oV (dW n),eJ];simp
def uE{n:V}:(n:Y)<4294967296^Z (r n):=by have:=nf<|dW n;rwa[eJ]at this
def jJ n:(0:Y)<4294967296^n:=nT D
def uF{m n}(h:m<=n):(4294967296:Y)^m<=4294967296^n:=by obtain⟨k,rfl⟩:=Nat.exists_eq_add_of_le h;rw[Int.pow_add];have a:=jJ m;have b:=jJ k;have:(4294967296:Y)^m*1<=4294967296^m*4294967296^k:=kU G G;omega
def M1{a}(h:bW a)(d:can a)(b:a≠[]):(4294967296:Y)^(Z a-1)<=val a:=by have f:0<Z a:=cR.mpr b;have g:=ko a<|Z a-1;rw[Nat.sub_add_cancel f,gQ]at g;have i:I a (Z a-1) 0≠0:=d.resolve_left b;have k:=de h<|Z a-1;have l:=lW<|jm h<|Z a-1;have m:=jJ<|Z a-1;have n:1*(4294967296:Y)^(Z a-1)<=I a (Z a-1) 0*4294967296^(Z a-1):=hZ G G;omega
def B0{n k:V}(h:(n:Y)<4294967296^k):Z (r n)<=k:=by
 apply Decidable.byContradiction;intro b;have a:r n≠[]:=by intro d;rw[d]at b;simp at b
 have f:=M1 (dW n) (wa n) a;rw[eJ]at f;have g:(4294967296:Y)^k<=4294967296^(Z (r n)-1):=uF G;omega
def M2{a b}(d:bW a)(f:bW b)(g:can b)(h:Z a<Z b):val a<val b:=by have k:=nf d;have l:=M1 f g (by intro i;rw[i]at h;simp at h);have m:(4294967296:Y)^Z a<=4294967296^(Z b-1):=uF G;omega
def M3{a b}(f:bW a)(g:bW b) i(k:ay (i+1) a=ay (i+1) b)(o:Z a=Z b)(p:i<Z a)(h:I a i 0<I b i 0):val a<val b:=by
 have d:val a=val (M (i+1) a)+4294967296^(i+1)*val (ay (i+1) a):=by have:=EY (M (i+1) a)<|ay (i+1) a;rwa[sI,gL,sK G]at this
 have l:val b=val (M (i+1) b)+4294967296^(i+1)*val (ay (i+1) b):=by have:=EY (M (i+1) b)<|ay (i+1) b;rwa[sI,gL,sK G]at this
 rw[k]at d;rw[ko]at d l;have m:=nf<|jm f i;rw[gL,sK G]at m;have s:=lW<|jm g i;have t:=jJ i;have n:(I a i 0+1)*(4294967296:Y)^i<=I b i 0*4294967296^i:=hZ G G;rw[nU]at n;omega
def wb(a:E Y):ao c 188 [cS al a] (cS al<|aM a):=by
 refine aL Tryz.func188<|vL 0 J λl=>?_;simp only[ET.n,oW]at l;refine rr J<|rr J ?_;refine j<|az<|bq (α:=V) (λk=>⟨[(0,cS al a),(3,cI k)],[],2,[]⟩) (λk=>k<=Z a/\fZ a k=fZ a (Z a)) (λk=>k) (Z a) ⟨aT _,J⟩ aV ?_;rintro k ⟨o,b⟩;have f:∀v,k=0\/I a (k-1) 0≠0->v=M k a->bg (cS al v) (cS al<|aM a):=by
  intro v g d;refine bg.of_eq ?_;subst d;unfold aM;rw[<-b];cases k with
  |zero=>rfl
  |succ k=>
   rcases g with g|g
   .omega
   .simp only[eE]at g;simp only[fZ,g,bQ]
 refine j<|rb ?_;refine rg 8 J J (λh=>?_)<|λh=>?_
 .simp at h;refine re J (F J (λd=>?_)<|λd=>?_)
  .refine aE (az<|rt J<|fB<|a4 (k-1) ⟨G,?_⟩ (G:k-1<k)<|wk ⟨sR J,sE J ?_,A⟩ A)
   .rw[<-b];obtain⟨i,rfl⟩:∃i,k=i+1:=⟨k-1,G⟩;have m:I a i 0=0:=by have:af (((i+1:V):Y)-1)=i:=G;simpa[this]using d
    simp only[eE,fZ,m,cd]
   .congr 2;omega
  .refine bt (aK<|rr J<|bV<|iJ cv J<|f _ (.inr ?_) ?_)
   .have:af ((k:Y)-1)=k-1:=by omega
    simpa[this]using d
   .simp
 .simp at h;subst h;refine re J<|F J (λd=>by simp at d)<|λ_=>?_;exact bt<|aK<|rr J<|bV<|iJ cv J<|f _ (.inl J) J
def zy(a:E Y):ao c 163 [cS al a] (cS al<|aM a):=by
 refine aL Tryz.func163<|vL 0 J λl=>?_;simp only[ET.n,oW]at l;refine rr J<|rr J ?_;refine j<|az<|bq (α:=V) (λk=>⟨[(0,cS al a),(3,cI k)],[],2,[]⟩) (λk=>k<=Z a/\fZ a k=fZ a (Z a)) (λk=>k) (Z a) ⟨aT _,J⟩ aV ?_;rintro k ⟨o,b⟩;have f:∀v,k=0\/I a (k-1) 0≠0->v=M k a->bg (cS al v) (cS al<|aM a):=by
  intro v g d;refine bg.of_eq ?_;subst d;unfold aM;rw[<-b];cases k with
  |zero=>rfl
  |succ k=>
   rcases g with g|g
   .omega
   .simp only[eE]at g;simp only[fZ,g,bQ]
 refine j<|rb ?_;refine rg 8 J J (λh=>?_)<|λh=>?_
 .simp at h;refine re J (F J (λd=>?_)<|λd=>?_)
  .refine aE (az<|rt J<|fB<|a4 (k-1) ⟨G,?_⟩ (G:k-1<k)<|wk ⟨sR J,sE J ?_,A⟩ A)
   .rw[<-b];obtain⟨i,rfl⟩:∃i,k=i+1:=⟨k-1,G⟩;have m:I a i 0=0:=by have:af (((i+1:V):Y)-1)=i:=G;simpa[this]using d
    simp only[eE,fZ,m,cd]
   .congr 2;omega
  .refine bt (aK<|rr J<|bV<|iJ cv J<|f _ (.inr ?_) ?_)
   .have:af ((k:Y)-1)=k-1:=by omega
    simpa[this]using d
   .simp
 .simp at h;subst h;refine re J<|F J (λd=>by simp at d)<|λ_=>?_;exact bt<|aK<|rr J<|bV<|iJ cv J<|f _ (.inl J) J
def wrap_u32 n(a:0<=n)(b:n<4294967296):aw .u32 n=n:=by simp[aw,IntKind.bits,Ip];omega
def wrap_u64 n(a:0<=n)(b:n<18446744073709551616):aw .u64 n=n:=by simp[aw,IntKind.bits,Ip];omega
def abd m(b:m<18446744073709551616):aM [((m%4294967296:V):Y),((m/4294967296:V):Y)]=r m:=by have a:bW [((m%4294967296:V):Y),((m/4294967296:V):Y)]:=zu.mpr ⟨G,zu.mpr ⟨G,Tl⟩⟩;rw[oV a];congr 1;simp only[val];omega
def E0(m:V)(a:m<18446744073709551616):ao c 136 [cU m] (cS al<|r m):=by
 refine aL Tryz.func136 ?_;refine rr J<|rb ?_;have b:aw .u32 ((m:Y).tmod 4294967296)=((m%4294967296:V):Y):=by rw[wrap_u32]<;>(rw[lX G];omega)
 have d:aw .u32 (aw .u64<|(m:Y).tdiv 4294967296)=((m/4294967296:V):Y):=by
  have:(m:Y).tdiv 4294967296=((m/4294967296:V):Y):=by rw[uG G];omega
  rw[this,wrap_u64 _ G G,wrap_u32 _ G G]
 refine rl al [_,_] J J ?_;refine rc J J (zy _) ?_;refine re J<|bY J ?_;rw[b,d,abd m a]
def amJ neg(d:E Y):ao c 135 [cB neg,cS al d] (.a [.B (neg&&decide (0<Z (aM d))),.S al<|aM d]):=by
 refine aL Tryz.func135 ?_;refine rr J<|rb ?_;refine rc J J (zy _) ?_;refine re J<|rb ?_;refine rg 9 J J (λh=>?_)<|λh=>?_
 .refine re J<|bY J ?_;subst h;have e:decide ((Z (aM d):Y)>0)=(ae&&decide (0<Z (aM d))):=ax;exact bh (λb=>AV.a [C.B b,C.S al<|aM d]) e
 .refine re J<|bY J ?_;subst h;rfl
def B1 ws(i:V)(a:bW ws):ao c 182 [cS al ws,cI i] (cU<|I ws i 0):=by
 refine aL Tryz.func182 ?_;refine rr J<|j<|rr J ?_;have:=de a i;refine F J (λh=>?_)<|λh=>?_
 .simp at h;refine rr J<|bV<|cQ<|fg J ?_;have e:aw .u64 (I ws (af (i:Y)) 0)=I ws i 0:=by rw[cr,wrap_u64 _ this.1 G]
  exact bP e
 .simp at h;refine aE<|rr J<|bY J ?_;have e:I ws i 0=0:=by simp[aN,jS h]
  rw[e];rfl
def dK(a b:Y):Y:=if a<b then-1 else if b<a then 1 else 0
def amK a b(m:bW a)(o:bW b)(w:can a)(x:can b):ao c 144 [cS al a,cS al b] (cI<|dK (val a)<|val b):=by
 refine aL Tryz.func144<|vL 0 J λs=>vL 1 J λt=>?_;simp only[ET.n,oW]at s t;refine rr J<|dj<|rr J ?_;refine F J (λh=>?_)<|λh=>?_
 .simp at h;refine rr J<|bV<|cQ<|fg J ?_;rw[dK,q<|M2 m o x h];rfl
 .simp at h;refine aE<|dj<|rr J ?_;refine F J (λp=>?_) (λp=>?_)
  .simp at p;refine rr J<|bV<|cQ<|fg J ?_;have:=M2 o m w p;rw[dK,y G,q this];rfl
  .simp at p;have u:Z a=Z b:=G;refine aE<|dj<|rr J ?_;refine az<|bq (α:=V) (λk=>⟨[(0,cS al a),(1,cS al b),(5,cI<|(k:Y)-1)],[],4,[]⟩) (λk=>k<=Z a/\ay k a=ay k b) (λk=>k) (Z a) ⟨aT _,by simp[u]⟩ aV ?_;rintro k ⟨C,g⟩;refine dj<|rr J ?_;refine F J (λv=>?_) (λv=>?_)
   .simp at v;obtain⟨j,rfl⟩:∃j,k=j+1:=⟨k-1,G⟩;have B:(((j+1:V):Y)-1)=j:=G;have f:j<Z a:=G;rw[B];refine aE<|dj<|az<|dj<|rr J ?_;refine F J (λi=>?_) (λi=>?_)
    .simp at i;refine rr J<|bV ?_;repeat(first|refine cQ ?_|refine lQ ?_|refine mq ?_)
     refine fg J ?_;rw[dK,q<|M3 m o j g u f i];rfl
    .have i:¬(I a j 0<I b j 0):=by simpa using i
     refine aE<|rr J ?_;refine F J (λl=>?_)<|λl=>?_
     .simp at l;refine rr J<|bV ?_;repeat(first|refine cQ ?_|refine lQ ?_|refine mq ?_)
      refine fg J ?_;have:=M3 o m j g.symm u.symm G l;rw[dK,y G,q this];rfl
     .have l:¬(I a j 0>I b j 0):=by simpa using l
      refine dc<|bL<|rt J<|a4 j ⟨G,?_⟩ sY aV;have e:I a j 0=I b j 0:=G;have d:j<Z b:=G;rw[rJ f,rJ d,g];simp only[aN,cO f,cO d,rv]at e;rw[e]
   .simp at v;have:k=0:=G;subst this;refine bt<|aK<|rr J<|bV ?_;repeat(first|refine cQ ?_|refine lQ ?_|refine mq ?_)
    refine fg J ?_;simp only[qh]at g;rw[g,dK,y G,y G];rfl
def uH o i a(w:Y)(h:i<Z o):(o.set i w).getD a 0=if i=a then w else I o a 0:=by
 simp only[aN,Tq];by_cases e:i=a
 .subst e;simp[h]
 .simp[e]
def Iq o i w(h:i<Z o)(a:I o i 0=0):val (o.set i w)=val o+w*4294967296^i:=by rw[Tn o i w h,a];simp
structure E3(a b:E Y)(m:V)(x:V×E Y×Y):Prop where
 i:x.1<=m
 len:x.2.1.length=m
 r:bW x.2.1
 z:∀d,x.1<=d->x.2.1.getD d 0=0
 c0:0<=x.2.2
 c1:x.2.2<=1
 v:val x.2.1+x.2.2*4294967296^x.1=val (a.take x.1)+val (b.take x.1)
def E3.next{a b}{m}{x}(h:E3 a b m x)(d:x.1<m)(f:bW a)(g:bW b):E3 a b m (x.1+1,x.2.1.set x.1<|(I a x.1 0+I b x.1 0+x.2.2)%4294967296,(I a x.1 0+I b x.1 0+x.2.2)/4294967296):=by
 have n:=de f x.1;have o:=de g x.1;have p:=h.c0;have t:=h.c1;refine⟨d,by simp[h.len],zw h.r _ ⟨G,G⟩,?_,(by show 0<=_/_;omega),(by show _/_<=1;omega),?_⟩
 .intro j i;simp only at i;rw[uH _ _ _ _ (by rw[h.len];exact d),y G];exact h.z j G
 .simp only;rw[Iq _ _ _ (by rw[h.len];exact d) (h.z _<|aT _),ko,ko,fH];have k:=h.v;generalize (4294967296:Y)^x.1=q at k⊢;generalize ht:I a x.1 0+I b x.1 0+x.2.2=s;have l:s%4294967296+s/4294967296*4294967296=s:=G;have:val x.2.1=val (M x.1 a)+val (M x.1 b)-x.2.2*q:=G;rw[this];have e:s%4294967296*q+s/4294967296*(q*4294967296)=s*q:=by rw[show s/4294967296*(q*4294967296)=s/4294967296*4294967296*q by grind,<-nU,l]
  have u:s*q=I a x.1 0*q+I b x.1 0*q+x.2.2*q:=by rw[<-ht];grind
  omega
def abe(x a:V):(if(a:Y)>x then(a:Y)else x)=((max x a:V):Y):=by
 by_cases h:(a:Y)>x
 .rw[q h];omega
 .rw[y h];omega
def amL a b(m:bW a)(n:bW b)(la:Z a<=1099511627776)(lb:Z b<=1099511627776):ao c 143 [cS al a,cS al b] (cS al<|r<|af<|val a+val b):=by
 refine aL Tryz.func143 ?_;refine rr J<|rr J<|rb ?_;refine rm al (max (Z a) (Z b)+1) J J J J J J (mE .u32) ?_ ?_ ?_ ?_
 .rw[abe];rfl
 .show _*4<=_;omega
 .show _*1<=_;omega
 refine re J<|rr J<|j<|rr J ?_;generalize hM:max (Z a) (Z b)+1=M;refine az<|bq (α:=V×E Y×Y) (λx=>⟨[(0,cS al a),(1,cS al b),(5,cI M),(6,.c<|.X 2001000),(7,cU x.2.2),(8,cI x.1)],[(2001000,.vec 142 al x.2.1)],5,[]⟩) (E3 a b M) (λx=>M-x.1) (0,bl M 0,0) ?_ ?_ ?_
 .refine⟨bf _,ax,rI M,?_,hY _,Ir,B2⟩;intro N _;simp only[aN,lY];split<;>rfl
 .refine wk ⟨sR J,sR J,sE J ?_,sR J,sR J,sR J,A⟩ ⟨bR J,A⟩;rw[abe,<-hM];congr 2
 .rintro⟨i,o,d⟩ f;have t:Z o=M:=f.len;have B:0<=d:=f.c0;have C:d<=1:=f.c1;have O:=de m i;have R:=de n i;refine j<|rr J ?_;refine F J (λh=>?_) (λh=>?_)
  .have h:i<M:=by simpa using h
   refine aE<|j<|az<|rb ?_;refine rc J J (B1 a i m)<|rc J J (B1 b i n)<|re J ?_;have H:aw .u64 (aw .u64 (I a i 0+I b i 0)+d)=I a i 0+I b i 0+d:=by rw[wrap_u64 (I a i 0+I b i 0) G G,wrap_u64 _ G G]
   rw[H];generalize ht:I a i 0+I b i 0+d=s;have K:aw .u32 (s.tmod 4294967296)=s%4294967296:=by rw[lX G,wrap_u32 _ G G]
   have L:aw .u64 (s.tdiv 4294967296)=s/4294967296:=by rw[uG G,wrap_u64 _ G G]
   have u:=f.next h m n;simp only[ht]at u;refine rr J<|rt J<|bL<|rt J<|a4 (i+1,o.set i<|s%4294967296,s/4294967296) u xJ<|wk ⟨sR J,sR J,sR J,sR J,sE J ?_,sE J ?_,A⟩ ⟨bE J ?_,A⟩
   .exact bP L
   .rfl
   .rw[K,cr]
  .have h:¬i<M:=by simpa using h
   have P:i=M:=by have:=f.i;simp only at this;omega
   refine bt<|aK<|da 2001000 J J J<|rb ?_;refine rc J J (zy _)<|re J<|bY J ?_;have g:=f.v;simp only at g;have p:bW o:=f.r;have Q:=nf p;have T:=lW p;have k:val (List.take i a)=val a:=mH a i G;have l:val (List.take i b)=val b:=mH b i G;have W:=nf m;have e:=nf n;have S:(4294967296:Y)^Z a<=4294967296^(M-1):=uF G;have U:(4294967296:Y)^Z b<=4294967296^(M-1):=uF G;have q:(4294967296:Y)^M=4294967296^(M-1)*4294967296:=by rw[<-fH];congr 1;omega
   have w:=jJ<|M-1;have y:d=0:=by
    rw[k,l,P,q]at g;rcases Int.lt_or_le d 1 with z|D
    .omega
    .have:d=1:=by omega
     subst this;omega
   rw[oV p];subst y;rw[k,l]at g;simp only[nh,rK]at g;rw[g]
end Go.El
