/- The engine, maps 1: make, look up, put in. Own work; no condition. -/
import Derived.MapKept
import Derived.Carry
import Derived.Test.YtceihkmakfdcnaaGreatProg
import Derived.KernelRfl
import Derived.Test.YtceihkmakfdcnaaGreatA3
import Derived.Test.YtceihkmakfdcnaaGreatA2
import Derived.Test.YtceihkmakfdcnaaGreatA1
set_option linter.all false
set_option maxHeartbeats 16000000
set_option maxRecDepth 100000
open Array renaming replicate->sV
open Bool renaming true->af,false->ah
open Go renaming IntKind->mb,Value->a4,MapEntry->Kw,Program->bZ,Oper->bh,TypeId->dI,Operand->dQ
open Go.Act renaming put->gM
open Go.Deferred renaming ofValue->F1
open Go.El renaming asM->R,Pb->U,iO->o,Cy->y,mV->q
open Go.Ending renaming returned->ahV
open Go.Instr renaming findNow->sU,sameNow->PU,build->Fq,index->KH,sliceBounds->vq
open Go.IntKind renaming wrap->ax,signed->Dc
open Go.MapKept renaming run_checkKey->ahM,run_findKey->PV,run_getObj_map->PW,run_setObj_map->ahQ
open Go.Op renaming buildSlice->WD
open Go.Oper renaming wp->m0,upon->m5
open Go.Proofs.Tryz renaming prog->z
open Go.Region renaming wanted->gH
open Go.Result renaming andThen->df
open Go.Sem renaming run_bind->c9,run_pure->xG
open Int renaming toNat->ae
open List renaming length->Z,replicate->bp,drop->az,getD->E,take->h
open Nat renaming ble->eJ,blt->dk
open Option renaming some->ad
open _root_ renaming List->V,Option->aw,Int->O,Nat->Y
namespace Go.El
open Go Go.Proofs Go.RowKit
def F6(a:mb):V C->aw (V O)
 |[]=>ad []
 | .I k n::r=>if k=a then(match F6 a r with
  |some l=>ad<|n::l
  |none=>none)else none
 |_::_=>none
def Kv(a:Bool)(c:mb)(d:V C):aw (V O):=match F6 c d with
 |some l=>(match a,l with
  |true,l=>ad l
  |false,[n]=>ad [n]
  |false,_=>none)
 |none=>none
def v8(a:Bool)(c:mb)(k:V O):V (V C×V C)->aw (aw<|V C)
 |[]=>ad none
 |x::r=>match Kv a c x.1 with
  |some d=>if d=k then ad (ad x.2)else v8 a c k r
  |none=>none
def wa(c:Bool)(d:mb)(k:V O)(a vc:V C):V (V C×V C)->aw (V<|V C×V C)
 |[]=>ad [(a,vc)]
 |x::r=>match Kv c d x.1 with
  |some f=>if f=k then ad ((a,vc)::r)else(match wa c d k a vc r with
   |some g=>ad<|x::g
   |none=>none)
  |none=>none
def Ws{g:Gh}{d:mb}:∀{f:V C}{l:V O}{vs:V a4},F6 d f=ad l->bc g f vs->vs=l.map (Value.int d)
 |[],l,vs,a,c=>by simp only[F6,ar]at a;subst a;exact c
 | .I k n::r,l,vs,a,c=>by
  simp only[F6]at a;split at a
  .rename_i i;split at a
   .rename_i x m;cases a;subst i;obtain⟨v,p,rfl,t,u⟩:=c;cases t;simp[Ws m u]
   .cases a
  .cases a
 | .any::_,_,_,a,_=>by cases a
 | .B _::_,_,_,a,_=>by cases a
 | .V _::_,_,_,a,_=>by cases a
 | .S _ _::_,_,_,a,_=>by cases a
 | .P _ _::_,_,_,a,_=>by cases a
 | .X _::_,_,_,a,_=>by cases a
 | .Y _ _ _ _::_,_,_,a,_=>by cases a
 | .E _ _ _::_,_,_,a,_=>by cases a
 | .M _::_,_,_,a,_=>by cases a
 | .L _ _ _ _::_,_,_,a,_=>by cases a
 | .W _ _ _::_,_,_,a,_=>by cases a
def Wt{g}{c}{d}{l}{vs}(a:Kv ah c d=ad l)(f:bc g d vs):∃n,l=[n]/\vs=[.int c n]:=by
 unfold Kv at a;split at a
 .rename_i k i;have:=Ws i f;split at a
  .contradiction
  .rename_i n _;cases a;exact⟨n,J,this⟩
  .cases a
 .cases a
def iM.length{g:Gh}{d f:Bool}:∀{n:Y}{xs:V (V C×V C)}{a:V Kw},iM g d f n xs a->Z a=Z xs
 |_,[],_,c=>by simp only[iM]at c;subst c;rfl
 |_,_::_,_,⟨l,r,i,_,_,_,k⟩=>by subst i;simp[k.length]
def iM.snoc{g:Gh}{c d:Bool}{a:Kw}{x:V C×V C}(f:∃i,a.key=rq c i/\bc g x.1 i)(k:∃vs,a.val=rq d vs/\bc g x.2 vs):∀{n:Y}{xs:V (V C×V C)}{l:V Kw},iM g c d n xs l->a.born=n+Z xs->iM g c d n (xs++[x]) (l++[a])
 |n,[],_,m,hb=>by simp only[iM]at m;subst m;exact⟨a,[],J,vD,f,k,J⟩
 |n,_::xs,_,⟨p,r,t,h2,u,v,A⟩,hb=>by subst t;exact⟨p,_,J,h2,u,v,iM.snoc f k A<|by simp only[eB]at hb;omega⟩
def Wu{g:Gh}{a:mb}{B:Bool}{m:O}:∀{n:Y}{xs:V (V C×V C)}{f:V Kw},iM g ah B n xs f->∀{r:aw (V C)},v8 ah a [m] xs=ad r->∀i:Y,
  match r with
  |none=>sU (.int a) (.int a m) f i=ad none
  |some vc=>∃k vs,sU (.int a) (.int a m) f i=ad (ad (i+k,rq B vs))/\bc g vc vs
 |n,[],f,F,r,c,i=>by simp only[iM]at F;subst F;simp only[v8,ar]at c;subst c;rfl
 |n,x::xs,f,⟨H,l,M,h2,⟨ks,P,t⟩,⟨vs,Q,u⟩,S⟩,r,c,i=>by
  subst M;simp only[v8]at c;split at c
  .rename_i k' W;obtain⟨p,rfl,rfl⟩:=Wt W t;have d:H.key= .int a p:=P;have K:PU (.int a) (.int a m) (.int a p)=ad (m==p):=by simp[PU]
   split at c
   .rename_i X;cases X;cases c;refine⟨0,vs,?_,u⟩;simp[sU,d,K,Q]
   .rename_i v;have b:(m==p)=ah:=by simp only[beq_eq_false_iff_ne,ne_eq];intro o;exact v (by rw[o])
    have L:sU (.int a) (.int a m) (H::l) i=sU (.int a) (.int a m) l (i+1):=by simp[sU,d,K,b]
    have A:=Wu S c<|i+1;cases r with
    |none=>simp only at A⊢;rw[L];exact A
    |some vc=>
     obtain⟨k,s,w,y⟩:=A
     exact⟨k+1,s,by rw[L,w,(G:i+1+k=i+(k+1))],y⟩
  .cases c
def Wv{g:Gh}{a:mb}{F:Bool}{m:O}{kc vc:V C}{ks vs:V a4}(t:bc g kc ks)(u:ks=[.int a m])(v:bc g vc vs):∀{n:Y}{xs c:V (V C×V C)}{l:V Kw},iM g ah F n xs l->wa ah a [m] kc vc xs=ad c->∀i:Y,
  (sU (.int a) (.int a m) l i=ad none/\c=xs++[(kc,vc)])\/
  ∃p H k,sU (.int a) (.int a m) l i=ad (ad (i+p,H))/\l[p]? =ad k/\k.key= .int a m/\Z c=Z xs/\iM g ah F n c (l.modify p λk=>{k with key:= .int a m,val:=rq F vs})
 |n,[],c,l,S,d,i=>by simp only[iM]at S;subst S;simp only[wa,ar]at d;subst d;exact .inl ⟨J,J⟩
 |n,x::xs,c,l,⟨k,r,h1,h2,⟨dJ,W,A⟩,⟨L,h4,M⟩,h5⟩,d,i=>by
  subst h1;simp only[wa]at d;split at d
  .rename_i k' hk;obtain⟨B,rfl,rfl⟩:=Wt hk A;have f:k.key= .int a B:=W;have X:PU (.int a) (.int a m) (.int a B)=ad (m==B):=by simp[PU]
   split at d
   .rename_i o;cases o;cases d;refine .inr ⟨0,k.val,k,by simp[sU,f,X],J,f,J,?_⟩;exact⟨_,r,J,h2,⟨ks,by rw[u];rfl,t⟩,⟨vs,J,v⟩,h5⟩
   .rename_i K;have s:(m==B)=ah:=by simp only[beq_eq_false_iff_ne,ne_eq];intro y;exact K (by rw[y])
    have b:sU (.int a) (.int a m) (k::r) i=sU (.int a) (.int a m) r (i+1):=by simp[sU,f,X,s]
    split at d
    .rename_i R P;cases d;rcases Wv t u v h5 P (i+1)with⟨Q,rfl⟩|⟨p,H,z,Q,D,E,I,N⟩
     .exact .inl ⟨by rw[b];exact Q,J⟩
     .refine .inr ⟨p+1,H,z,by rw[b,Q,(G:i+1+p=i+(p+1))],D,E,by simp[I],?_⟩;exact⟨k,_,J,h2,⟨_,W,A⟩,⟨L,h4,M⟩,N⟩
    .cases d
  .cases d
def Ww{f:Bool}{g:mb}{k:V O}:∀{xs:V (V C×V C)}{vc:V C},v8 f g k xs=ad (ad vc)->∀d∈b7 vc,d∈mh xs
 |[],_,a,_,_=>by simp[v8]at a
 |x::r,vc,a,d,c=>by
  simp only[v8]at a;split at a
  .split at a
   .cases a;simp[mh,c]
   .simp[mh,Ww a d c]
  .cases a
def Wx{l:Bool}{m:mb}{k:V O}{i vc:V C}:∀{xs d:V (V C×V C)},wa l m k i vc xs=ad d->∀f∈mh d,f∈mh xs\/f∈b7 i\/f∈b7 vc
 |[],_,a,f,c=>by simp only[wa,ar]at a;subst a;simp only[mh,gO,bg]at c;exact .inr c
 |x::r,d,a,f,c=>by
  simp only[wa]at a;split at a
  .split at a
   .cases a;simp only[mh,bg]at c⊢;rcases c with a|a|a
    .exact .inr<|.inl a
    .exact .inr<|.inr a
    .exact .inl<|.inr<|.inr a
   .split at a
    .rename_i n g;cases a;simp only[mh,bg]at c⊢;rcases c with a|a|a
     .exact .inl<|.inl a
     .exact .inl<|.inr<|.inl a
     .rcases Wx g f a with a|a
      .exact .inl<|.inr<|.inr a
      .exact .inr a
    .cases a
  .cases a
def C4(i f:Bool)(d:V C)(g:Bool):aw AV:=match i with
 |true=>(match f,d with
  |true,d=>ad<|.t [(af,d),(ah,[.B g])]
  |false,[c]=>ad<|.t [(ah,[c]),(ah,[.B g])]
  |false,_=>none)
 |false=>(match f,d with
  |true,d=>ad<|.a d
  |false,[c]=>ad<|.c c
  |false,_=>none)
def Wy{g}{k f}{l}{m}{v}{vs}(a:C4 k f l m=ad v)(d:bc g l vs):bG g v (if k then .tuple #[rq f vs,.bool m]else rq f vs):=by
 unfold C4 at a;split at a
 .split at a
  .cases a;exact⟨[_,_],J,_,_,J,⟨vs,J,d⟩,_,_,J,J,J⟩
  .rename_i c;cases a;obtain⟨u,r,rfl,i,n⟩:=d;exact⟨[_,_],J,_,_,J,i,_,_,J,J,J⟩
  .cases a
 .split at a
  .cases a;exact⟨vs,J,d⟩
  .rename_i c;cases a;obtain⟨u,r,rfl,i,n⟩:=d;exact i
  .cases a
def ahI{d f}{c}{g}{v}(a:C4 d f c g=ad v):∀i∈v.ak,i∈b7 c:=by
 unfold C4 at a;split at a
 .split at a
  .cases a;simp[AV.ak,fP,b7,C.ak]
  .cases a;simp[AV.ak,fP,b7,C.ak]
  .cases a
 .split at a
  .cases a;simp[AV.ak]
  .cases a;simp[AV.ak,b7]
  .cases a
def ahJ{H}{W}(f:Sub H W){r}{g:Obj}(i:∀a,H r a=none):Sub H {W with heap:=W.heap.setIfInBounds r g}:=by
 intro d a v c;have k:=f d a v c;by_cases e:r=d
 .subst e;rw[i a]at c;cases c
 .simp only[World.cell?,k7 e];exact k
section
variable{P:bZ}{tt:TT}
def ahK{S}{i}{p:bh}{d:Y}(ho:S[i]? =ad p)(hg:p.guard=none)(hd:p.dst=ad d){n}(di:d<n){t}(bV:p.op= .makeMap t none) ka va new:
  gX P n S i [] [(.s d,ad<|.v<|.c<|.X new),(.m new,ad<|.b<|.mp ka va [])] new:=by
 intro F kE Q B I g W a K x aW D E
 have z:(execOp a.eval p).run P W= .ok (.value<|.map<|ad W.heap.size) {W with heap:=W.heap.push<|.map #[] 0}:=by rw[execOp,bV];rfl
 unfold wpOp
 simp only[ho,gH,hg,b9]
 refine .inl ?_
 unfold m0
 rw[z]
 simp only[m5,hd]
 have j:d<a.tmps.size:=mj
 let v:a4:= .map<|ad W.heap.size
 let L:Gh:=⟨g.H,λA=>if A=new then v else g.γ A⟩
 have M:L.γ new=v:=by simp[L]
 have q:fY B g L:=⟨cK.refl _,λA l=>by
  have:A≠new:=λe=>x<|e▸l
  simp[L,this]⟩
 have r:∀p,g.H W.heap.size p=none:=by
  intro p;cases G:g.H W.heap.size p with
  |none=>rfl
  |some v=>
   have:=World.block_lt_of_cell? W _<|aW.sub _ _ _ G
   simp at this
 refine E L _ _<|aW.step (chg:=λ_=>False) (g':=L) ⟨q,λ_ _ _=>rfl,zK aW.sub _,ay,λk w _=>Cf W _ k w,J,J,J⟩ _ new x mm aW.defers (λt f=>FP f) (λ_ h=>h.elim) ?_ ?_ ?_ ?_
 .intro t u f;simp only[aE]at f;split at f
  .rename_i e;simp only[Key.s.injEq]at e;simp only[ar,Info.v.injEq]at f;subst e;subst f;show _=L.γ new;rw[M];simp[gM,j,v]
  .simp at f
 .intro A b f;simp only[aE,reduceCtorEq,bN]at f;split at f
  .rename_i e;simp only[Key.m.injEq]at e;subst e;simp only[ar,Info.b.injEq]at f;subst f;refine⟨⟨W.heap.size,#[],M,ay,J,.inl aW.below.size,r⟩,.inr ⟨J,λk w=> .inl ?_⟩⟩;rw[M]at w;simp only[cy,v,ar]at w;omega
  .simp at f
 .intro k y f;simp only[aE]at f;split at f
  .simp only[ar]at f;subst f;intro A l;simp[Info.ak,AV.ak,C.ak]at l;exact .inr l
  .split at f
   .simp only[ar]at f;subst f;intro A l;simp[Info.ak,aN.ak,mh]at l
   .simp at f
 .intro A y f;simp only[aE,reduceCtorEq,bN]at f;split at f
  .rename_i e;simp only[Key.m.injEq]at e;exact .inr e.symm
  .simp at f
def ahL(p:cd P tt=af){S}{i}{aI:bh}{d:Y}(ho:S[i]? =ad aI)(hg:aI.guard=none)(hd:aI.dst=ad d){n}(di:d<n){t}{x cC}{ok}(bV:aI.op= .lookup t x cC ok)
 {H}{L}{wb:mb} {m:O} (hx:H.ev x=ad (.c<|.X L)) (hy:H.ev cC=ad (.c<|.I wb m)) {kt vt:Y} {ti ki M:TI} (mZ:o t tt=ad ti) (hk:ti.kind= .map kt vt) (Af:o kt tt=ad ki) (kM:ki.kind= .int wb) (Ag:o vt tt=ad M)
  {xs:V (V C×V C)} (hl:o L H.mem=ad (.mp ah M.agg xs)) {r:aw (V C)} (hr:v8 ah wb [m] xs=ad r) {v:AV} (hv:C4 ok M.agg (r.getD<|M.zero.map ZV.oX) r.isSome=ad v) (new:Y):
  gX P n S i ([x,cC].flatMap (cE H)++fC H [L]) [(.s d,ad<|.v v)] new:=by
 refine rF ho hg hd di _ v new ?_
 intro F N σ g W a f K
 have l:=dr f H x _ hx<|λR b8=>K R dP
 have u:=dr f H cC _ hy<|λR b8=>K R dP
 have e:σ (.m L)=ad (.b<|.mp ah M.agg xs):=K (.m L,.b<|.mp ah M.agg xs) qn
 let ⟨b,es,T,hh,U,hN,hz⟩:=f.c8 L _ e
 have l:a.eval x=g.γ L:=l
 have u:a.eval cC= .int wb m:=u
 rw[T]at l
 have Z:=(dW p mZ).kind
 rw[hk]at Z
 have A:=(dW p Af).kind
 rw[kM]at A
 have G:=Wu U hr 0
 refine⟨?_,?_⟩
 .intro j hj;have h1:=ahI hv j hj;cases r with
  |none=>
   rw[Option.getD_none,JE]at h1
   cases h1
  |some vc=>exact f.ak _ _ e j<|Ww hr j h1
 .have h:=ahM (w:=W) A (k:= .int wb m) J es.isEmpty 9999;cases r with
  |none=>
   have Q:=PV (P:=P) (w:=W) A G
   let ⟨inf,B,_,_,z,D,vA⟩:=(dW p Ag).info
   have E:=(dW p Ag).zag _ _ B D
   have C5:(zeroValue vt).run P W= .ok z W:=by simp[zeroValue,typeInfo,B,D]
   refine⟨_,?_,Wy hv<|xI g M.zero⟩
   rw[execOp,bV]
   simp only[Instr.lookup,l,u,c9,run_underlying Z,df,PW hh,xG,h,Q,C5,E]
   rfl
  |some vc=>
   obtain⟨j,ws,G,OG⟩:=G
   have Q:=PV (P:=P) (w:=W) A G
   refine⟨_,?_,Wy hv OG⟩
   rw[execOp,bV]
   simp only[Instr.lookup,l,u,c9,run_underlying Z,df,PW hh,xG,h,Q]
   rfl
def ahN(cp:cd P tt=af){ops}{i}{aI}(ho:ops[i]? =ad aI)(hg:aI.guard=none)(hd:aI.dst=none){n}{t:dI}{x cC M}(bV:aI.op= .mapUpdate t x cC M)
 {H}{L}{p}{m:O} {u:AV} {va:Bool} {vc:V C} (hx:H.ev x=ad (.c<|.X L)) (hy:H.ev cC=ad (.c<|.I p m)) (C5:H.ev M=ad u) (CO:qv u=ad (va,vc)) {kt vt:Y} {ti ki:TI} (mZ:o t tt=ad ti) (hk:ti.kind= .map kt vt) (Af:o kt tt=ad ki) (kM:ki.kind= .int p)
  {xs S:V (V C×V C)} (hl:o L H.mem=ad (.mp ah va xs)) (hp:wa ah p [m] [.I p m] vc xs=ad S) (new:Y):
  gX P n ops i ([x,cC,M].flatMap (cE H)++fC H [L]) [(.m L,ad<|.b<|.mp ah va S)] new:=by
 intro F kE Q known σ g W a K vk f v hK
 have A:=dr f H x _ hx<|λN b8=>v N dP
 have s:=dr f H cC _ hy<|λN b8=>v N dP
 have hrz:=dr f H M _ C5<|λN b8=>v N dP
 have hmz:=rE f H M _ C5<|λN b8=>v N dP
 have r:σ (.m L)=ad (.b<|.mp ah va xs):=v (.m L,.b<|.mp ah va xs) qn
 let ⟨b,es,R,hh,T,hN,hz⟩:=f.c8 L _ r
 have A:a.eval x=g.γ L:=A
 have s:a.eval cC= .int p m:=s
 rw[R]at A
 have hu:=(dW cp mZ).kind
 rw[hk]at hu
 have D:=(dW cp Af).kind
 rw[kM]at D
 have C6:∃vs,a.eval M=rq va vs/\bc g vc vs:=by
  have:=Pe CO hrz;cases va with
  |true=>exact this
  |false=>
   match vc,this with
   |[c],h=>exact⟨[a.eval M],J,_,_,J,h,J⟩
   |[],h=>exact h.elim
   |_::_::_,h=>exact h.elim
 let ⟨vs,Wz,Kx⟩:=C6
 have Ky:=ahM (w:=W) D (k:= .int p m) J ah 9999
 have hlen:=T.length
 have Kz:∃E,(execOp a.eval aI).run P W= .ok .skip {W with heap:=W.heap.setIfInBounds b<|.map E<|Z S}/\iM g ah va 0 S E.toList:=by
  rcases Wv (g:=g) (kc:=[.I p m]) (ks:=[.int p m]) ⟨_,_,J,J,J⟩ J Kx T hp 0 with⟨hf,rfl⟩|⟨j,w,e,hf,he,ph,hle,B⟩
  .have U:=PV (P:=P) (w:=W) D hf;refine⟨es.push ⟨.int p m,a.eval M,Z xs⟩,?_,?_⟩
   .rw[execOp,bV];simp only[Instr.mapUpdate,A,s,c9,run_underlying hu,df,PW hh,xG,Ky,U,ahQ _ hh,hP,qB]
   .rw[Array.toList_push];exact iM.snoc (x:=([.I p m],vc)) ⟨[.int p m],J,_,_,J,J,J⟩ ⟨vs,Wz,Kx⟩ T ay
  .have U:=PV (P:=P) (w:=W) D hf;have FW:es[j]? =ad e:=by simpa using he
   have sT:=MapKept.run_keyThatStays (P:=P) (w:=W) (d:= .int p) (k:= .int p m) J;refine⟨es.modify j λe=>{e with key:= .int p m,val:=a.eval M},?_,by rw[Array.toList_modify,Wz];exact B⟩;rw[execOp,bV];simp only[Instr.mapUpdate,A,s,c9,run_underlying hu,df,PW hh,xG,Ky,U,eF,FW,ud,qe,ph,sT,ahQ _ hh,hle]
 let ⟨E,hex,B⟩:=Kz
 unfold wpOp
 simp only[ho,gH,hg,b9]
 refine .inl ?_
 unfold m0
 rw[hex]
 simp only[m5,hd,gM]
 have hb:b<W.heap.size:=(fQ.1 hh).1
 refine hK g _ a<|f.step (chg:=λj=>j=L) (g':=g) ⟨⟨cK.refl _,λ_ _=>rfl⟩,λ_ _ _=>rfl,ahJ f.sub hz,ay,?_,J,J,J⟩ _ new vk J f.defers (λ_ _=>rfl) ?_ ?_ ?_ ?_ ?_
 .intro k hk il;have:b≠k:=λe=>il L J (by rw[R,e];rfl)
  exact k7 this
 .intro j G;subst G;exact⟨xH,_,r⟩
 .intro t' v' ht;simp[aE]at ht
 .intro j bk G;simp only[aE]at G;split at G
  .rename_i e;simp only[Key.m.injEq]at e;subst e;simp only[ar,Info.b.injEq]at G;subst G;exact⟨⟨b,E,R,by simp[hb],B,hN,hz⟩,.inl ⟨f.dO _ _ r,_,r⟩⟩
  .simp at G
 .intro k z' l;simp only[aE]at l;split at l
  .simp only[ar]at l;subst l;intro j G;rcases Wx hp j G with h|h|h
   .exact .inl<|f.ak _ _ r j h
   .simp[b7,C.ak]at h
   .refine .inl<|hmz j ?_;rw[<-Kg CO];exact h
  .simp at l
 .intro j z' l;simp only[aE]at l;split at l
  .rename_i e;simp only[Key.m.injEq]at e;subst e;exact .inl<|f.dO _ _ r
  .simp at l
end
def WA(l:TT)(k d:Y)(x g:dQ)(n p:Y)(a:St):aw (St×Y×Ks):=match xV l n p with
 |some (_,i)=>(match a.ev x,a.ev g with
  |some (.c<|.L id off len _),ad r=>(match sS a i.size r,o id a.mem with
   |some (m,cs,is),ad (.box t u f)=>if cs.all jI=af/\m<=len/\off+m*i.size<=Z f then
     ad (⟨g5 d (.c<|.I .i64 m) a.sl,g5 id (.box t u<|cN f cs off) a.mem,a.nx,a.gd⟩,k+1,(bF [x,g]++cX (id::is),[.s d,.m id]))else none
   |_,_=>none)
  |_,_=>none)
 |none=>none
def WB(i:TT)(k d:Y)(t:Y)(x l:dQ)(f:St):aw (St×Y×Ks):=match f.ev x,f.ev l,o t i with
 |some (.c<|.I _ a),ad (.c<|.I _ b),ad n=>(match n.kind with
  | .sl E=>(match o E i with
   |some g=>if a=b/\0<=a/\0<g.size/\eJ (ae a*g.bytes) 16777216=af/\eJ (ae a) 16777216=af then
     ad (⟨g5 d (.c<|.L k 0 (ae a)<|ad<|ae a) f.sl,(k,.box E 0<|CJ (g.zero.map ZV.oX)<|ae a)::f.mem,f.nx,f.gd⟩,k+1,(bF (Op.makeSlice t x l).operands.toList,[.s d,.m k]))else none
   |none=>none)
  |_=>none)
 |_,_,_=>none
def WC(l:TT)(k d:Y)(t a:Y)(f:Array (Y×dQ))(g:St):aw (St×Y×Ks):=match sK l g t a f.toList with
 |some (E,i,cs)=>if 0<i.size/\eJ (a*i.size) 16777216=af then
   ad (⟨g5 d (.c<|.L k 0 a<|ad a) g.sl,(k,.box E 0 cs)::g.mem,g.nx,g.gd⟩,k+1,(bF (WD t a f).operands.toList,[.s d,.m k]))else none
 |none=>none
def WE(k d:Y)(f:FuncId)(first a:Array dQ)(g:St):aw (St×Y×Ks):=match xU g first.toList,xU g a.toList with
 |some fs,ad cs=>ad (⟨g5 d (.c<|.X k) g.sl,(k,.jG f fs cs)::g.mem,g.nx,g.gd⟩,k+1,(bF<|first.toList++a.toList,[.s d,.m k]))
 |_,_=>none
def F7(a:TT)(t:Y):aw (TI×TI):=match o t a with
 |some c=>(match c.kind with
  | .map d f=>(match o d a,o f a with
   |some g,ad i=>ad (g,i)
   |_,_=>none)
  |_=>none)
 |none=>none
def WG{c}{t}{k l}(a:F7 c t=ad (k,l)):∃d f g,o t c=ad d/\d.kind= .map f g/\o f c=ad k/\o g c=ad l:=by
 unfold F7 at a;split at a
 .rename_i d i;split at a
  .rename_i f g m;split at a
   .rename_i n p r u;cases a;exact⟨d,f,g,i,m,r,u⟩
   .cases a
  .cases a
 .cases a
def WH(f:TT)(k d:Y)(t:Y)(a:St):aw (St×Y×Ks):=match F7 f t with
 |some (g,i)=>ad (⟨g5 d (.c<|.X k) a.sl,(k,.mp g.agg i.agg [])::a.mem,a.nx,a.gd⟩,k+1,([],[.s d,.m k]))
 |none=>none
def KA(a:mb):TK->Bool
 | .int c=>decide<|a=c
 |_=>ah
def WI(i:TT)(k d:Y)(t:Y)(x g:dQ)(l:Bool)(a:St):aw (St×Y×Ks):=match F7 i t,a.ev x,a.ev g with
 |some (n,f),ad (.c<|.X id),ad (.c<|.I q m)=>(match KA q n.kind,o id a.mem with
  |true,ad (.mp ah p xs)=>(match p==f.agg,v8 ah q [m] xs with
   |true,ad r=>(match C4 l f.agg (r.getD<|f.zero.map ZV.oX) r.isSome with
    |some v=>ad (⟨g5 d v a.sl,a.mem,a.nx,a.gd⟩,k+1,(bF [x,g]++cX [id],[.s d]))
    |none=>none)
   |_,_=>none)
  |_,_=>none)
 |_,_,_=>none
def WJ(n:TT)(k:Y)(t:Y)(x g i:dQ)(a:St):aw (St×Y×Ks):=match F7 n t,a.ev x,a.ev g,a.ev i with
 |some (p,_),ad (.c<|.X id),ad (.c<|.I q m),ad u=>(match KA q p.kind,o id a.mem,qv u with
  |true,ad (.mp ah l xs),ad (d,vc)=>(match l==d,wa ah q [m] [.I q m] vc xs with
   |true,ad f=>ad (⟨a.sl,g5 id (.mp ah l f) a.mem,a.nx,a.gd⟩,k+1,(bF [x,g,i]++cX [id],[.m id]))
   |_,_=>none)
  |_,_,_=>none)
 |_,_,_,_=>none
def PX(l:F3)(c:TT)(n k:Y)(m:aw Y)(op:Op)(a:St):aw (St×Y×Ks):=match m with
 |none=>(match op with
  | .mapUpdate t x y z=>WJ c k t x y z a
  |op=>(match Cp c n k none op a with
   |some (g,p,r)=>if p.b=af then ad (na ah af g,k+1,r)else none
   |none=>none))
 |some d=>if d<n then(match op with
  | .call ⟨.value u,args,_⟩=>PO l k d u args.toList a
  | .call ⟨.builtin .append,⟨[x,y]⟩,⟨[t1,t2]⟩⟩=>PM c n k d x y t1 t2 a
  | .call ⟨.builtin .copy,⟨[x,y]⟩,⟨[t1,t2]⟩⟩=>WA c k d x y t1 t2 a
  | .makeSlice t x y=>WB c k d t x y a
  | .buildSlice t len parts=>WC c k d t len parts a
  | .makeFunc (.func f) first i=>WE k d f first i a
  | .makeMap t none=>WH c k d t a
  | .lookup t x y ok=>WI c k d t x y ok a
  |op=>(match CS c a op with
   |some (v,p)=>if p.b=af then ad (⟨g5 d v a.sl,a.mem,a.nx,a.gd⟩,k+1,(bF op.operands.toList,[.s d]))else none
   |none=>(match Cp c n k (ad d) op a with
    |some (g,p,r)=>if p.b=af then ad (na af ah g,k+1,r)else none
    |none=>none)))else none
def WK{a}{k:TK}(c:KA a k=af):k= .int a:=by cases k<;>simp[KA]at c;subst c;rfl
def ahR(a:St) id c:St.kn ⟨a.sl,g5 id c a.mem,a.nx,a.gd⟩=bH a.kn [(.m id,ad<|.b c)]:=by
 funext k;cases k with
 |s t=>simp[St.kn,bH,aE]
 |m j=>
  simp only[St.kn,bH,aE,nM,Key.m.injEq]
  by_cases e:id=j<;>simp[e]
def WL{a}{xs:V dQ}{c}:∀d∈xs.flatMap (cE a)++fC a c,a.kn d.1=ad d.2:=by
 intro d f;rcases bg.1 f with h|h
 .obtain⟨x,_,h⟩:=iP.1 h;exact eG a x d h
 .exact k9 a c d h
def WM{d}{xs}{c}:∀a∈dx (xs.flatMap (cE d)++fC d c),a∈bF xs++cX c:=by intro a f;simp only[dx,fe,bg]at f⊢;exact f.elim (λh=> .inl<|eo d _ a h)<|λh=> .inr<|jY d c a h
section
variable{P:bZ}{tt:TT}
def Ah{c}{op:Op}:∀a∈dx (nF c op),a∈bF op.operands.toList:=λa d=>eo c _ a d
def ahS(i:cd P tt=af){pj:F3}(om:∀f vs fm k r C7 k',pj f vs fm k=ad (r,C7,k')->CX P f vs fm k r C7 k'){n k}{o}(F:o.guard=none){A st'}{k'}{ks}
  (c:PX pj tt n k o.dst o.op A=ad (st',k',ks)):fL P n #[o] 0 A st' k k' ks:=by
 have H:(#[o]:Array bh)[0]? =ad o:=rfl
 unfold PX at c
 split at c
 .rename_i C;split at c
  .rename_i t x y z g;unfold WJ at c;split at c
   .rename_i I J G q m u W L M hz;split at c
    .rename_i N xs R vc T X hu;split at c
     .rename_i KB B Q;simp only[ar,bK]at c;obtain⟨rfl,rfl,rfl⟩:=c;obtain⟨ti,kt,vt,U,V,Z,_⟩:=WG W;have B:N=R:=by simpa using B
      subst B;have kM:I.kind= .int q:=WK T;exact .lK (ahN i H F C g L M hz hu U V Z kM X Q k) (WL (xs:=[x,y,z])) (ahR A G _) (WM (xs:=[x,y,z])) lL
     .simp at c
    .simp at c
   .simp at c
  .split at c
   .rename_i st1 p KC e;split at c
    .rename_i Q;simp only[ar,bK]at c;obtain⟨rfl,rfl,rfl⟩:=c;exact .PK (JF i H F (by rw[C];exact e)<|Pr.EZ Q)<|Wq _ _ _
    .simp at c
   .simp at c
 .rename_i d C;split at c
  .rename_i l;split at c
   .rename_i cf args jZ g;exact ahH om l F C g c
   .rename_i x y t1 t2 g;exact ahE i l F C g c
   .rename_i x y t1 t2 g;unfold WA at c;split at c
    .rename_i E ei hI;have W:=Kq i hI;split at c
     .rename_i G off len cap vy L M;split at c
      .rename_i m cs is Eb bz og e X;split at c
       .rename_i K;simp only[ar,bK]at c;obtain⟨rfl,rfl,rfl⟩:=c;exact .lK (ahu H F C l g W L M X e K.1 K.2.1 K.2.2 k) C3 (Wo A d G _ _) Ae lL
       .simp at c
      .simp at c
     .simp at c
    .simp at c
   .rename_i t x y g;unfold WB at c;split at c
    .rename_i k1 a k2 b ti L M mZ;split at c
     .rename_i E j;split at c
      .rename_i ei mA;split at c
       .rename_i K;obtain⟨rfl,h0,s,rO,lJ⟩:=K;simp only[ar,bK]at c;obtain⟨rfl,rfl,rfl⟩:=c;have ea:((ae a:Y):O)=a:=ui h0;have:=ag7 (P:=P) i H F C l g (st:=A) (m:=ae a) (by rw[ea];exact L) (by rw[ea];exact M) mZ j mA s (dc rO) (dc lJ) k;rw[g]at this;exact .lK this (qq A _) (C1 A d k _ _) Ah lL
       .simp at c
      .simp at c
     .simp at c
    .simp at c
   .rename_i t len parts g;unfold WC at c;split at c
    .rename_i E ei cs w;split at c
     .rename_i K;simp only[ar,bK]at c;obtain⟨rfl,rfl,rfl⟩:=c;have:=ag9 (P:=P) i H F C l g K.1 (dc K.2) w k;rw[g]at this;exact .lK this (qq A _) (C1 A d k _ _) Ah lL
     .simp at c
    .simp at c
   .rename_i f first z1 g
    unfold WE at c;split at c
    .rename_i fs cs hf K;simp only[ar,bK]at c;obtain⟨rfl,rfl,rfl⟩:=c;refine .lK (ahv H F C l g hf K k) ?_ (C1 A d k _ _) (λD j=>eo A _ D j) lL;intro kx S;let ⟨x,_,c⟩:=iP.1 S;exact eG A x kx c
    .simp at c
   .rename_i t g;unfold WH at c;split at c
    .rename_i I J W;simp only[ar,bK]at c;obtain⟨rfl,rfl,rfl⟩:=c;exact .lK (ahK H F C l g _ _ k) (λkx S=>by cases S) (C1 A d k _ _) (λD j=>by cases j) lL
    .simp at c
   .rename_i t x y ok g;unfold WI at c;split at c
    .rename_i I J G q m W L M;split at c
     .rename_i N xs T X;split at c
      .rename_i r B hr;split at c
       .rename_i v w;simp only[ar,bK]at c;obtain⟨rfl,rfl,rfl⟩:=c;obtain⟨ti,kt,vt,U,V,Z,e4⟩:=WG W;have B:N=J.agg:=by simpa using B
        subst B;exact .lK (ahL i H F C l g L M U V Z (WK T) e4 X hr w k) (WL (xs:=[x,y])) (PL A d _) (WM (xs:=[x,y])) lL
       .simp at c
      .simp at c
     .simp at c
    .simp at c
   .split at c
    .rename_i v p w;split at c
     .rename_i Q;simp only[ar,bK]at c;obtain⟨rfl,rfl,rfl⟩:=c;exact .lK (V7 i H F C l w (Pr.EZ Q) k) (qq A _) (PL A d _) Ah lL
     .simp at c
    .split at c
     .rename_i st1 p KC e;split at c
      .rename_i Q;simp only[ar,bK]at c;obtain⟨rfl,rfl,rfl⟩:=c;exact .PK (JF i H F (by rw[C];exact e)<|Pr.EZ Q)<|Wq _ _ _
      .simp at c
     .simp at c
  .simp at c
end
section
variable{P:bZ}{tt:TT}
structure Steps(P:bZ)(n:Y)(f:Array bh)(i:Y)(os:V bh)(st g:St)(k p:Y)(ds:V (V (Key×Info)×V (Key×aw Info)))(d:V Y):Prop where
 len:ds.length=os.length
 WN:d.length=os.length+1
 first:d[0]? =ad k
 last:d[os.length]? =ad p
 mono:∀c a b,d[c]? =ad a->d[c+1]? =ad b->a<=b
 step:∀c(h:c<ds.length) a b,d[c]? =ad a->d[c+1]? =ad b->vn P n f (i+c) ds[c].1 ds[c].2 (λl=>a<=l/\l<b)
 reads:∀c(h:c<ds.length),∀m∈ds[c].1,rK st.kn (ds.take c) m.1=ad m.2
 fin:g.kn=rK st.kn ds
end
inductive Ex where
 |de
 |fS (a:Y)
 |ret
def Ex.F8:Ex->Exit
 | .de=> .normal
 | .fS id=> .exit id
 | .ret=> .ret
def WO(a:bh):Bool:=match a.op with
 | .defer _=>ah
 |_=>af
def nN:Code->Bool
 | .region _ ops _=>ops.toList.all WO
 | .seq x a=>nN x&&nN a
 | .cond _ x a=>nN x&&nN a
 | .block _ x=>nN x
 | .loop x=>nN x
 | .skip=>af
 | .exit _=>af
 | .ret=>af
 |_=>ah
def mB(r:aw Y)(c:Code):Prop:=r=none\/nN c=af
def mB.seq{r}{x c}(a:mB r (.seq x c)):mB r x/\mB r c:=by
 rcases a with a|a
 .exact⟨.inl a,.inl a⟩
 .simp only[nN,cr]at a;exact⟨.inr a.1,.inr a.2⟩
def mB.cond{r}{c}{x d}(a:mB r (.cond c x d)):mB r x/\mB r d:=by
 rcases a with a|a
 .exact⟨.inl a,.inl a⟩
 .simp only[nN,cr]at a;exact⟨.inr a.1,.inr a.2⟩
def mB.block{r}{a}{x}(c:mB r (.block a x)):mB r x:=c
def mB.loop{r}{x}(a:mB r (.loop x)):mB r x:=a
def mB.region{r}{k}{f}{d}(a:mB r (.region k f d)):zy r f:=by
 intro i o g;rcases a with a|a
 .exact .inl a
 .refine .inr<|λc l=>?_;simp only[nN,mq]at a;have:=a o (by rw[<-Cs]at g;exact KD g);simp[WO,l]at this
def F9(P:bZ)(n:Y)(c:Code)(i:St)(k:Y)(l:Ex)(d:St)(f:Y):Prop:=
 k<=f/\∀F:eP,F.n=n->mB F.rd c->∀g W a,bw F (·<k) i.kn g W a->c.wpIn (fw F.rd) 0 P (λm p r=>m=l.F8/\∃t,bw F (·<f) d.kn t r p) a W
section
variable{P:bZ}{tt:TT}
def WQ{F}{c:Y->Prop}{i}{g}{W}{a}(k:bw F c i.kn g W a){x}{v}(hv:oc tt i x=ad v):∀d∈v.ak,c d:=by
 cases x with
 |tmp t=>
  simp only[oc]at hv
  exact λd f=>k.ak (.s t) (.v v) zT d f
 |cell b t=>
  simp only[oc]at hv
  split at hv
  .rename_i d l B;split at hv
   .rename_i E n p sz C r u;intro j A;exact k.ak (.m d) (.b<|.box E n p) (by simp[St.kn,r]) j<|xA hv j A
   .simp at hv
  .simp at hv
def WR{F:eP}{d:Y->Prop}{l:St}{g:Gh}{W:World}{a:Act}(m:bw F d l.kn g W a):∀(n:V ResultVar)(k:V (Bool×V C)),oe tt l n=ad k->∀i∈fP k,d i
 |[],k,f,i,c=>by simp only[oe,ar]at f;subst f;cases c
 |x::xs,k,f,i,c=>by
  simp only[oe]at f;split at f
  .rename_i v p;split at f
   .rename_i A r t u;simp only[ar]at f;subst f;simp only[fP,bg]at c;rcases c with c|c
    .rw[Kg t]at c;exact WQ (tt:=tt) m p i c
    .exact WR m xs r u i c
   .simp at f
  .simp at f
def WS{F}{c:Y->Prop}{k}{g}{W}{a}(l:bw F c k.kn g W a){m}{v}(d:lI tt k m=ad v):∀n∈v.ak,c n:=by
 match m,d with
 |[],d=>
  simp only[lI,oe,ud,ar]at d
  subst d
  intro n f;cases f
 |[x],d=>exact WQ (tt:=tt) l d
 |x::y::r,d=>
  simp only[lI,cL]at d
  obtain⟨p,i,rfl⟩:=d
  exact WR (tt:=tt) l _ p i
def ahU(cp:cd P tt=af){f}{d}{c}(hf:P.funcs[f]? =ad d)(hb:d.body=ad c)(uf:(d.name != "runtime.NumGoroutine")=af){vs}(hle:Z vs<=d.ntmps){fm}{k}{cz:Ex}{M}{k'}(p:cz= .de\/cz= .ret)
  (Q:F9 P d.ntmps c ⟨dv 0 vs,fm,0,[]⟩ k cz M k') {r}(hr:lI tt M d.results.toList=ad r) {C7}(H:∀A S,o A C7=ad S->o A M.mem=ad S):CX P f vs fm k r C7 k':=by
 refine⟨CE,Q.1,?_⟩
 intro F g W L hn o8 B
 refine calls_of_wp hf hb ?_
 have I:(L.toArray++sV (d.ntmps-L.toArray.size) undef).size=d.ntmps:=bX
 have h0:bw {F with n:=d.ntmps,rd:=none} (·<k) (St.kn ⟨dv 0 vs,fm,0,[]⟩) g W {tmps:=L.toArray++sV (d.ntmps-L.toArray.size) undef,defers:=[]}:=by
  refine⟨I,B.defers,?_,B.c8,B.inj,B.ak,B.dO,B.sub,B.below,B.le,B.fresh,B.gW⟩;intro t v N;have O:=B.eC t v N;have iN:t<Z L:=by
   have q:o t (dv 0 vs)=ad v:=by simp only[St.kn,cL]at N;let ⟨x,a,p⟩:=N;cases p;exact a
   have w:∀(l:V AV)(i:Y)(v:AV),o t (dv i l)=ad v->t<i+Z l:=by
    intro l;induction l with
    |nil=>intro i v Q;simp[dv,o]at Q
    |cons x l ih=>
     intro i v Q
     simp only[dv,o]at Q
     split at Q
     .simp;omega
     .have:=ih (i+1) v Q;simp;omega
   have:=w vs 0 v q;omega
  have:(L.toArray++sV (d.ntmps-L.toArray.size) undef).getD t undef=L.toArray.getD t undef:=by rw[nI,nI,zZ CG]
  show bG g v ((L.toArray++sV (d.ntmps-L.toArray.size) undef).getD t undef);rw[this];exact O
 refine(U9 (r:=none) J).1<|wpIn_mono (Q.2 {F with n:=d.ntmps,rd:=none} rfl (.inl J) g W _ h0) ?_
 rintro e' a' W' ⟨rfl,g',C⟩
 let ⟨u,hu,z⟩:=CB (P:=P) (tt:=tt) (st:=M) cp C (fn:=d) (rs:=d.results.toList) ay hr
 have X:∃v R,ahV u= .returned v/\bw {F with n:=1} (·<k') (St.kn ⟨[(0,r)],C7,0,[]⟩) R W' (m9 [v]):=by
  have T:=WS (tt:=tt) C hr;refine⟨u,g',J,⟨J,B.defers,?_,?_,?_,?_,?_,C.sub,C.below,C.le,C.fresh,C.gW⟩⟩
  .intro t x a;simp only[St.kn,o,cL]at a;let ⟨y,K,p⟩:=a;cases p;split at K
   .rename_i cz;subst cz;cases K;simpa[m9]using z
   .cases K
  .intro A S hb;simp only[St.kn,cL]at hb;let ⟨x,a,p⟩:=hb;cases p;exact C.c8 A S (by simp[St.kn,H A S a])
  .intro A D S b' kk hb E O h2;simp only[St.kn,cL]at hb E;let ⟨x,a,p⟩:=hb;let ⟨x',U,FW⟩:=E;cases p;cases FW;exact C.inj A D S b' kk (by simp[St.kn,H A S a]) (by simp[St.kn,H D b' U]) O h2
  .intro w x a A G;cases w with
   |s t=>
    simp only[St.kn,o,cL]at a
    let ⟨y,K,p⟩:=a
    subst p
    split at K
    .cases K;exact T A G
    .cases K
   |m j=>
    simp only[St.kn,cL]at a
    let ⟨y,K,p⟩:=a
    subst p
    exact C.ak (.m j) (.b y) (by simp[St.kn,H j y K]) A G
  .intro A x a;simp only[St.kn,cL]at a;let ⟨y,K,p⟩:=a;exact C.dO A (.b y) (by simp[St.kn,H A y K])
 rcases p with rfl|rfl
 .exact⟨C.defers.trans B.defers.symm,u,hu,X⟩
 .exact⟨C.defers.trans B.defers.symm,u,hu,X⟩
end
def dK:TT:=[
 (2,⟨.int .i64,1,8,[],[.i .i64]⟩),
 (3,⟨.int .i64,1,8,[],[.i .i64]⟩),
 (4,⟨.bool,1,1,[],[.b]⟩),
 (5,⟨.int .u8,1,1,[],[.i .u8]⟩),
 (6,⟨.int .u8,1,1,[],[.i .u8]⟩),
 (9,⟨.str,1,16,[],[.t]⟩),
 (10,⟨.str,1,16,[],[.t]⟩),
 (11,⟨.str,1,16,[],[.t]⟩),
 (12,⟨.int .u64,1,8,[],[.i .u64]⟩),
 (21,⟨.int .i32,1,4,[],[.i .i32]⟩),
 (22,⟨.sl 53,1,24,[],[.s]⟩),
 (23,⟨.st,2,32,[(0,1,ah),(1,1,ah)],[.i .u8,.s]⟩),
 (24,⟨.st,2,32,[(0,1,ah),(1,1,ah)],[.i .u8,.s]⟩),
 (25,⟨.sl 57,1,24,[],[.s]⟩),
 (26,⟨.sl 57,1,24,[],[.s]⟩),
 (28,⟨.sl 44,1,24,[],[.s]⟩),
 (29,⟨.sl 44,1,24,[],[.s]⟩),
 (33,⟨.int .i64,1,8,[],[.i .i64]⟩),
 (40,⟨.sl 142,1,24,[],[.s]⟩),
 (41,⟨.st,2,32,[(0,1,ah),(1,1,ah)],[.b,.s]⟩),
 (42,⟨.st,2,32,[(0,1,ah),(1,1,ah)],[.b,.s]⟩),
 (43,⟨.st,4,64,[(0,2,af),(2,2,af)],[.b,.s,.b,.s]⟩),
 (44,⟨.st,4,64,[(0,2,af),(2,2,af)],[.b,.s,.b,.s]⟩),
 (51,⟨.arr 3 26,3,72,[],[.s,.s,.s]⟩),
 (53,⟨.int .i8,1,1,[],[.i .i8]⟩),
 (55,⟨.arr 2 26,2,48,[],[.s,.s]⟩),
 (56,⟨.st,3,3,[(0,1,ah),(1,1,ah),(2,1,ah)],[.i .i8,.i .i8,.i .u8]⟩),
 (57,⟨.st,3,3,[(0,1,ah),(1,1,ah),(2,1,ah)],[.i .i8,.i .i8,.i .u8]⟩),
 (68,⟨.sl 26,1,24,[],[.s]⟩),
 (69,⟨.arr 3 68,3,72,[],[.s,.s,.s]⟩),
 (70,⟨.sl 29,1,24,[],[.s]⟩),
 (77,⟨.sl 129,1,24,[],[.s]⟩),
 (78,⟨.st,1,24,[(0,1,ah)],[.s]⟩),
 (79,⟨.st,1,24,[(0,1,ah)],[.s]⟩),
 (80,⟨.arr 2 79,2,48,[],[.s,.s]⟩),
 (81,⟨.arr 8 29,8,192,[],[.s,.s,.s,.s,.s,.s,.s,.s]⟩),
 (82,⟨.sl 132,1,24,[],[.s]⟩),
 (83,⟨.sl 132,1,24,[],[.s]⟩),
 (90,⟨.sl 22,1,24,[],[.s]⟩),
 (101,⟨.map 3 104,1,8,[],[.m]⟩),
 (103,⟨.st,2,48,[(0,1,ah),(1,1,ah)],[.s,.s]⟩),
 (104,⟨.st,2,48,[(0,1,ah),(1,1,ah)],[.s,.s]⟩),
 (110,⟨.sl 114,1,24,[],[.s]⟩),
 (113,⟨.st,2,32,[(0,1,ah),(1,1,ah)],[.s,.i .i64]⟩),
 (114,⟨.st,2,32,[(0,1,ah),(1,1,ah)],[.s,.i .i64]⟩),
 (126,⟨.arr 8 3,8,64,[],[.i .i64,.i .i64,.i .i64,.i .i64,.i .i64,.i .i64,.i .i64,.i .i64]⟩),
 (127,⟨.arr 8 3,8,64,[],[.i .i64,.i .i64,.i .i64,.i .i64,.i .i64,.i .i64,.i .i64,.i .i64]⟩),
 (129,⟨.arr 5 53,5,5,[],[.i .i8,.i .i8,.i .i8,.i .i8,.i .i8]⟩),
 (131,⟨.st,12,128,[(0,4,af),(4,8,af)],[.b,.s,.b,.s,.i .i64,.i .i64,.i .i64,.i .i64,.i .i64,.i .i64,.i .i64,.i .i64]⟩),
 (132,⟨.st,12,128,[(0,4,af),(4,8,af)],[.b,.s,.b,.s,.i .i64,.i .i64,.i .i64,.i .i64,.i .i64,.i .i64,.i .i64,.i .i64]⟩),
 (142,⟨.int .u32,1,4,[],[.i .u32]⟩),
 (150,⟨.int .u64,1,8,[],[.i .u64]⟩),
 (161,⟨.sl 42,1,24,[],[.s]⟩),
 (167,⟨.sl 150,1,24,[],[.s]⟩),
 (173,⟨.sl 178,1,24,[],[.s]⟩),
 (176,⟨.sl 167,1,24,[],[.s]⟩),
 (177,⟨.st,2,32,[(0,1,ah),(1,1,ah)],[.s,.i .i64]⟩),
 (178,⟨.st,2,32,[(0,1,ah),(1,1,ah)],[.s,.i .i64]⟩),
 (181,⟨.sl 161,1,24,[],[.s]⟩),
 (192,⟨.int .u64,1,8,[],[.i .u64]⟩),
 (200,⟨.st,2,48,[(0,1,ah),(1,1,ah)],[.s,.s]⟩),
 (201,⟨.st,2,48,[(0,1,ah),(1,1,ah)],[.s,.s]⟩),
 (207,⟨.st,2,48,[(0,1,ah),(1,1,ah)],[.s,.s]⟩),
 (208,⟨.st,2,48,[(0,1,ah),(1,1,ah)],[.s,.s]⟩),
 (220,⟨.st,2,32,[(0,1,ah),(1,1,ah)],[.s,.i .u64]⟩),
 (221,⟨.st,2,32,[(0,1,ah),(1,1,ah)],[.s,.i .u64]⟩),
 (226,⟨.sl 221,1,24,[],[.s]⟩),
 (230,⟨.int .i64,1,8,[],[.i .i64]⟩),
 (264,⟨.int .u64,1,8,[],[.i .u64]⟩),
 (274,⟨.arr 4 150,4,32,[],[.i .u64,.i .u64,.i .u64,.i .u64]⟩),
 (277,⟨.sl 3,1,24,[],[.s]⟩),
 (286,⟨.st,4,40,[(0,1,ah),(1,1,ah),(2,1,ah),(3,1,ah)],[.p,.p,.p,.t]⟩),
 (287,⟨.st,4,40,[(0,1,ah),(1,1,ah),(2,1,ah),(3,1,ah)],[.p,.p,.p,.t]⟩),
 (288,⟨.arr 0 16,0,0,[],[]⟩),
 (291,⟨.int .u8,1,1,[],[.i .u8]⟩),
 (292,⟨.int .u8,1,1,[],[.i .u8]⟩),
 (295,⟨.int .i32,1,4,[],[.i .i32]⟩),
 (296,⟨.int .i32,1,4,[],[.i .i32]⟩),
 (297,⟨.st,11,48,[(0,1,ah),(1,1,ah),(2,1,ah),(3,1,ah),(4,1,ah),(5,1,ah),(6,1,ah),(7,1,ah),(8,1,ah),(9,1,ah),(10,1,ah)],[.i .u64,.i .u64,.i .u32,.i .u8,.i .u8,.i .u8,.i .u8,.f,.p,.i .i32,.i .i32]⟩)]
def cq:cd z dK=af:=dD
def MX:Tryz.prog.follows .mixedOrders=af:=dD
abbrev ao:ET:= .int .u32
abbrev au:ET:= .int .u64
abbrev mC:ET:= .int .i64
abbrev I8:ET:= .int .i8
abbrev cI(n:O):AV:= .c<|.I .i64 n
abbrev cU(n:O):AV:= .c<|.I .u64 n
abbrev cW(n:O):AV:= .c<|.I .u32 n
abbrev cB(a:Bool):AV:= .c<|.B a
abbrev cS(a:ET)(xs:V a.den):AV:= .c<|.S a xs
abbrev aZ(c:O):AV:= .a<|av .z c
abbrev aQ(c:Rat):AV:= .a<|av .q c
section
variable{n:Y}{Q:lH}{sl cu:V (Y×AV)}{mem cv:V (Y×aN)}{nx:Y}{gd cJ:V (Y×Bool)}{id:Y}{ops:Array bh}{draw:Bool}{y:Code}{p:Pr}{ks dJ:V Ks}{i i' n0 cM:Y}
def rr(c:runs dK n nx draw ops.toList ops.toList 0 ⟨sl,mem,nx,gd⟩ .t []=([],i',⟨cu,cv,n0,cJ⟩,p,ks))(d:TR z n y ⟨cu,cv,nx+1,[]⟩ Q)
  (hp:p:=by exact ll) (f:(!draw||rJ ops.toList ks)=af:=by kernel_rfl) (a:eJ ops.size 1000=af:=by rfl):TR z n (.seq (.region id ops draw) y) ⟨sl,mem,nx,gd⟩ Q:=
 U (JM MX<|lj cq c hp<|Pa d f a)
def rt(c:runs dK n nx draw ops.toList ops.toList 0 ⟨sl,mem,nx,gd⟩ .t []=([],i',⟨cu,cv,n0,cJ⟩,p,ks))(d:e9 n .normal ⟨cu,cv,nx+1,[]⟩ Q)
  (hp:p:=by exact ll) (f:(!draw||rJ ops.toList ks)=af:=by kernel_rfl) (a:eJ ops.size 1000=af:=by rfl):TR z n (.region id ops draw) ⟨sl,mem,nx,gd⟩ Q:=
 JM MX (lj cq c hp<|Pa d f a)
def rb(c:RG z n ops draw nx 0 ops.toList ⟨sl,mem,nx,gd⟩ [] (λa=>TR z n y a Q)):TR z n (.seq (.region id ops draw) y) ⟨sl,mem,nx,gd⟩ Q:=U<|JM MX c
def bT(c:RG z n ops draw nx 0 ops.toList ⟨sl,mem,nx,gd⟩ [] (λa=>e9 n .normal a Q)):TR z n (.region id ops draw) ⟨sl,mem,nx,gd⟩ Q:=JM MX c
variable{R:St->Prop}{os:V bh}{d f:Y}{args:Array dQ}{jZ:Array dI}{ty:dI}{pos:String}{iS:Array Edge}{dX:V bh}{vs:V AV}{r:AV}
def rc(c:runs dK n nx draw ops.toList os i ⟨sl,mem,n0,gd⟩ .t ks=(⟨ad d,.call ⟨.value<|.func f,args,jZ⟩,ty,pos,iS,none⟩::dX,i',⟨cu,cv,cM,cJ⟩,p,dJ))(g:jw ⟨cu,cv,cM,cJ⟩ args.toList=ad vs)(k:al z f vs r)
  (l:RG z n ops draw nx (i'+1) dX ⟨(d,r)::cu,cv,cM,cJ⟩ (gJ draw dJ (bF args.toList,[.s d])) R)
  (hp:p:=by exact ll) (m:cY vs=[]:=by rfl) (a:dk d n=af:=by rfl):RG z n ops draw nx i os ⟨sl,mem,n0,gd⟩ ks R:=
 lj cq c hp (agF g k l m a)
def gK{m g}{a u}(v:runs dK n nx draw ops.toList os i ⟨sl,mem,n0,gd⟩ .t ks=(⟨ad d,.call ⟨.value<|.func f,args,jZ⟩,ty,pos,iS,ad (m,a)⟩::dX,i',⟨cu,cv,cM,cJ⟩,p,dJ))(x:nH ops.toList m=ad g)(A:o g cu=ad (.c<|.B u))(k:u=a)(F:jw ⟨cu,cv,cM,cJ⟩ args.toList=ad vs)(H:al z f vs r)
  (L:RG z n ops draw nx (i'+1) dX ⟨(d,r)::cu,cv,cM,cJ⟩ (gJ draw dJ (.s g::bF args.toList,[.s d])) R)
  (hp:p:=by exact ll) (M:cY vs=[]:=by rfl) (l:dk d n=af:=by rfl):RG z n ops draw nx i os ⟨sl,mem,n0,gd⟩ ks R:=
 lj cq v hp (agG x A k F H L M l)
def re(c:runs dK n nx draw ops.toList os i ⟨sl,mem,n0,gd⟩ .t ks=([],i',⟨cu,cv,cM,cJ⟩,p,dJ))(g:R ⟨cu,cv,nx+1,[]⟩)
  (hp:p:=by exact ll) (ho:(!draw||rJ ops.toList dJ)=af:=by kernel_rfl) (a:eJ ops.size 1000=af:=by rfl):RG z n ops draw nx i os ⟨sl,mem,n0,gd⟩ ks R:=
 lj cq c hp (Pa g ho a)
def rg t{a}{g}(k:runs dK n nx draw ops.toList os i ⟨sl,mem,n0,gd⟩ .t ks=(g::dX,i',⟨cu,cv,cM,cJ⟩,p,dJ))(l:o t cu=ad (.c<|.B a))
  (m:a=af->RG z n ops draw nx i' (g::dX) ⟨(t,.c<|.B af)::cu,cv,cM,(t,af)::cJ⟩ dJ R) (u:a=ah->RG z n ops draw nx i' (g::dX) ⟨(t,.c<|.B ah)::cu,cv,cM,(t,ah)::cJ⟩ dJ R)
  (v:p:=by exact ll):RG z n ops draw nx i os ⟨sl,mem,n0,gd⟩ ks R:=
 lj cq k v (agH t l m u)
def rm{t:Y}{x}a(m:Y)(S:runs dK n nx draw ops.toList os i ⟨sl,mem,n0,gd⟩ .t ks=(⟨ad d,.makeSlice t x x,ty,pos,iS,none⟩::dX,i',⟨cu,cv,cM,cJ⟩,p,dJ)){k}{v}(W:St.ev ⟨cu,cv,cM,cJ⟩ x=ad (.c<|.I k v)){u}{P l}(A:o t dK=ad P)(B:P.kind= .sl u)(F:o u dK=ad l)(H:l.size=a.n)
  (hz:∀g:Gh,bc g (av a a.aD) (l.zero.map ZV.eE)) (hv:v=(m:O)) (hb:m*l.bytes<=281474976710656) (L:m*a.n<=140737488355328)
  (hk:RG z n ops draw nx (i'+1) dX ⟨(d,.c<|.X<|1000000*nx+1000*i')::cu,(1000000*nx+1000*i',.vec u a<|bp m a.aD)::cv,cM,cJ⟩ (gJ draw dJ (bF [x,x],[.s d,.m<|1000000*nx+1000*i'])) R)
  (hp:p:=by exact ll) (M:dk d n=af:=by rfl):RG z n ops draw nx i os ⟨sl,mem,n0,gd⟩ ks R:=
 lj cq S hp (agO cq a m W hv A B F H hz hb L hk M)
end
def lM k g:bc g (av (.int k)<|ET.aD<|.int k) ([ZV.i k].map ZV.eE):=⟨_,_,J,J,J⟩
def WT H:BK H [] (.slice none 0 0):=⟨none,0,J,a7 _,ay,.inl J⟩
def KE g:bc g (av .z (0:O)) ([ZV.b,ZV.s].map ZV.eE):=I9 ⟨_,J,WT _⟩
def PY g:bc g (av (.pr .z .z) ((0,0):O×O)) ([ZV.b,ZV.s,ZV.b,ZV.s].map ZV.eE):=bc.append (KE g)<|KE g
section
variable{n:Y}{Q:lH}{sl cu:V (Y×AV)}{mem cv:V (Y×aN)}{nx:Y}{gd cJ:V (Y×Bool)}{id:Y}{ops:Array bh}{draw:Bool}{y y0:Code}{p q:Pr}{ks dJ KC:V Ks}{i i' n0 cM:Y}{st:St}{fn:Func}{rs:V ResultVar}{r r':AV}
variable{R:St->Prop}{os:V bh}{d f:Y}{args:Array dQ}{jZ:Array dI}{ty:dI}{pos:String}{iS:Array Edge}{dX:V bh}{vs:V AV}
def atR(c:lI dK st rs=ad r)(a:fn.results=rs.toArray:=by rfl)(g:r.ak=[]:=by rfl):e9 n .ret st (zW z fn r):=gZ cq c (bf.refl _) a g
def dR(c:lI dK st rs=ad r')(g:r'=r)(a:fn.results=rs.toArray:=by rfl)(k:r.ak=[]:=by rfl):e9 n .ret st (zW z fn r):=gZ cq c (bf.of_eq g) a k
def cx(c:lI dK st rs=ad r)(a:fn.results=rs.toArray:=by rfl)(g:r.ak=[]:=by rfl):TR z n .ret st (zW z fn r):=bI<|atR c a g
def bQ(c:lI dK st rs=ad r')(g:r'=r)(a:fn.results=rs.toArray:=by rfl)(k:r.ak=[]:=by rfl):TR z n .ret st (zW z fn r):=bI<|dR c g a k
def a6{a:Type}{c:a->St}{g:a->Prop}{k:a->Y}{x}(l:e9 n .normal st Q):TR z n (.exit id) st (sI z y0<|Fv c g k x<|vE id Q):=kJ<|m8<|nK<|kK l
def aA(a:TR z n y st Q):TR z n .skip st (sI z y Q):=cZ<|aO a
def aX(a:TR z n y st Q):e9 n .normal st (vE id<|sI z y Q):=eH<|aO a
def bD(m:runs dK n nx draw ops.toList ops.toList 0 ⟨sl,mem,nx,gd⟩ .t []=(⟨ad d,.call ⟨.value<|.func f,args,jZ⟩,ty,pos,iS,none⟩::dX,i',⟨cu,cv,cM,cJ⟩,p,dJ))(u:jw ⟨cu,cv,cM,cJ⟩ args.toList=ad vs)(v:al z f vs r)
 {c}{a}{x A}{g}(B:runs dK n nx draw ops.toList dX (i'+1) ⟨(d,r)::cu,cv,cM,cJ⟩ .t (gJ draw dJ (bF args.toList,[.s d]))=([],A,⟨c,a,x,g⟩,q,KC)) (F:TR z n y ⟨c,a,nx+1,[]⟩ Q)
  (H:p:=by exact ll) (L:cY vs=[]:=by rfl) (k:dk d n=af:=by rfl) (M:q:=by first|trivial| (simp only[Pr.an,Pr.h,num,fR,true_and,and_true];first|done|omega)| (simp[Pr.an,Pr.h,num,fR];done)| (simp[Pr.an,Pr.h,num,fR];omega)) (P:(!draw||rJ ops.toList KC)=af:=by kernel_rfl) (l:eJ ops.size 1000=af:=by rfl):TR z n (.seq (.region id ops draw) y) ⟨sl,mem,nx,gd⟩ Q:=
 rb (rc m u v (re B F M P l) H L k)
def aR{f}{fn}{c}{args}{r}(m:Tryz.prog.funcs[f]? =ad fn)(t:TR z n c ⟨dv 0 args,[],0,[]⟩ (zW z fn r))(u:fn.body=ad c:=by exact F')(v:fn.ntmps=n:=by exact F')(g:eJ args.length n=af:=by exact F')(k:cY args=[]:=by exact F')(l:r.ak=[]:=by exact F')(a:(fn.name != "runtime.NumGoroutine")=af:=by decide):al z f args r:=CC m u v g k l a t
end
section
variable{n:Y}{sl cu:V (Y×AV)}{mem cv:V (Y×aN)}{nx:Y}{gd cJ:V (Y×Bool)}{ops:Array bh}{draw:Bool}{p:Pr}{ks dJ:V Ks}{i i' n0 cM:Y}
variable{R:St->Prop}{os:V bh}{d:Y}{ty:dI}{pos:String}{iS:Array Edge}{dX:V bh}
def rl k xs{t f:Y}{a}(u:runs dK n nx draw ops.toList os i ⟨sl,mem,n0,gd⟩ .t ks=(⟨ad d,.buildSlice t f a,ty,pos,iS,none⟩::dX,i',⟨cu,cv,cM,cJ⟩,p,dJ)){v}{r}(x:sK dK ⟨cu,cv,cM,cJ⟩ t f a.toList=ad (v,r,xs.flatMap<|av k))
  (A:RG z n ops draw nx (i'+1) dX ⟨(d,.c<|.S k xs)::cu,cv,cM,cJ⟩ (gJ draw dJ (bF (WD t f a).operands.toList,[.s d])) R) (B:r.size=k.n:=by rfl) (l:Z xs=f:=by rfl) (g:eJ (f*k.n) 16777216=af:=by rfl)
  (hp:p:=by exact ll) (m:dk d n=af:=by rfl):RG z n ops draw nx i os ⟨sl,mem,n0,gd⟩ ks R:=
 lj cq u hp (agQ cq k xs x B l g A m)
def fg k xs{t f:Y}{a}(x:runs dK n nx draw ops.toList os i ⟨sl,mem,n0,gd⟩ .t ks=(⟨ad d,.buildSlice t f a,ty,pos,iS,none⟩::dX,i',⟨cu,cv,cM,cJ⟩,p,dJ)){u}{v}(A:sK dK ⟨cu,cv,cM,cJ⟩ t f a.toList=ad (u,v,xs.flatMap<|av k))
  (B:RG z n ops draw nx (i'+1) dX ⟨(d,.c<|.X<|1000000*nx+1000*i')::cu,(1000000*nx+1000*i',.vec u k xs)::cv,cM,cJ⟩ (gJ draw dJ (bF (WD t f a).operands.toList,[.s d,.m<|1000000*nx+1000*i'])) R) (F:v.size=k.n:=by rfl) (l:Z xs=f:=by rfl) (g:eJ (f*k.n) 16777216=af:=by rfl)
  (H:p:=by exact ll) (r:dk d n=af:=by rfl):RG z n ops draw nx i os ⟨sl,mem,n0,gd⟩ ks R:=
 lj cq x H (agR cq k xs A F l g B r)
def xW{t:Y}{x f}{a m k}{u}{T}{xs}{v}{A}(g:T.den)(B:runs dK n nx draw ops.toList os i ⟨sl,mem,n0,gd⟩ .t ks=(⟨none,.store t x f,ty,pos,iS,none⟩::dX,i',⟨cu,cv,cM,cJ⟩,p,dJ))
  (F:St.ev ⟨cu,cv,cM,cJ⟩ x=ad (.c<|.Y a m k 0)) (H:o a cv=ad (.vec u T xs)) (L:St.ev ⟨cu,cv,cM,cJ⟩ f=ad v) (l:jX v=ad (av T g)) (M:k<Z xs)
  (P:RG z n ops draw nx (i'+1) dX ⟨cu,(a,.vec u T<|xs.set k g)::cv,cM,cJ⟩ (gJ draw dJ (bF [x,f]++cX [a],[.m a])) R) (Q:T.n=m:=by rfl) (r:oY dK t=ad (m,A):=by rfl)
  (hp:p:=by exact ll):RG z n ops draw nx i os ⟨sl,mem,n0,gd⟩ ks R:=
 lj cq B hp (agP cq F H L Q r g l M P)
def ra{x v}{Q W}{f}{r E2:dI}{a}{xs g}{ti k u}(cF:runs dK n nx draw ops.toList os i ⟨sl,mem,n0,gd⟩ .t ks=(⟨ad d,.call ⟨.builtin .append,#[x,v],#[Q,W]⟩,ty,pos,iS,none⟩::dX,i',⟨cu,cv,cM,cJ⟩,p,dJ))
  (hx:St.ev ⟨cu,cv,cM,cJ⟩ x=ad (.c<|.X f)) (hl:o f cv=ad (.vec r a xs)) (hy:St.ev ⟨cu,cv,cM,cJ⟩ v=ad (.c<|.S a g)) (A:o Q dK=ad ti) (hk:ti.kind= .sl r) (l:o W dK=ad k) (B:k.kind= .sl E2) (F:o r dK=ad u)
  (hb:((Z xs+Z g)+(Z xs+Z g)/4+192)*u.bytes<=281474976710656) (H:(Z xs+Z g)*a.n<=140737488355328)
  (hr:RG z n ops draw nx (i'+1) dX ⟨(d,.c<|.X<|1000000*nx+1000*i')::cu,(1000000*nx+1000*i',.vec r a<|xs++g)::rI f cv,cM,cJ⟩ (gJ draw dJ (bF [x,v]++cX [f],[.s d,.m<|1000000*nx+1000*i',.m f])) R) (L:u.size=a.n:=by rfl) (M:Z u.zero=a.n:=by rfl)
  (hp:p:=by exact ll) (P:dk d n=af:=by rfl):RG z n ops draw nx i os ⟨sl,mem,n0,gd⟩ ks R:=
 lj cq cF hp (ag2 cq hx hl hy A hk l B F L M hb H hr P)
def ran{x r}{P Q}{u E2:dI}{a}{f}{W g l}(cF:runs dK n nx draw ops.toList os i ⟨sl,mem,n0,gd⟩ .t ks=(⟨ad d,.call ⟨.builtin .append,#[x,r],#[P,Q]⟩,ty,pos,iS,none⟩::dX,i',⟨cu,cv,cM,cJ⟩,p,dJ))
  (hx:St.ev ⟨cu,cv,cM,cJ⟩ x=ad (.c<|.V<|.slice none 0 0)) (hy:St.ev ⟨cu,cv,cM,cJ⟩ r=ad (.c<|.S a f)) (v:o P dK=ad W) (hk:W.kind= .sl u) (k:o Q dK=ad g) (A:g.kind= .sl E2) (B:o u dK=ad l)
  (hb:(Z f+Z f/4+192)*l.bytes<=281474976710656) (F:Z f*a.n<=140737488355328)
  (hr:RG z n ops draw nx (i'+1) dX ⟨(d,.c<|.X<|1000000*nx+1000*i')::cu,(1000000*nx+1000*i',.vec u a f)::cv,cM,cJ⟩ (gJ draw dJ (bF [x,r],[.s d,.m<|1000000*nx+1000*i'])) R) (H:l.size=a.n:=by rfl) (L:Z l.zero=a.n:=by rfl)
  (hp:p:=by exact ll) (M:dk d n=af:=by rfl):RG z n ops draw nx i os ⟨sl,mem,n0,gd⟩ ks R:=
 lj cq cF hp (ag3 cq hx hy v hk k A B H L hb F hr M)
end
def KF:AV->aw Bool
 | .c (.V<|.slice none 0 0)=>ad af
 | .c (.L _ _ _ _)=>ad ah
 | .c (.S _<|_::_)=>ad ah
 |_=>none
def PZ(a:TT)(t:Y):Bool:=match o t a with
 |some c=>(match c.kind with| .sl _=>af|_=>ah)
 |none=>ah
def Ga(a:ByteArray)(i:O):aw O:=match a[i.toNat]? with
 |some b=>ad b.toNat
 |none=>none
def P0(a:TT)(op:BinOp)(t:Y)(v d:AV):aw AV:=match d with
 | .c (.V<|.slice none 0 0)=>(match PZ a t,KF v with
  |true,ad b=>(match op with
   | .eql=>ad<|.c<|.B b
   | .neq=>ad<|.c<|.B<|!b
   |_=>none)
  |_,_=>none)
 |_=>none
def uj(d:TT)(k:St):Op->aw (AV×Pr)
 | .build t parts=>(match o t d with
  |some f=>(match f.kind with
   | .arr len l=>(match o l d with
    |some m=>(match zN (uh m.size 0 len) k (f.zero.map ZV.oX) parts.toList with
     |some cs=>ad (.a cs,.t)
     |none=>none)
    |none=>none)
   |_=>none)
  |none=>none)
 | .index t x i=>(match k.ev x,k.ev i with
  |some (.a cs),ad (.c<|.I _ g)=>(match o t d with
   |some f=>(match f.kind with
    | .arr len l=>(match oY d l with
     |some (sz,n)=>(match mY cs (ae g*sz) sz n with
      |some u=>ad (u,.and (.le 0 g)<|.lt g len)
      |none=>none)
     |none=>none)
    |_=>none)
   |none=>none)
  |some (.c<|.V<|.string p),ad (.c<|.I _ g)=>(match o t d with
   |some f=>(match f.kind,Ga p g with
    | .str,ad r=>ad (.c<|.I .u8 r,.le 0 g)
    |_,_=>none)
   |none=>none)
  |_,_=>none)
 | .binOp op t x A _=>(match k.ev x,k.ev A with
  |some v,ad B=>(match P0 d op t v B with
   |some u=>ad (u,.t)
   |none=>none)
  |_,_=>none)
 |_=>none
section
variable{P:bZ}{tt:TT}{g:Gh}{W:World}
def ahX{v}{f}(d:KF v=ad f){u}(k:bG g v u):∃a l c,u= .slice a l c/\a.isNone=f:=by
 unfold KF at d;split at d
 .cases d;have m:u= .slice none 0 0:=k;exact⟨none,0,0,m,J⟩
 .rename_i t n r i;cases d;cases i with
  |some c=>obtain⟨f,_,rfl⟩:=k;exact⟨_,_,_,J,J⟩
  |none=>obtain⟨_,f,c,_,rfl,_⟩:=k;exact⟨_,_,_,J,J⟩
 .rename_i T x xs;cases d;obtain⟨a,i,rfl,_,_,p⟩:=k;rcases p with p|⟨f,n,rfl,_⟩
  .cases p
  .exact⟨_,_,_,J,J⟩
 .cases d
def ahY{t d}(f:P.underlying t=ad (.slice d)) a l c:(Op.equal t (.slice a l c)<|.slice none 0 0).run P W= .ok a.isNone W:=by rw[Op.equal,show Op.maxDepth=9999+1 from J,Op.equalIn];cases a<;>simp[run_underlying f]
def ahZ(L:cd P tt=af){F}{d:Y->Prop}{σ}{g}{W}{a}(S:bw F d σ g W a){M}{n:BinOp}{t:dI}{p r}{ty}(bV:M.op= .binOp n t p r ty){v:AV}{u:Bool}(f:PZ tt t=af)(hn:KF v=ad u){x:AV}
  (he:(n= .eql/\x=AV.c (.B u))\/(n= .neq/\x=AV.c (.B<|!u))) (h1:bG g v (a.eval p)/\∀A∈v.ak,d A) (H:a.eval r= .slice none 0 0):
  (∀A∈x.ak,d A)/\∃v,(execOp a.eval M).run P W= .ok (.value v) W/\bG g x v:=by
 let ⟨j,l,c,K,X⟩:=ahX hn h1.1
 have i:∃e,P.underlying t=ad (.slice e):=by
  unfold PZ at f;split at f
  .rename_i s Q;split at f
   .rename_i e q;have h:=(dW L Q).kind;rw[q]at h;exact⟨e,h⟩
   .cases f
  .cases f
 let ⟨e,i⟩:=i
 have k:execOp a.eval M=(do pure (.value<|<-(do eqGuard n t p r (a.eval p) (a.eval r);binOp n t (a.eval p) (a.eval r):Go.Sem a4))):=tZ
 have heq:=ahY (P:=P) (W:=W) i j l c
 rcases he with⟨rfl,rfl⟩|⟨rfl,rfl⟩
 .refine⟨λA m=>by simp[AV.ak,C.ak]at m,.bool u,?_,J⟩;rw[k,K,H];simp[eqGuard,binOp,heq,df,X]
 .refine⟨λA m=>by simp[AV.ak,C.ak]at m,.bool (!u),?_,J⟩;rw[k,K,H];simp[eqGuard,binOp,heq,df,X]
def P1(H:cd P tt=af){ops}{i}{aI:bh}{d:Y}(ho:ops[i]? =ad aI)(hg:aI.guard=none)(hd:aI.dst=ad d){n}(di:d<n)
 {st}{x}{p}(f:uj tt st aI.op=ad (x,p)) (hp:p) new:gX P n ops i (nF st aI.op) [(.s d,ad<|.v x)] new:=by
 refine rF ho hg hd di _ x new ?_
 intro F I σ g W a K N
 have R:∀y∈aI.op.operands,∀kx∈cE st y,σ kx.1=ad kx.2:=by intro y M kx T;exact N kx<|iP.2 ⟨y,by simpa using M,T⟩
 have A:∀y∈aI.op.operands,∀u,st.ev y=ad u->bG g u (a.eval y)/\∀id∈u.ak,I id:=by intro y M u U;exact⟨dr K st y u U<|R y M,rE K st y u U<|R y M⟩
 generalize bV:aI.op=op at f A R N
 unfold uj at f
 split at f
 .rename_i t l;split at f
  .rename_i ti Q;split at f
   .rename_i S E hk;split at f
    .rename_i ei mA;split at f
     .rename_i cs O4;cases f;have G:=(dW H Q).kind;rw[hk]at G;have U:P.underlying t=ad (.array S E):=G;let ⟨inf,L,V,_,z,hz,vA⟩:=(dW H Q).info;let ⟨ie,hie,P2,_⟩:=(dW H mA).info;have hzr:bc g (ti.zero.map ZV.oX) (ti.zero.map ZV.eE):=xI g ti.zero;let ⟨us,Z,X,hlen,ah2⟩:=Fo K st (uh ei.size 0 S) (λi=>ad (i*ei.size,ei.size)) (λi y M=>by have:=J0 ei.size S 0 i y M;rw[this,eF]) l.toList _ cs _ O4 hzr (λq hq kx T=>N kx<|iP.2 ⟨q.2,by simp only[Op.operands];simp only[jW];exact⟨q,hq,J⟩,T⟩) (by rw[JE];intro _ h;cases h);refine⟨ah2,.agg us.toArray,?_,us,J,X⟩;have C5:(zeroValue t).run P W= .ok z W:=by simp[zeroValue,typeInfo,L,hz]
      have ah3:z.cells=(ti.zero.map ZV.eE).toArray:=Cm;have m:execOp a.eval aI=(do pure (.value<|<-Fq t (l.map λ(i,x)=>(i,a.eval x)))):=tZ;have KG:(l.map λ(i,x)=>(i,a.eval x)).toList=l.toList.map λp=>(p.1,a.eval p.2):=ay
      have hb:(Fq t<|l.map λ(i,x)=>(i,a.eval x)).run P W= .ok (.agg us.toArray) W:=by unfold Fq;rw[c9,C5];simp only[df];rw[c9,run_underlying U];simp only[df];rw[c9,run_sizeOf hie];simp only[df,KG,ah3,P2,Z];rfl
      rw[m,c9,hb];rfl
     .cases f
    .cases f
   .cases f
  .cases f
 .rename_i t y j;have m:execOp a.eval aI=(do pure (.value<|<-KH t (a.eval y) (a.eval j))):=tZ;split at f
  .rename_i cs k jj M hj;split at f
   .rename_i ti Q;split at f
    .rename_i S E hk;split at f
     .rename_i sz ag Jz;split at f
      .rename_i u U;cases f;obtain⟨rO,lJ⟩:0<=jj/\jj<(S:O):=hp;have G:=(dW H Q).kind;rw[hk]at G;have e:P.underlying t=ad (.array S E):=G;let ⟨vs,xX,X⟩:=(A y gf _ M).1;have P3:a.eval j= .int k jj:=(A j gf _ hj).1;let ⟨hag,⟨inf,L,V⟩,_⟩:=Jv H Jz;let ⟨v,hv,Kx⟩:=Vi (P:=P) X U hag L V W;refine⟨λid eD=>(A y gf _ M).2 id<|xA U id eD,v,?_,Kx⟩;have D:(KH t (a.eval y)<|a.eval j).run P W= .ok v W:=by rw[xX,P3];unfold KH;simp only[asIntOf,c9,xG,df,run_underlying e,rO,lJ,and_self,b9,run_sizeOf L,V];exact hv
       rw[m,c9,D];rfl
      .cases f
     .cases f
    .cases f
   .cases f
  .rename_i s k jj M hj;split at f
   .rename_i ti Q;split at f
    .rename_i b hk hb;cases f;have rO:0<=jj:=hp;have G:=(dW H Q).kind;rw[hk]at G;have e:P.underlying t=ad .string:=G;have hyv:a.eval y= .string s:=(A y gf _ M).1;have P3:a.eval j= .int k jj:=(A j gf _ hj).1;refine⟨λid eD=>by simp[AV.ak,C.ak]at eD,.int .u8 b,?_,J⟩;have D:(KH t (a.eval y)<|a.eval j).run P W= .ok (.int .u8 b) W:=by
      rw[hyv,P3];unfold Ga at hb;unfold KH;simp only[asIntOf,c9,xG,df,run_underlying e,rO,b9];split at hb
      .rename_i bb Gb;cases hb;rw[Gb];rfl
      .cases hb
     rw[m,c9,D];rfl
    .cases f
   .cases f
  .cases f
 .rename_i bo t y z ty;split at f
  .rename_i v w M hz;split at f
   .rename_i u0 r;cases f;unfold P0 at r;split at r
    .split at r
     .rename_i b hsk hn;have ah7:(bo= .eql/\x=AV.c (.B b))\/(bo= .neq/\x=AV.c (.B<|!b)):=by
       split at r
       .cases r;exact .inl ⟨J,J⟩
       .cases r;exact .inr ⟨J,J⟩
       .cases r
      exact ahZ H K bV hsk hn ah7 (A y gf _ M) (A z gf _ hz).1
     .cases r
    .cases r
   .cases f
  .cases f
 .cases f
end
def WU(W:World)(H:FH)(f:dI)(d:ET)(xs:V d.den)(g:Ending)(c:World):Prop:=
 ∃v a,g= .returned v/\ik (λb=>W.heap.size<=b) ⟨a,λ_=>v⟩ c 0 (.vec f d xs)/\cK H a/\(∀b o,b<W.heap.size->a b o=H b o)/\Sub a c/\Below W.heap.size W c
structure nO(P:bZ)(f:FuncId)(args:V AV)(E:dI)(a:ET)(xs:V a.den):Prop where
 call:ob P f=af
 spec:∀H W vs,Sub H W->ff ⟨H,jv⟩ args vs->Calls P f vs.toArray W (WU W H E a xs)
def WV(P:bZ)(d:Func)(f:dI)(c:ET)(xs:V c.den):lH:=λF e a W=>(∀b,¬F.own b)->bodyPost P d (WU F.w0 F.H0 f c xs) e a W
section
variable{P:bZ}{tt:TT}{n:Y}{st:St}
def Gc(p:cd P tt=af){L}{t id}{r}{x}{xs}(M:o t st.sl=ad (.c<|.X id))(Q:o id st.mem=ad (.vec r x xs))(A:L.results= #[.tmp t]:=by rfl):e9 n .ret st (WV P L r x xs):=by
 intro F S g W a h d;let ⟨u,hu,f⟩:=CB (rs:=[.tmp t]) (v:= .c<|.X id) p h A (by simp[lI,oc,M]);have i:=h.c8 id (.vec r x xs) (by simp[St.kn,Q]);have l:u=g.γ id:=f;refine⟨h.defers.trans S.ds,u,hu,u,g.H,J,?_,h.le,λb e j=>h.fresh b e j<|d b,h.sub,⟨h.below.os,h.below.tape,h.below.output,h.below.size,λk q=>h.below.block k q<|d k⟩⟩;rcases i with⟨B,C⟩|⟨b,K,vs,B,C,s,w,y,z,m,D⟩
 .exact .inl ⟨by rw[l];exact B,C⟩
 .refine .inr ⟨b,K,vs,by rw[l];exact B,C,s,w,y,z,?_,D⟩;rcases m with m|m
  .exact m
  .exact(d b m).elim
def Gd{f}{g}{c}{args}{F}{L}{xs}(hf:P.funcs[f]? =ad g)(hb:g.body=ad c)(Q:g.ntmps=n)(i:eJ args.length n=af)(B:cY args=[])(uf:(g.name != "runtime.NumGoroutine")=af)
  (l:TR P n c ⟨dv 0 args,[],0,[]⟩ (WV P g F L xs)):nO P f args F L xs:=by
 refine⟨CE,?_⟩
 intro H W vs p d
 refine calls_of_wp hf hb ?_
 have K:=xL d
 have i:=dc i
 refine wp_mono (l {w0:=W,H0:=H,n:=n} ⟨J,be _,J,J⟩ ⟨H,jv⟩ W _ ⟨?_,J,?_,?_,?_,?_,?_,p,⟨J,J,J,a7 _,λ_ _ _=>rfl⟩,cK.refl _,λ_ _ _ _=>rfl,λ_ l=>absurd l<|CF _⟩)<|λe a D S=>S<|λ_ l=>l
 .simp[Q];omega
 .intro t v M;simp only[St.kn,cL]at M;let ⟨x,hx,he⟩:=M;cases he;let ⟨_,u,hu,X,_⟩:=nL args vs 0 d t v hx;have r:vs[t]? =ad u:=xM;have iN:t<Z vs:=(sB.1 r).1;have:(vs.toArray++sV (g.ntmps-vs.toArray.size) undef).getD t undef=u:=by rw[nI,zZ CG];simp[r]
  rw[this];exact X
 .intro A b e;simp[St.kn,o]at e
 .intro A q b G k e;simp[St.kn,o]at e
 .intro k x e A C;cases k with
  |m j=>simp[St.kn,o]at e
  |s t=>
   simp only[St.kn,cL]at e
   let ⟨y,w,he⟩:=e
   subst he
   let ⟨_,u,_,_,z⟩:=nL args vs 0 d t y w
   have:=z A C
   rw[B]at this
   cases this
 .intro A x e;simp[St.kn,o]at e
def ah8{n l}{ops}{i}{aI:bh}(ho:ops[i]? =ad aI)(hg:aI.guard=none){d:Y}(hd:aI.dst=ad d)(di:d<n){f}{args}{jZ}(bV:aI.op= .call ⟨.value<|.func f,args,jZ⟩)
 {st}{vs}{bx:dI} {ji:ET} {xs:V ji.den} (hv:jw st args.toList=ad vs) (hm:cY vs=[]) (hf:nO P f vs bx ji xs):kI P n ops i st ((st.pm l<|.vec bx ji xs).put d<|.c<|.X l) l (bF args.toList,[.s d,.m l]):=by
 refine⟨args.toList.flatMap<|cE st,[(.s d,ad<|.v<|.c<|.X l),(.m l,ad<|.b<|.vec bx ji xs)],?_,?_,Cn st d l _ _,eo st _,λk hk=>je⟩
 .intro F kE Q j σ g W a K M aW R hK;have q:=(Cw aW st _ _ hv R).iC (γ:=jv) hm;have hc:=hf.spec g.H W _ aW.sub q;unfold wpOp;simp only[ho,gH,hg,b9];refine .inl ?_;unfold m0;have U:(execOp a.eval aI).run P W= .ok (.enter f<|args.map a.eval) W:=by
   have p:=hf.call;unfold ob at p;rw[execOp,bV];cases w:P.funcs[f]? with
   |none=>rw[w]at p;simp at p
   |some fn=>
    rw[w]at p
    simp only[cr,bne_iff_ne,ne_eq]at p
    have h2:fn.body≠none:=by intro hb;rw[hb]at p;simp at p
    simp[resolve,Act.eval,F1,invoke,callFunc,w,p.1,h2]
  rw[U];simp only[m5];have z:(args.map a.eval)=(args.toList.map a.eval).toArray:=zS;rw[z];refine hc.mono ?_;rintro e W' ⟨v,H',rfl,D,hle,xP,I,A⟩;simp only[hd];have jU:d<a.tmps.size:=mj;let B:Gh:=⟨H',λS=>if S=l then v else g.γ S⟩;have N:fY j g B:=⟨hle,λS r=>by
   have:S≠l:=λe=>M<|e▸r
   simp[B,this]⟩
  refine hK B W' _<|aW.step (chg:=λ_=>False) (g':=B) ⟨N,xP,I,A.size,λk hk _=>A.block k hk,A.os,A.tape,A.output⟩ _ l M mm aW.defers ?_ (λ_ h=>h.elim) ?_ ?_ ?_ ?_
  .intro t ht;have il:d≠t:=qo;simp[gM,k7 il]
  .intro t u ht;simp only[aE]at ht;split at ht
   .rename_i e;simp only[Key.s.injEq]at e;simp only[ar,Info.v.injEq]at ht;subst e;subst ht;simp[gM,jU,bG,da,B]
   .split at ht
    .simp at ht
    .simp at ht
  .intro S b ht;simp only[aE,reduceCtorEq,bN]at ht;split at ht
   .rename_i e;simp only[Key.m.injEq]at e;simp only[ar,Info.b.injEq]at ht;subst e;subst ht;have hs0:=aW.below.size;rcases D with⟨L,e2⟩|⟨b,O,ws,L,e2,e3,e4,e5,e6,e7,e8⟩
    .refine⟨.inl ⟨by simpa[B]using L,e2⟩,.inr ⟨J,λk hk=>?_⟩⟩;have L:v= .slice none 0 0:=L;simp[B,L,cy]at hk
    .have L:v= .slice (ad ⟨b,0,none⟩) (Z xs) O:=L;refine⟨.inr ⟨b,O,ws,by simpa[B]using L,e2,e3,e4,e5,e6,.inl G,e8⟩,.inr ⟨J,λk hk=>?_⟩⟩;simp[B,L,cy]at hk;exact .inl G
   .simp at ht
  .intro k y ht;simp only[aE]at ht;split at ht
   .simp only[ar]at ht;subst ht;intro S r;simp[Info.ak,AV.ak,C.ak]at r;exact .inr r
   .split at ht
    .simp only[ar]at ht;subst ht;intro S r;simp[Info.ak,aN.ak]at r
    .simp at ht
  .intro S y ht;simp only[aE,reduceCtorEq,bN]at ht;split at ht
   .rename_i e;simp only[Key.m.injEq]at e;exact .inr e.symm
   .simp at ht
 .intro kx b8;let ⟨x,_,h⟩:=iP.1 b8;exact eG st x kx h
def ah9{n}{g}{a}{k i}{d f:Y}{args}{l}{H}{pos}{p}{x}{r}{mem}{t}{u}{A}{Q:St->Prop}{vs}{B}{F}{xs}
  (L:jw ⟨r,mem,t,u⟩ args.toList=ad vs) (M:nO P f vs B F xs) (S:RG P n g a k (i+1) x ⟨(d,.c<|.X<|1000000*k+1000*i)::r,(1000000*k+1000*i,.vec B F xs)::mem,t,u⟩ (gJ a A (bF args.toList,[.s d,.m<|1000000*k+1000*i])) Q) (W:cY vs=[]:=by rfl) (v:dk d n=af:=by rfl):
  RG P n g a k i (⟨ad d,.call ⟨.value<|.func f,args,l⟩,H,pos,p,none⟩::x) ⟨r,mem,t,u⟩ A Q:=
 mu (λC=>ah8 C J J (dc v) J L W M) (mz S)
end
section
variable{P:bZ}{tt:TT}
def ah'(l:cd P tt=af){n f}{g}{i}{c:bh}(t:g[i]? =ad c)(u:c.guard=none){d:Y}(A:c.dst=ad d)(m:d<n){a}{x}{p}(B:uj tt a c.op=ad (x,p))(F:p):kI P n g i a (a.put d x) f (bF c.op.operands.toList,[.s d]):=by refine⟨nF a c.op,[(.s d,ad<|.v x)],P1 l t u A m B F f,?_,oa a d x,eo a _,λk hk=>je⟩;intro C r;let ⟨x,_,h⟩:=iP.1 r;exact eG a x C h
def aia{n}{c}{a}{t i}{d}{op:Op}{A}{pos}{f}{u}{g}{mem}{k}{l}{v}{Q:St->Prop}(m:cd P tt=af){x}{p}(B:uj tt ⟨g,mem,k,l⟩ op=ad (x,p))(F:p)
  (H:RG P n c a t (i+1) u ⟨(d,x)::g,mem,k,l⟩ (gJ a v (bF op.operands.toList,[.s d])) Q) (r:dk d n=af:=by rfl):
  RG P n c a t i (⟨ad d,op,A,pos,f,none⟩::u) ⟨g,mem,k,l⟩ v Q:=
 mu (λC=>ah' m C J J (dc r) B F) (mz H)
end
section
variable{n:Y}{Q:lH}{sl cu:V (Y×AV)}{mem cv:V (Y×aN)}{nx:Y}{gd cJ:V (Y×Bool)}{ops:Array bh}{draw:Bool}{p:Pr}{ks dJ:V Ks}{i i' n0 cM:Y}{os dX:V bh}{d:Y}{ty:dI}{pos:String}{iS:Array Edge}{R:St->Prop}
def rx{op:Op}{x}{pm}(f:runs dK n nx draw ops.toList os i ⟨sl,mem,n0,gd⟩ .t ks=(⟨ad d,op,ty,pos,iS,none⟩::dX,i',⟨cu,cv,cM,cJ⟩,p,dJ))(g:uj dK ⟨cu,cv,cM,cJ⟩ op=ad (x,pm))(a:pm)
  (k:RG z n ops draw nx (i'+1) dX ⟨(d,x)::cu,cv,cM,cJ⟩ (gJ draw dJ (bF op.operands.toList,[.s d])) R)
  (hp:p:=by exact ll) (c:dk d n=af:=by rfl):RG z n ops draw nx i os ⟨sl,mem,n0,gd⟩ ks R:=
 lj cq f hp (aia cq g a k c)
def Ai{f}{args}{a}{vs}{k}{l}{xs}(r:runs dK n nx draw ops.toList os i ⟨sl,mem,n0,gd⟩ .t ks=(⟨ad d,.call ⟨.value<|.func f,args,a⟩,ty,pos,iS,none⟩::dX,i',⟨cu,cv,cM,cJ⟩,p,dJ))(u:jw ⟨cu,cv,cM,cJ⟩ args.toList=ad vs)(v:nO z f vs k l xs)
  (x:RG z n ops draw nx (i'+1) dX ⟨(d,.c<|.X<|1000000*nx+1000*i')::cu,(1000000*nx+1000*i',.vec k l xs)::cv,cM,cJ⟩ (gJ draw dJ (bF args.toList,[.s d,.m<|1000000*nx+1000*i'])) R)
  (hp:p:=by exact ll) (A:cY vs=[]:=by rfl) (g:dk d n=af:=by rfl):RG z n ops draw nx i os ⟨sl,mem,n0,gd⟩ ks R:=
 lj cq r hp (ah9 u v x A g)
end
def C8(i a:Y):AV->AV
 | .c (.X k)=>if k=a then .c (.X i)else .c (.X k)
 |v=>v
def C9(i a:Y):V (Y×AV)->V (Y×AV)
 |[]=>[]
 | (t,v)::r=>(t,C8 i a v)::C9 i a r
def Aj(i a:Y):V (Y×aN)->V (Y×aN)
 |[]=>[]
 | (k,c)::r=>(if k=a then i else k,c)::Aj i a r
def KI(i a:Y):AV->Bool
 | .c (.X k)=> !(k==i)
 |v=>v.ak.all λk=> !(k==i)&& !(k==a)
def C'(i a:Y):V (Y×AV)->Bool
 |[]=>af
 | (_,v)::r=>KI i a v&&C' i a r
def Da(i a:Y):V (Y×aN)->Bool
 |[]=>af
 | (k,c)::r=> !(k==i)&&(c.ak.all λk=> !(k==i)&& !(k==a))&&Da i a r
def WW(i a t:Y):∀l:V (Y×AV),o t (C9 i a l)=(o t l).map (C8 i a)
 |[]=>rfl
 | (k,v)::r=>by simp only[C9,o,WW i a t r];split<;>rfl
def WY{i c t:Y}{v:AV}:∀{l:V (Y×AV)},C' i c l=af->o t l=ad v->KI i c v=af
 |[],_,a=>by simp[o]at a
 | (k,x)::r,a,hl=>by
  simp only[C',cr]at a;simp only[o]at hl;split at hl
  .cases hl;exact a.1
  .exact WY a.2 hl
def WZ{i c t:Y}{d:aN}:∀{l:V (Y×aN)},Da i c l=af->o t l=ad d->t≠i/\∀k∈d.ak,k≠i/\k≠c
 |[],_,a=>by simp[o]at a
 | (k,x)::r,a,hl=>by
  simp only[Da,cr,mq]at a;simp only[o]at hl;split at hl
  .rename_i f;cases hl;subst f;exact⟨by simpa using a.1.1,λk g=>by simpa using a.1.2 k g⟩
  .exact WZ a.2 hl
def P4{i g:Y}(t:Y){m:aN}:∀{l:V (Y×aN)},Da i g l=af->o t (Aj i g l)=ad m->(t=i/\o g l=ad m)\/(t≠i/\t≠g/\o t l=ad m)
 |[],_,d=>by simp[Aj,o]at d
 | (k,x)::r,d,hl=>by
  simp only[Da,cr]at d;have n:k≠i:=by simpa using d.1.1
  simp only[Aj,o]at hl;by_cases a:k=g
  .rw[aq a]at hl;subst a;split at hl
   .rename_i e;cases hl;exact .inl ⟨e.symm,by simp[o]⟩
   .rename_i c;rcases P4 t d.2 hl with⟨rfl,_⟩|⟨p,f,u⟩
    .exact absurd J c
    .exact .inr ⟨p,f,by simp only[o];rw[b (λ(e:k=t)=>f e.symm)];exact u⟩
  .rw[b a]at hl;split at hl
   .rename_i e;cases hl;subst e;exact .inr ⟨n,a,by simp[o]⟩
   .rename_i c;rcases P4 t d.2 hl with⟨rfl,f⟩|⟨p,f,u⟩
    .exact .inl ⟨J,by simp only[o,b a];exact f⟩
    .exact .inr ⟨p,f,by simp only[o,b c];exact u⟩
def fa i r{sl}{mem}{nx}{gd}(hi:dk i (1000000*nx)=af)(hs:C' i r sl=af)(hm:Da i r mem=af)(OI:eJ 1 i=af:=by rfl):Wk ⟨sl,mem,nx,gd⟩ ⟨C9 i r sl,Aj i r mem,nx,gd⟩:=by
 intro F FB g W a h;have hi:i<1000000*nx:=by simpa[rP]using hi
 let D:Gh:=⟨g.H,λd=>if d=i then g.γ r else g.γ d⟩;have K:fY (λd=>d≠i) g D:=⟨cK.refl _,λd c=>b c⟩;have X:D.γ i=g.γ r:=aq J;have L:∀d,d≠i->D.γ d=g.γ d:=λd c=>b c
 have hS:∀t q,St.kn ⟨C9 i r sl,Aj i r mem,nx,gd⟩ (.s t)=ad (.v q)->∃v,o t sl=ad v/\q=C8 i r v:=by intro t q e;simp only[St.kn,WW,Option.map_map,cL]at e;let ⟨v,hv,he⟩:=e;cases he;exact⟨v,hv,J⟩
 have U:∀t l,St.kn ⟨C9 i r sl,Aj i r mem,nx,gd⟩ (.m t)=ad (.b l)->(t=i/\o r mem=ad l)\/(t≠i/\t≠r/\o t mem=ad l):=by intro t l e;simp only[St.kn,cL]at e;let ⟨v,hv,he⟩:=e;cases he;exact P4 t hm hv
 have S:∀t u l,o t mem=ad l->ik F.N g W t l->D.γ u=g.γ t->ik F.N D W u l:=by
  intro t u l A w hγ;have B:=(WZ hm A).2;cases l with
  |box E bz cs=>
   let ⟨k,vs,rest,e1,P,I,V,e5,e6⟩:=w
   exact⟨k,vs,rest,o4,P,bc.mono K (λd c=>(B d c).1) I,V,e5,by rw[hγ];exact e6⟩
  |vec E T ys=>
   rcases w with⟨e1,P⟩|⟨k,cap,vs,e1,P⟩
   .exact .inl ⟨o4,P⟩
   .exact .inr ⟨k,cap,vs,o4,P⟩
  |jG f first z1=>
   let ⟨us,ws,e1,P,I⟩:=w
   exact⟨us,ws,o4,fX.mono K (λd c=>(B d<|eh _ c).1) P,fX.mono K (λd c=>(B d<|fZ _ c).1) I⟩
  |fz E cs=>
   let ⟨k,vs,rest,e1,P,I,V,e5⟩:=w
   exact⟨k,vs,rest,o4,P,bc.mono K (λd c=>(B d c).1) I,V,e5⟩
  |mp ka va ys=>
   let ⟨k,es,e1,P,I,V⟩:=w
   exact⟨k,es,o4,P,iM.mono K (λd c=>(B d c).1) I,V⟩
  |it m n seen=>
   let ⟨k,l,e1,e0,P⟩:=w
   exact⟨k,l,o4,by rw[K.γ m (B m<|by simp[aN.ak]).1];exact e0,P⟩
 have p:∀t l,o t mem=ad l->St.kn ⟨sl,mem,nx,gd⟩ (.m t)=ad (.b l):=λt l A=>by simp[St.kn,A]
 refine⟨D,h.size,h.defers,?_,?_,?_,?_,?_,h.sub,h.below,h.le,h.fresh,λd c=>⟨(h.gW d c).1,by have:=dc OI;rw[L d G];exact(h.gW d c).2⟩⟩
 .intro t q e;obtain⟨v,hv,rfl⟩:=hS t q e;have w:=h.eC t v zT;have y:=WY hs hv;unfold C8;split
  .rename_i k;have Af:k≠i:=by simpa[KI]using y
   have Y:a.tmps.getD t undef=g.γ k:=w;split
   .rename_i e';subst e';show _=D.γ i;rw[X];exact Y
   .show _=D.γ k;rw[L k Af];exact Y
  .rename_i il;refine bG.mono K (λd c=>?_) w;unfold KI at y;split at y
   .rename_i k;exact absurd J<|il k
   .have:=(mq.1 y) d c;simp at this;exact this.1
 .intro t l e;rcases U t l e with⟨rfl,A⟩|⟨O,h2,A⟩
  .exact S r t l A (h.c8 r l<|p r l A) X
  .exact S t t l A (h.c8 t l<|p t l A)<|L t O
 .intro t u l M k e e' R Q;rcases U t l e with⟨rfl,A⟩|⟨O,h2,A⟩<;>rcases U u M e' with⟨rfl,z⟩|⟨Z,CY,z⟩
  .rfl
  .rw[X]at R;rw[L u Z]at Q;exact absurd (h.inj r u l M k (p _ _ A) (p _ _ z) R Q)<|λe=>CY e.symm
  .rw[X]at Q;rw[L t O]at R;exact absurd (h.inj t r l M k (p _ _ A) (p _ _ z) R Q) h2
  .rw[L t O]at R;rw[L u Z]at Q;exact h.inj t u l M k (p _ _ A) (p _ _ z) R Q
 .intro key x e d c;cases key with
  |s t=>
   cases x with
   |b M=>simp only[St.kn,cL]at e;let ⟨_,_,he⟩:=e;cases he
   |v q=>
    obtain⟨v,hv,rfl⟩:=hS t q e
    have Ge:=h.ak (.s t) (.v v) zT
    have c:d∈(C8 i r v).ak:=c
    unfold C8 at c
    split at c
    .split at c
     .simp only[AV.ak,C.ak,gI]at c;subst c;exact hi
     .exact Ge d c
    .exact Ge d c
  |m t=>
   cases x with
   |v q=>simp only[St.kn,cL]at e;let ⟨_,_,he⟩:=e;cases he
   |b M=>
    rcases U t M e with⟨rfl,A⟩|⟨O,h2,A⟩
    .exact h.ak (.m r) (.b M) (p r M A) d c
    .exact h.ak (.m t) (.b M) (p t M A) d c
 .intro t x e;cases x with
  |v q=>simp only[St.kn,cL]at e;let ⟨_,_,he⟩:=e;cases he
  |b M=>
   rcases U t M e with⟨rfl,A⟩|⟨O,h2,A⟩
   .exact hi
   .exact h.dO t _<|p t M A
def Wk.trans{a d c}(i:Wk a d)(k:Wk d c):Wk a c:=λF f g W ac l=>by let ⟨m,n⟩:=i F f g W ac l;exact k F f m W ac n
def W0(g:Gh)(W:World)(i:dI)(f:ET)(r:AV)(c:V f.den)(k:Ending)(d:World):Prop:=
 ∃v a,k= .returned v/\bG ⟨a.H,jv⟩ r v/\ik (λ_=>True) a d 0 (.vec i f c)/\a.γ 0=g.γ 0/\cK g.H a.H/\(∀b o,b<W.heap.size->¬cy (g.γ 0)=ad b->a.H b o=g.H b o)/\Sub a.H d/\BW (λb=>cy (g.γ 0)=ad b) W d
structure sW(P:bZ)(f:FuncId)(args:V AV)(E:dI)(a:ET)(xs:V a.den)(r:AV)(c:V a.den):Prop where
 call:ob P f=af
 iC:r.ak=[]
 spec:∀g W vs,Sub g.H W->ff g args vs->ik (λ_=>True) g W 0 (.vec E a xs)->Calls P f vs.toArray W (W0 g W E a r c)
def P5(P:bZ)(i:Func)(k:dI)(g:ET)(r:AV)(d:V g.den):lH:=λF e a W=>F.k0=1->bodyPost P i (λe f=>∃v c,e= .returned v/\bG ⟨c.H,jv⟩ r v/\ik F.N c f 0 (.vec k g d)/\c.γ 0=F.γ0 0/\cK F.H0 c.H/\(∀b o,b<F.w0.heap.size->¬F.own b->c.H b o=F.H0 b o)/\Sub c.H f/\BW F.own F.w0 f) e a W
section
variable{P:bZ}{tt:TT}{n:Y}{st:St}
def xY(f:cd P tt=af){m}{p}{t r}{v}{x}{c}(A:lI tt st p=ad t)(i:bf t r)(k:o 0 st.mem=ad (.vec v x c))(l:m.results=p.toArray:=by rfl)(B:r.ak=[]:=by rfl):e9 n .ret st (P5 P m v x r c):=by intro F C g W a h H;let ⟨u,hu,d⟩:=CB f h l A;exact⟨h.defers.trans C.ds,u,hu,u,g,J,(i.1 _ _ d).iC B (cK.refl _) jv,h.c8 0 _ (by simp[St.kn,k]),(h.gW 0 G).2,h.le,h.fresh,h.sub,h.below⟩
def W4(d:cd P tt=af){l}{m}{p r}{t}{u}{c}(v:lI tt st m=ad p)(f:bf p r)(i:o 0 st.mem=ad (.vec t u c))(k:l.results=m.toArray:=by rfl)(x:r.ak=[]:=by rfl):e9 n .normal st (P5 P l t u r c):=
 λF A g W a h=>xY d v f i k x F A g W a h
def KJ:V Y->Bool
 |[]=>af
 |id::r=>Nat.beq id 0&&KJ r
def W5:∀{l:V Y},KJ l=af->∀c∈l,c=0
 |[],_,_,a=>by cases a
 |f::r,d,c,a=>by
  simp only[KJ,cr]at d;rcases bY.1 a with rfl|a
  .exact kO d.1
  .exact W5 d.2 c a
def Gf{f}{fn}{c}{args}{L}{M}{xs p}{r}(hf:P.funcs[f]? =ad fn)(hb:fn.body=ad c)(hN:fn.ntmps=n)(hle:eJ args.length n=af)(Gg:KJ (cY args)=af)(Gi:r.ak=[])(uf:(fn.name != "runtime.NumGoroutine")=af)
  (cF:TR P n c ⟨dv 0 args,[(0,.vec L M xs)],1,[]⟩ (P5 P fn L M r p)):sW P f args L M xs r p:=by
 refine⟨CE,Gi,?_⟩
 intro g W vs q l w
 refine calls_of_wp hf hb ?_
 have G:=xL l
 have hle:=dc hle
 have d:∀i b,St.kn ⟨dv 0 args,[(0,.vec L M xs)],1,[]⟩ (.m i)=ad (.b b)->i=0/\b= .vec L M xs:=by
  intro i b e;simp only[St.kn,o,cL]at e;let ⟨x,hx,he⟩:=e;cases he;split at hx
  .rename_i R;cases hx;exact⟨R.symm,J⟩
  .cases hx
 let F:eP:={w0:=W,H0:=g.H,n:=n,own:=λb=>cy (g.γ 0)=ad b,k0:=1,γ0:=g.γ}
 refine wp_mono (cF F ⟨J,a7 _,J,J⟩ g W _ ⟨?_,J,?_,?_,?_,?_,?_,q,⟨J,J,J,a7 _,λ_ _ _=>rfl⟩,cK.refl _,λ_ _ _ _=>rfl,?_⟩) ?_
 .simp[hN,F];omega
 .intro t v I;simp only[St.kn,cL]at I;let ⟨x,hx,he⟩:=I;cases he;let ⟨_,u,hu,U,_⟩:=nL args vs 0 l t v hx;have z:vs[t]? =ad u:=xM;have iN:t<Z vs:=(sB.1 z).1;have:(vs.toArray++sV (fn.ntmps-vs.toArray.size) undef).getD t undef=u:=by rw[nI,zZ CG];simp[z]
  rw[this];exact U
 .intro i b e;obtain⟨rfl,rfl⟩:=d i b e;exact w.CW (λk V=> .inr V) J J ⟨cK.refl _,λ_ _=>rfl⟩
 .intro i D b Y k e e' _ _;rw[(d i b e).1,(d D Y e').1]
 .intro k x e i A;cases k with
  |m j=>
   cases x with
   |v y=>simp only[St.kn,cL]at e;let ⟨_,_,he⟩:=e;cases he
   |b b=>obtain⟨_,rfl⟩:=d j b e;simp[Info.ak,aN.ak]at A
  |s t=>
   simp only[St.kn,cL]at e
   let ⟨y,hy,he⟩:=e
   subst he
   let ⟨_,u,_,_,h6⟩:=nL args vs 0 l t y hy
   have:=W5 Gg i<|h6 i A
   subst this
   show 0<1000000*1
   decide
 .intro i x e;cases x with
  |v y=>simp only[St.kn,cL]at e;let ⟨_,_,he⟩:=e;cases he
  |b b=>rw[(d i b e).1];show 0<1000000*1;decide
 .intro i A;have:i=0:=by have:i<1:=A;omega
  subst this;exact⟨(T:0<1000000*1),J⟩
 .intro e a X C;have C:=C J;have B:∀e X,(∃v K,e=ahV v/\bG ⟨K.H,jv⟩ r v/\ik F.N K X 0 (.vec L M p)/\K.γ 0=F.γ0 0/\cK F.H0 K.H/\(∀b O,b<F.w0.heap.size->¬F.own b->K.H b O=F.H0 b O)/\Sub K.H X/\BW F.own F.w0 X)->W0 g W L M r p e X:=by rintro e X ⟨v,K,Q,h2,S,h4⟩;exact⟨v,K,Q,h2,S.CW (λ_ _=>trivial) J J ⟨cK.refl _,λ_ _=>rfl⟩,h4⟩
  cases e with
  |normal=>let ⟨Q,v,h2,S⟩:=C;exact⟨Q,v,h2,B _ _ S⟩
  |ret=>let ⟨Q,v,h2,S⟩:=C;exact⟨Q,v,h2,B _ _ S⟩
  |panic c=>let ⟨Q,S⟩:=C;exact⟨Q,B _ _ S⟩
  |outgrown=>exact B _ _ C
  |exit _=>exact C
  |goto _=>exact C
def Db(d:Y):C->C
 | .P _ a=> .P d a
 | .X _=> .X d
 | .Y _ n i a=> .Y d n i a
 | .L _ a l c=> .L d a l c
 | .W _ a l=> .W d a l
 |c=>c
def Gj(d:Y):AV->AV
 | .c x=> .c<|Db d x
 | .a cs=> .a<|cs.map<|Db d
 | .t g=> .t<|g.map λf=>(f.1,f.2.map<|Db d)
def P6{g:Gh}{d:Y}:∀{c:C}{v:a4},da g (Db d c) v->da ⟨g.H,λ_=>g.γ d⟩ c v
 | .any,_,a=>a
 | .B _,_,a=>a
 | .I _ _,_,a=>a
 | .V _,_,a=>a
 | .S _ _,_,a=>a
 | .P _ _,_,a=>a
 | .X _,_,a=>a
 | .Y _ _ _ _,_,a=>a
 | .E _ _ _,_,a=>a
 | .M _,_,a=>a
 | .L _ _ _ (ad _),_,a=>a
 | .L _ _ _ none,_,a=>a
 | .W _ _ _,_,a=>a
def P7{g:Gh}{c:Y}:∀{d:V C}{vs:V a4},bc g (d.map<|Db c) vs->bc ⟨g.H,λ_=>g.γ c⟩ d vs
 |[],_,a=>a
 |_::_,_,a=>by let ⟨v,r,f,i,h2⟩:=a;exact⟨v,r,f,P6 i,P7 h2⟩
def W6{g:Gh}{i:Y}:∀{k:V (Bool×V C)}{vs:V a4},fX g (k.map λl=>(l.1,l.2.map<|Db i)) vs->fX ⟨g.H,λ_=>g.γ i⟩ k vs
 |[],_,d=>d
 | (m,c)::_,_,d=>by
  let ⟨v,r,f,a,h2⟩:=d;refine⟨v,r,f,?_,W6 h2⟩;match m,c,a with
  |true,c,a=>let ⟨vs,f,d⟩:=a;exact⟨vs,f,P7 d⟩
  |false,[c],a=>exact P6 a
  |false,[],a=>exact a.elim
  |false,_::_::_,a=>exact a.elim
def aib{g}{f}{x}{v}(d:bG g (Gj f x) v):bG ⟨g.H,λ_=>g.γ f⟩ x v:=by
 cases x with
 |c y=>exact P6 d
 |a cs=>let ⟨vs,e,d⟩:=d;exact⟨vs,e,P7 d⟩
 |t i=>let ⟨vs,e,d⟩:=d;exact⟨vs,e,W6 d⟩
def W7{g:Gh}{c:Y}:∀{xs:V AV}{vs:V a4},ff g (xs.map<|Gj c) vs->ff ⟨g.H,λ_=>g.γ c⟩ xs vs
 |[],_,a=>a
 |_::_,_,a=>by let ⟨v,r,d,f,h2⟩:=a;exact⟨v,r,d,aib f,W7 h2⟩
def aic{n new}{ops}{i}{L:bh}(ho:ops[i]? =ad L)(hg:L.guard=none){d:Y}(hd:L.dst=ad d)(di:d<n){f}{args}{jZ}(bV:L.op= .call ⟨.value<|.func f,args,jZ⟩)
 {st}{vs}{c:Y} {bx:dI} {ji:ET} {xs KB:V ji.den} {r:AV} (hv:jw st args.toList=ad (vs.map<|Gj c)) (hl:o c st.mem=ad (.vec bx ji xs)) (hf:sW P f vs bx ji xs r KB):kI P n ops i st ((st.pm c<|.vec bx ji KB).put d r) new (bF args.toList++cX [c],[.s d,.m c]):=by
 refine⟨args.toList.flatMap (cE st)++fC st [c],[(.s d,ad<|.v r),(.m c,ad<|.b<|.vec bx ji KB)],?_,?_,Cn st d c _ _,?_,λk hk=>je⟩
 .intro F kE Q I σ g W a K vk aW fA hK;have N:=Cw aW st _ _ hv<|λkx B=>fA kx<|eh _ B;have M:σ (.m c)=ad (.b<|.vec bx ji xs):=fA (.m c,.b<|.vec bx ji xs) qn;have S:=aW.c8 c _ M;have O:ik (λ_=>True) ⟨g.H,λ_=>g.γ c⟩ W 0 (.vec bx ji xs):=by
   rcases S with⟨D,e2⟩|⟨b,cap,ws,D,e2,e3,e4,e5,e6,e7,e8⟩
   .exact .inl ⟨D,e2⟩
   .exact .inr ⟨b,cap,ws,D,e2,e3,e4,e5,e6,oo,e8⟩
  have hc:=hf.spec ⟨g.H,λ_=>g.γ c⟩ W _ aW.sub (W7 N) O;unfold wpOp;simp only[ho,gH,hg,b9];refine .inl ?_;unfold m0;have hex:(execOp a.eval L).run P W= .ok (.enter f<|args.map a.eval) W:=by
   have A:=hf.call;unfold ob at A;rw[execOp,bV];cases R:P.funcs[f]? with
   |none=>rw[R]at A;simp at A
   |some fn=>
    rw[R]at A
    simp only[cr,bne_iff_ne,ne_eq]at A
    have h2:fn.body≠none:=by intro hb;rw[hb]at A;simp at A
    simp[resolve,Act.eval,F1,invoke,callFunc,R,A.1,h2]
  rw[hex];simp only[m5];have aid:(args.map a.eval)=(args.toList.map a.eval).toArray:=zS;rw[aid];refine hc.mono ?_;rintro e W' ⟨v,g',rfl,P8,X,l,hle,xP,vM,q⟩;simp only[hd];have jU:d<a.tmps.size:=mj;let g2:Gh:=⟨g'.H,g.γ⟩;have CR:fY I g g2:=⟨hle,λ_ _=>rfl⟩;have l:g'.γ 0=g.γ c:=l;have aie:∀b L,b<W.heap.size->g2.H b L=g.H b L:=by
   intro b L hb;by_cases C:cy (g.γ c)=ad b
   .rcases S with⟨D,_⟩|⟨b1,cap,ws,D,e2,e3,e4,e5,e6,e7,e8⟩
    .rw[D]at C;simp[cy]at C
    .rcases X with⟨p,_⟩|⟨b2,G,W8,p,z,W9,JW,Xa,Xb,e7',U⟩
     .rw[l,D]at p;simp at p
     .have h1:b1=b:=by rw[D]at C;simpa[cy]using C
      have h2:b2=b:=by rw[<-l,p]at C;simpa[cy]using C
      subst h1;rw[e8 L];subst h2;exact U L
   .exact xP b L hb C
  refine hK g2 W' _<|aW.step (chg:=λj=>j=c) (g':=g2) ⟨CR,aie,vM,q.size,?_,q.os,q.tape,q.output⟩ _ new vk mm aW.defers ?_ ?_ ?_ ?_ ?_ ?_
  .intro k hk Z;exact q.block k hk<|Z c J
  .intro t ht;have Z:d≠t:=qo;simp[gM,k7 Z]
  .intro j hj;subst hj;exact⟨xH,_,M⟩
  .intro t u ht;simp only[aE]at ht;split at ht
   .rename_i e;simp only[Key.s.injEq]at e;simp only[ar,Info.v.injEq]at ht;subst e;subst ht;have:=P8.iC hf.iC (cK.refl _) g.γ;simpa[gM,jU,g2]using this
   .split at ht
    .simp at ht
    .simp at ht
  .intro j b ht;simp only[aE,reduceCtorEq,bN]at ht;split at ht
   .rename_i e;simp only[Key.m.injEq]at e;simp only[ar,Info.b.injEq]at ht;subst e;subst ht;refine⟨?_,.inl ⟨aW.dO _ _ M,_,M⟩⟩;rcases X with⟨p,z⟩|⟨b2,G,W8,p,z,W9,JW,Xa,Xb,e7',U⟩
    .exact .inl ⟨by show g.γ c=_;rw[<-l,p],z⟩
    .refine .inr ⟨b2,G,W8,by show g.γ c=_;rw[<-l,p],z,W9,JW,Xa,Xb,?_,U⟩;exact(S.block (k:=b2)<|by rw[<-l,p];rfl).1
   .simp at ht
  .intro k y ht;simp only[aE]at ht;split at ht
   .simp only[ar]at ht;subst ht;intro c w;simp only[Info.ak]at w;rw[hf.iC]at w;cases w
   .split at ht
    .simp only[ar]at ht;subst ht;intro c w;simp[Info.ak,aN.ak]at w
    .simp at ht
  .intro j y ht;simp only[aE,reduceCtorEq,bN]at ht;split at ht
   .rename_i e;simp only[Key.m.injEq]at e;exact .inl<|e▸aW.dO _ _ M
   .simp at ht
 .intro kx B;rcases bg.1 B with B|B
  .let ⟨x,_,h⟩:=iP.1 B;exact eG st x kx h
  .exact k9 st [c] kx B
 .intro k hk;simp only[dx,fe,bg]at hk;rcases hk with h|h
  .exact eh _<|eo st _ k h
  .exact fZ _<|jY st [c] k h
def aih{n}{c}{a}{F i}{d f:Y}{args}{l}{M}{pos}{p}{H}{t}{mem}{u}{v}{L}{Q:St->Prop}{vs}{g}{x}{A}{xs k}{r}
  (S:jw ⟨t,mem,u,v⟩ args.toList=ad (vs.map<|Gj g)) (W:o g mem=ad (.vec x A xs)) (hf:sW P f vs x A xs r k) (cF:RG P n c a F (i+1) H ⟨(d,r)::t,(g,.vec x A k)::mem,u,v⟩ (gJ a L (bF args.toList++cX [g],[.s d,.m g])) Q) (B:dk d n=af:=by rfl):
  RG P n c a F i (⟨ad d,.call ⟨.value<|.func f,args,l⟩,M,pos,p,none⟩::H) ⟨t,mem,u,v⟩ L Q:=
 mu (λC=>aic C J J (dc B) J S W hf) (mz cF)
def aii(cp:cd P tt=af){n M}{Q}{i}{S:bh}(ho:Q[i]? =ad S)(hg:S.guard=none){d:Y}(hd:S.dst=ad d)(di:d<n){t}{x A B}(bV:S.op= .slice t x (ad A) (ad B) none)
 {st}{p}{bx}{ji:ET} {xs:V ji.den} {k1 k2:mb} {a qC:O} (hx:st.ev x=ad (.c<|.X p)) (hl:o p st.mem=ad (.vec bx ji xs)) (hlo:st.ev A=ad (.c<|.I k1 a)) (hhi:st.ev B=ad (.c<|.I k2 qC)) (hT:ji.n=1) (sT:vp tt t 1=af)
  {u v:Y} (ea:a=(u:O)) (eb:qC=(v:O)) (huv:u<v) (hv:v<=Z xs):kI P n Q i st (st.put d<|.c<|.W p u<|v-u) M (bF [x,A,B]++cX [p],[.s d]):=by
 refine⟨(cE st x++(cE st A++cE st B))++fC st [p],[(.s d,ad<|.v<|.c<|.W p u<|v-u)],?_,?_,oa st d _,?_,λk hk=>je⟩
 .refine rF ho hg hd di _ _ M ?_;intro F w σ g W K f H;have y:K.eval x=g.γ p:=dr f st x _ hx<|λr b8=>H r dP;have z:K.eval A= .int k1 a:=dr f st A _ hlo<|λr b8=>H r dP;have D:K.eval B= .int k2 qC:=dr f st B _ hhi<|λr b8=>H r dP;have N:=rE f st x _ hx<|λr b8=>H r dP;have R:σ (.m p)=ad (.b<|.vec bx ji xs):=H (.m p,.b<|.vec bx ji xs) qn;let ⟨e,i',U,hi',hs⟩:=B7 cp sT;rcases f.c8 p _ R with⟨_,h0⟩|⟨bb,l,vs,q,_,_,sD,_⟩
  .subst h0;simp at hv;omega
  .refine⟨λj hj=>N j O1,.slice (ad ⟨bb,u,none⟩) (v-u) (l-u),?_,bb,l-u,by rw[q];rfl,J,G⟩;have L:execOp K.eval S=(do pure (.value<|<-Instr.sliceAt t (K.eval x) ((ad A).map K.eval) ((ad B).map K.eval) (none.map K.eval))):=tZ;have Gk:(vq af (Z xs) l (ad<|.int k1 a) (ad<|.int k2 qC) none).run P W= .ok (u,v,l) W:=by have c1:v<=l:=G;have c2:u<=v:=G;subst ea eb;simp[vq,Instr.sliceBound,asIntOf,c1,c2,Sem.run,pure]
   have il:¬l=u:=G;rw[L];simp only[ud,Option.map_none,y,z,D,q,Instr.sliceAt,c9,run_underlying U,df,Instr.slice,Gk,run_sizeOf hi',hs];simp[il,k8,Sem.run,pure]
 .intro r b8;rcases bg.1 b8 with h|h
  .rcases bg.1 h with h|h
   .exact eG _ x r h
   .rcases bg.1 h with h|h
    .exact eG _ A r h
    .exact eG _ B r h
  .exact k9 _ [p] r h
 .intro k hk;simp only[dx,fe,bg]at hk;rcases hk with(h|h|h)|h
  .exact eh _<|eo st [x,A,B] k uc
  .exact eh _<|eo st [x,A,B] k vB
  .exact eh _ (eo st [x,A,B] k (by simp only[dx,kH,fe,bg];exact .inr<|.inr<|.inl h))
  .exact fZ _<|jY st [p] k h
def Xc{g:Gh}(c:ET):∀(xs:V c.den)(vs:V a4),bc g (xs.flatMap<|av c) vs->Z vs=Z xs*c.n/\∀i(d:i<Z xs),cV g.H c xs[i] ((az (i*c.n) vs).take c.n)
 |[],vs,d=>by have d:vs=[]:=d;subst d;exact⟨ay,λi d=>by simp at d⟩
 |x::xs,vs,d=>by
  rw[kH]at d;obtain⟨a,b,rfl,l,m⟩:=EP d;have k:=zo c x a l;have f:=cV.length c _ _ k;let ⟨hl,hc⟩:=Xc c xs b m;refine⟨by simp[f,hl,fD];omega,λi p=>?_⟩;cases i with
  |zero=>
   simp only[rM,o5,vr]
   rw[<-f,List.take_left']
   .exact k
   .rfl
  |succ i=>
   simp only[Cb]
   have:=hc i (by simpa using p)
   rw[show(i+1)*c.n=Z a+i*c.n by rw[fD,f];omega,<-qu,List.drop_left']
   .exact this
   .rfl
def aim(cp:cd P tt=af){n new}{ops}{i}{aI:bh}(ho:ops[i]? =ad aI)(hg:aI.guard=none){d:Y}(hd:aI.dst=ad d)(di:d<n){x r}{t1 t2}(bV:aI.op= .call ⟨.builtin .copy,#[x,r],#[t1,t2]⟩)
 {st}{p}{bx E1:dI} {f}{xs l:V f.den} {ei:TI} (hx:st.ev x=ad (.c<|.X p)) (hl:o p st.mem=ad (.vec bx f xs)) (hy:st.ev r=ad (.c<|.S f l)) (hT:xV tt t1 t2=ad (E1,ei)) (rG:ei.size=f.n) (hle:Z l<=Z xs) (A:xs≠[]):
  kI P n ops i st ((st.pm p<|.vec bx f<|l++az (Z l) xs).put d<|.c<|.I .i64<|Z l) new (bF [x,r]++cX [p],[.s d,.m p]):=by
 refine⟨(cE st x++cE st r)++fC st [p],[(.s d,ad<|.v<|.c<|.I .i64<|Z l),(.m p,ad<|.b<|.vec bx f<|l++az (Z l) xs)],?_,?_,Cn st d p _ _,?_,λk hk=>je⟩
 .intro F kE Q known σ g W a K R aW q hK;have hT:=Kq cp hT;rw[rG]at hT;have vJ:a.eval x=g.γ p:=dr aW st x _ hx<|λw b8=>q w dP;have sQ:=dr aW st r _ hy<|λw b8=>q w dP;have B:σ (.m p)=ad (.b<|.vec bx f xs):=q (.m p,.b<|.vec bx f xs) qn;let ⟨e2,ij⟩:=hT.u2;let ⟨inf,z,U,o6,CQ,vK,sM⟩:=hT.info;let ⟨us,L,vX,qA,vY⟩:=z8 (P:=P) (st:=st) (sz:=f.n) (y:= .c<|.S f l) (m:=Z l) (cs:=l.flatMap<|av f) (ids:=[]) aW (by simp[sS]) sQ (λp H=>by cases H) ij<|mq.2<|V9 l;let ⟨D,huc⟩:=Xc f l us vX;rcases aW.c8 p _ B with⟨_,h0⟩|⟨b,cap,vs,N,hh,qy,sD,hlen,hr,hN,hz⟩
  .exact absurd h0 A
  have Kc:Z us<=Z vs:=by rw[D,qy];exact dT _ G
  have sT:=zG (P:=P) b us W vs 0 0 hh G vY;simp only[jd]at sT;have iR:(Builtin.copy_ #[t1,t2] aI.type #[a.eval x,a.eval r]).run P W= .ok (.int .i64<|Z l) (iB W b (cN vs us 0) bx):=by rw[vJ,N];have PB:Nat.min (Z l) (Z xs)=Z l:=qf hle;have hc:=L.cells;simp[Builtin.copy_,run_underlying hT.u1,sizeOf,typeInfo,U,L.len,PB,o6,hc,sT,goInt,Sem.run,pure]
  have hex:(execOp a.eval aI).run P W= .ok (.value<|.int .i64<|Z l) (iB W b (cN vs us 0) bx):=by refine CP bV<|λcs=>?_;have e:(#[x,r]:Array dQ).map a.eval= #[a.eval x,a.eval r]:=ay;rw[e];simp only[Go.builtin,c9,iR,df];rfl
  unfold wpOp;simp only[ho,gH,hg,b9];refine .inl ?_;unfold m0;rw[hex];simp only[m5,hd];have jU:d<a.tmps.size:=mj;have hb:b<W.heap.size:=(fQ.1 hh).1;have O:Z (l++az (Z l) xs)=Z xs:=bX;refine hK g _ _<|aW.step (chg:=λj=>j=p) (g':=g) ⟨⟨cK.refl _,λ_ _=>rfl⟩,λ_ _ _=>rfl,zH aW.sub hz,zJ,?_,J,J,J⟩ _ new R mm aW.defers ?_ ?_ ?_ ?_ ?_ ?_
  .intro k' hk' A;have:b≠k':=λe=>A p J (by rw[N,e];rfl)
   exact xE this
  .intro t ht;have A:d≠t:=qo;simp[gM,k7 A]
  .intro j M;subst M;exact⟨xH,_,B⟩
  .intro t u ht;simp only[aE]at ht;split at ht
   .rename_i e;simp only[Key.s.injEq]at e;simp only[ar,Info.v.injEq]at ht;subst e;subst ht;simp[gM,jU,bG,da]
   .split at ht
    .simp at ht
    .simp at ht
  .intro j bk M;simp only[aE,reduceCtorEq,bN]at M;split at M
   .rename_i e';simp only[Key.m.injEq]at e';subst e';simp only[ar,Info.b.injEq]at M;subst M;refine⟨.inr ⟨b,cap,cN vs us 0,by rw[O];exact N,xD hb,?_,by rw[O];exact sD,by rw[O];exact hlen,λj M=>?_,hN,hz⟩,.inl ⟨aW.dO _ _ B,_,B⟩⟩
    .rw[xF _ _ _ G];exact qy
    .have z9:cN vs us 0=us++az (Z us) vs:=by simp[cN]
     rw[z9];by_cases qi:j<Z l
     .rw[vu qi];have h1:=huc j qi;have h2:j*f.n+f.n<=Z us:=by rw[D,(E7:j*f.n+f.n=(j+1)*f.n)];exact dT _ G
      rw[zI G,vw bX];exact h1
     .have FN:j<Z xs:=by omega
      rw[List.getElem_append_right G,sC];have h1:=hr j FN;have e1:Z l+(j-Z l)=j:=G;have h3:Z us<=j*f.n:=by rw[D];exact dT _ G
      have e2:az (j*f.n) (us++az (Z us) vs)=az (j*f.n) vs:=by rw[List.drop_append,qp h3,sF,qu,(G:Z us+(j*f.n-Z us)=j*f.n)]
      rw[e2];simp only[e1];exact h1
   .simp at M
  .intro k r ht;simp only[aE]at ht;split at ht
   .simp only[ar]at ht;subst ht;intro p H;simp[Info.ak,AV.ak,C.ak]at H
   .split at ht
    .simp only[ar]at ht;subst ht;intro p H;simp[Info.ak,aN.ak]at H
    .simp at ht
  .intro j r ht;simp only[aE,reduceCtorEq,bN]at ht;split at ht
   .rename_i e;simp only[Key.m.injEq]at e;exact .inl<|e▸aW.dO _ _ B
   .simp at ht
 .intro w b8;rcases bg.1 b8 with h|h
  .rcases bg.1 h with h|h
   .exact eG _ x w h
   .exact eG _ r w h
  .exact k9 _ [p] w h
 .intro k hk;simp only[dx,fe,bg]at hk;rcases hk with(h|h)|h
  .exact eh _<|eo st [x,r] k uc
  .exact eh _<|eo st [x,r] k vB
  .exact fZ _<|jY st [p] k h
end
section
variable{n:Y}{sl cu:V (Y×AV)}{mem cv:V (Y×aN)}{nx:Y}{gd cJ:V (Y×Bool)}{ops:Array bh}{draw:Bool}{p:Pr}{ks dJ:V Ks}{i i' n0 cM:Y}{os dX:V bh}{d:Y}{ty:dI}{pos:String}{iS:Array Edge}{R:St->Prop}
def xZ id{f}{args}{c}{vs}{g}{k}{xs a}{r}(u:runs dK n nx draw ops.toList os i ⟨sl,mem,n0,gd⟩ .t ks=(⟨ad d,.call ⟨.value<|.func f,args,c⟩,ty,pos,iS,none⟩::dX,i',⟨cu,cv,cM,cJ⟩,p,dJ))(v:sW z f vs g k xs r a)(x:jw ⟨cu,cv,cM,cJ⟩ args.toList=ad (vs.map<|Gj id))(A:o id cv=ad (.vec g k xs))
  (B:RG z n ops draw nx (i'+1) dX ⟨(d,r)::cu,(id,.vec g k a)::cv,cM,cJ⟩ (gJ draw dJ (bF args.toList++cX [id],[.s d,.m id])) R)
  (hp:p:=by exact ll) (l:dk d n=af:=by rfl):RG z n ops draw nx i os ⟨sl,mem,n0,gd⟩ ks R:=
 lj cq u hp (aih x A v B l)
def Xd(u v:Y){t}{x g k}{f}{L}{F}{xs}{M P}{a H}(Q:runs dK n nx draw ops.toList os i ⟨sl,mem,n0,gd⟩ .t ks=(⟨ad d,.slice t x (ad g) (ad k) none,ty,pos,iS,none⟩::dX,i',⟨cu,cv,cM,cJ⟩,p,dJ))
  (S:St.ev ⟨cu,cv,cM,cJ⟩ x=ad (.c<|.X f)) (hl:o f cv=ad (.vec L F xs)) (l:St.ev ⟨cu,cv,cM,cJ⟩ g=ad (.c<|.I M a)) (m:St.ev ⟨cu,cv,cM,cJ⟩ k=ad (.c<|.I P H)) (ea:a=(u:O)) (eb:H=(v:O)) (r:u<v) (hv:v<=Z xs)
  (hk:RG z n ops draw nx (i'+1) dX ⟨(d,.c<|.W f u<|v-u)::cu,cv,cM,cJ⟩ (gJ draw dJ (bF [x,g,k]++cX [f],[.s d])) R) (hT:F.n=1:=by rfl) (A:vp dK t 1=af:=by rfl)
  (hp:p:=by exact ll) (B:dk d n=af:=by rfl):RG z n ops draw nx i os ⟨sl,mem,n0,gd⟩ ks R:=
 lj cq Q hp (mu (λC=>aii cq C J J (dc B) J S hl l m hT A ea eb r hv)<|mz hk)
def KK{x k}{A B}{a}{F L:dI}{g}{xs f}{H}(M:runs dK n nx draw ops.toList os i ⟨sl,mem,n0,gd⟩ .t ks=(⟨ad d,.call ⟨.builtin .copy,#[x,k],#[A,B]⟩,ty,pos,iS,none⟩::dX,i',⟨cu,cv,cM,cJ⟩,p,dJ))
  (P:St.ev ⟨cu,cv,cM,cJ⟩ x=ad (.c<|.X a)) (Q:o a cv=ad (.vec F g xs)) (W:St.ev ⟨cu,cv,cM,cJ⟩ k=ad (.c<|.S g f)) (hT:xV dK A B=ad (L,H)) (l:Z f<=Z xs) (r:xs≠[])
  (hk:RG z n ops draw nx (i'+1) dX ⟨(d,.c<|.I .i64<|Z f)::cu,(a,.vec F g<|f++az (Z f) xs)::cv,cM,cJ⟩ (gJ draw dJ (bF [x,k]++cX [a],[.s d,.m a])) R) (u:H.size=g.n:=by rfl)
  (hp:p:=by exact ll) (v:dk d n=af:=by rfl):RG z n ops draw nx i os ⟨sl,mem,n0,gd⟩ ks R:=
 lj cq M hp (mu (λC=>aim cq C J J (dc v) J P Q W hT u l r)<|mz hk)
end
def uk(a:V O):al z 188 [cS ao a] (cS ao<|aS a):=by
 refine aR Tryz.func188<|ug 0 J λl=>?_;simp only[ET.n,qD]at l;refine rr J<|rr J ?_;refine U<|R<|aY (α:=Y) (λk=>⟨[(0,cS ao a),(3,cI k)],[],2,[]⟩) (λk=>k<=Z a/\fq a k=fq a (Z a)) (λk=>k) (Z a) ⟨a7 _,J⟩ aH ?_;rintro k ⟨p,c⟩;have f:∀v,k=0\/E a (k-1) 0≠0->v=h k a->bf (cS ao v) (cS ao<|aS a):=by
  intro v g d;refine bf.of_eq ?_;subst d;unfold aS;rw[<-c];cases k with
  |zero=>rfl
  |succ k=>
   rcases g with g|g
   .omega
   .simp only[dE]at g;simp only[fq,g,bN]
 refine U<|rb ?_;refine rg 8 J J (λi=>?_)<|λi=>?_
 .simp at i;refine re J (y J (λd=>?_)<|λd=>?_)
  .refine aA (R<|rt J<|eH<|aG (k-1) ⟨G,?_⟩ (G:k-1<k)<|wk ⟨sR J,sE J ?_,e⟩ e)
   .rw[<-c];obtain⟨j,rfl⟩:∃j,k=j+1:=⟨k-1,G⟩;have m:E a j 0=0:=by have:ae (((j+1:Y):O)-1)=j:=G;simpa[this]using d
    simp only[dE,fq,m,b9]
   .congr 2;omega
  .refine a6 (aO<|rr J<|bI<|gZ cq J<|f _ (.inr ?_) ?_)
   .have:ae ((k:O)-1)=k-1:=by omega
    simpa[this]using d
   .simp
 .simp at i;subst i;refine re J<|y J (λd=>by simp at d)<|λ_=>?_;exact a6<|aO<|rr J<|bI<|gZ cq J<|f _ (.inl J) J
def x4(a:V O):al z 163 [cS ao a] (cS ao<|aS a):=by
 refine aR Tryz.func163<|ug 0 J λl=>?_;simp only[ET.n,qD]at l;refine rr J<|rr J ?_;refine U<|R<|aY (α:=Y) (λk=>⟨[(0,cS ao a),(3,cI k)],[],2,[]⟩) (λk=>k<=Z a/\fq a k=fq a (Z a)) (λk=>k) (Z a) ⟨a7 _,J⟩ aH ?_;rintro k ⟨p,c⟩;have f:∀v,k=0\/E a (k-1) 0≠0->v=h k a->bf (cS ao v) (cS ao<|aS a):=by
  intro v g d;refine bf.of_eq ?_;subst d;unfold aS;rw[<-c];cases k with
  |zero=>rfl
  |succ k=>
   rcases g with g|g
   .omega
   .simp only[dE]at g;simp only[fq,g,bN]
 refine U<|rb ?_;refine rg 8 J J (λi=>?_)<|λi=>?_
 .simp at i;refine re J (y J (λd=>?_)<|λd=>?_)
  .refine aA (R<|rt J<|eH<|aG (k-1) ⟨G,?_⟩ (G:k-1<k)<|wk ⟨sR J,sE J ?_,e⟩ e)
   .rw[<-c];obtain⟨j,rfl⟩:∃j,k=j+1:=⟨k-1,G⟩;have m:E a j 0=0:=by have:ae (((j+1:Y):O)-1)=j:=G;simpa[this]using d
    simp only[dE,fq,m,b9]
   .congr 2;omega
  .refine a6 (aO<|rr J<|bI<|gZ cq J<|f _ (.inr ?_) ?_)
   .have:ae ((k:O)-1)=k-1:=by omega
    simpa[this]using d
   .simp
 .simp at i;subst i;refine re J<|y J (λd=>by simp at d)<|λ_=>?_;exact a6<|aO<|rr J<|bI<|gZ cq J<|f _ (.inl J) J
def wrap_u32 n(a:0<=n)(c:n<4294967296):ax .u32 n=n:=by simp[ax,IntKind.bits,Dc];omega
def wrap_u64 n(a:0<=n)(c:n<18446744073709551616):ax .u64 n=n:=by simp[ax,IntKind.bits,Dc];omega
def Xe m(c:m<18446744073709551616):aS [((m%4294967296:Y):O),((m/4294967296:Y):O)]=q m:=by have a:bP [((m%4294967296:Y):O),((m/4294967296:Y):O)]:=xu.mpr ⟨G,xu.mpr ⟨G,Oq⟩⟩;rw[n6 a];congr 1;simp only[val];omega
def Dd(m:Y)(a:m<18446744073709551616):al z 136 [cU m] (cS ao<|q m):=by
 refine aR Tryz.func136 ?_;refine rr J<|rb ?_;have c:ax .u32 ((m:O).tmod 4294967296)=((m%4294967296:Y):O):=by rw[wrap_u32]<;>(rw[kf G];omega)
 have d:ax .u32 (ax .u64<|(m:O).tdiv 4294967296)=((m/4294967296:Y):O):=by
  have:(m:O).tdiv 4294967296=((m/4294967296:Y):O):=by rw[sX G];omega
  rw[this,wrap_u64 _ G G,wrap_u32 _ G G]
 refine rl ao [_,_] J J ?_;refine rc J J (x4 _) ?_;refine re J<|bQ J ?_;rw[c,d,Xe m a]
def aio neg(c:V O):al z 135 [cB neg,cS ao c] (.a [.B (neg&&decide (0<Z (aS c))),.S ao<|aS c]):=by
 refine aR Tryz.func135 ?_;refine rr J<|rb ?_;refine rc J J (x4 _) ?_;refine re J<|rb ?_;refine rg 9 J J (λh=>?_)<|λh=>?_
 .refine re J<|bQ J ?_;subst h;have e:decide ((Z (aS c):O)>0)=(af&&decide (0<Z (aS c))):=ay;exact a8 (λb=>AV.a [C.B b,C.S ao<|aS c]) e
 .refine re J<|bQ J ?_;subst h;rfl
def Ak ws(i:Y)(a:bP ws):al z 182 [cS ao ws,cI i] (cU<|E ws i 0):=by
 refine aR Tryz.func182 ?_;refine rr J<|U<|rr J ?_;have:=db a i;refine y J (λh=>?_)<|λh=>?_
 .simp at h;refine rr J<|bI<|cA<|dR J ?_;have e:ax .u64 (E ws (ae (i:O)) 0)=E ws i 0:=by rw[bW,wrap_u64 _ this.1 G]
  exact bL e
 .simp at h;refine aA<|rr J<|bQ J ?_;have e:E ws i 0=0:=by simp[aV,jQ h]
  rw[e];rfl
def dy(a c:O):O:=if a<c then-1 else if c<a then 1 else 0
def aip a c(m:bP a)(p:bP c)(A:can a)(B:can c):al z 144 [cS ao a,cS ao c] (cI<|dy (val a)<|val c):=by
 refine aR Tryz.func144<|ug 0 J λt=>ug 1 J λu=>?_;simp only[ET.n,qD]at t u;refine rr J<|U<|rr J ?_;refine y J (λh=>?_)<|λh=>?_
 .simp at h;refine rr J<|bI<|cA<|dR J ?_;rw[dy,aq<|Jb m p B h];rfl
 .simp at h;refine aA<|U<|rr J ?_;refine y J (λr=>?_) (λr=>?_)
  .simp at r;refine rr J<|bI<|cA<|dR J ?_;have:=Jb p m A r;rw[dy,b G,aq this];rfl
  .simp at r;have v:Z a=Z c:=G;refine aA<|U<|rr J ?_;refine R<|aY (α:=Y) (λk=>⟨[(0,cS ao a),(1,cS ao c),(5,cI<|(k:O)-1)],[],4,[]⟩) (λk=>k<=Z a/\az k a=az k c) (λk=>k) (Z a) ⟨a7 _,by simp[v]⟩ aH ?_;rintro k ⟨F,g⟩;refine U<|rr J ?_;refine y J (λx=>?_) (λx=>?_)
   .simp at x;obtain⟨j,rfl⟩:∃j,k=j+1:=⟨k-1,G⟩;have C:(((j+1:Y):O)-1)=j:=G;have f:j<Z a:=G;rw[C];refine aA<|U<|R<|U<|rr J ?_;refine y J (λi=>?_) (λi=>?_)
    .simp at i;refine rr J<|bI ?_;repeat(first|refine cA ?_|refine jJ ?_|refine kd ?_)
     refine dR J ?_;rw[dy,aq<|Jc m p j g v f i];rfl
    .have i:¬(E a j 0<E c j 0):=by simpa using i
     refine aA<|rr J ?_;refine y J (λl=>?_)<|λl=>?_
     .simp at l;refine rr J<|bI ?_;repeat(first|refine cA ?_|refine jJ ?_|refine kd ?_)
      refine dR J ?_;have:=Jc p m j g.symm v.symm G l;rw[dy,b G,aq this];rfl
     .have l:¬(E a j 0>E c j 0):=by simpa using l
      refine cZ<|aX<|rt J<|aG j ⟨G,?_⟩ rQ aH;have e:E a j 0=E c j 0:=G;have d:j<Z c:=G;rw[pn f,pn d,g];simp only[aV,cH f,cH d,qe]at e;rw[e]
   .simp at x;have:k=0:=G;subst this;refine a6<|aO<|rr J<|bI ?_;repeat(first|refine cA ?_|refine jJ ?_|refine kd ?_)
    refine dR J ?_;simp only[o5]at g;rw[g,dy,b G,b G];rfl
def sY c i a(d:O)(f:i<Z c):(c.set i d).getD a 0=if i=a then d else E c a 0:=by
 simp only[aV,P9];by_cases e:i=a
 .subst e;simp[f]
 .simp[e]
def Gn a i c(d:i<Z a)(f:E a i 0=0):val (a.set i c)=val a+c*4294967296^i:=by rw[Ou a i c d,f];simp
structure De(a b:V O)(m:Y)(x:Y×V O×O):Prop where
 i:x.1<=m
 len:x.2.1.length=m
 r:bP x.2.1
 z:∀c,x.1<=c->x.2.1.getD c 0=0
 c0:0<=x.2.2
 c1:x.2.2<=1
 v:val x.2.1+x.2.2*4294967296^x.1=val (a.take x.1)+val (b.take x.1)
def De.next{a d}{m}{x}(c:De a d m x)(f:x.1<m)(g:bP a)(k:bP d):De a d m (x.1+1,x.2.1.set x.1<|(E a x.1 0+E d x.1 0+x.2.2)%4294967296,(E a x.1 0+E d x.1 0+x.2.2)/4294967296):=by
 have p:=db g x.1;have t:=db k x.1;have u:=c.c0;have A:=c.c1;refine⟨f,by simp[c.len],xw c.r _ ⟨G,G⟩,?_,(by show 0<=_/_;omega),(by show _/_<=1;omega),?_⟩
 .intro j i;simp only at i;rw[sY _ _ _ _ (by rw[c.len];exact f),b G];exact c.z j G
 .simp only;rw[Gn _ _ _ (by rw[c.len];exact f) (c.z _<|a7 _),jF,jF,eZ];have l:=c.v;generalize (4294967296:O)^x.1=q at l⊢;generalize ht:E a x.1 0+E d x.1 0+x.2.2=s;have n:s%4294967296+s/4294967296*4294967296=s:=G;have:val x.2.1=val (h x.1 a)+val (h x.1 d)-x.2.2*q:=G;rw[this];have e:s%4294967296*q+s/4294967296*(q*4294967296)=s*q:=by rw[show s/4294967296*(q*4294967296)=s/4294967296*4294967296*q by grind,<-mX,n]
  have B:s*q=E a x.1 0*q+E d x.1 0*q+x.2.2*q:=by rw[<-ht];grind
  omega
def Xf(x a:Y):(if(a:O)>x then(a:O)else x)=((max x a:Y):O):=by
 by_cases h:(a:O)>x
 .rw[aq h];omega
 .rw[b h];omega
def aiq a d(n:bP a)(p:bP d)(la:Z a<=1099511627776)(lb:Z d<=1099511627776):al z 143 [cS ao a,cS ao d] (cS ao<|q<|ae<|val a+val d):=by
 refine aR Tryz.func143 ?_;refine rr J<|rr J<|rb ?_;refine rm ao (max (Z a) (Z d)+1) J J J J J J (lM .u32) ?_ ?_ ?_ ?_
 .rw[Xf];rfl
 .show _*4<=_;omega
 .show _*1<=_;omega
 refine re J<|rr J<|U<|rr J ?_;generalize hM:max (Z a) (Z d)+1=M;refine R<|aY (α:=Y×V O×O) (λx=>⟨[(0,cS ao a),(1,cS ao d),(5,cI M),(6,.c<|.X 2001000),(7,cU x.2.2),(8,cI x.1)],[(2001000,.vec 142 ao x.2.1)],5,[]⟩) (De a d M) (λx=>M-x.1) (0,bp M 0,0) ?_ ?_ ?_
 .refine⟨be _,ay,p' M,?_,eO _,Gq,Al⟩;intro j _;simp only[aV,ln];split<;>rfl
 .refine wk ⟨sR J,sR J,sE J ?_,sR J,sR J,sR J,e⟩ ⟨bR J,e⟩;rw[Xf,<-hM];congr 2
 .rintro⟨i,o,c⟩ f;have u:Z o=M:=f.len;have C:0<=c:=f.c0;have F:c<=1:=f.c1;have ga:=db n i;have gb:=db p i;refine U<|rr J ?_;refine y J (λg=>?_) (λg=>?_)
  .have g:i<M:=by simpa using g
   refine aA<|U<|R<|rb ?_;refine rc J J (Ak a i n)<|rc J J (Ak d i p)<|re J ?_;have H:ax .u64 (ax .u64 (E a i 0+E d i 0)+c)=E a i 0+E d i 0+c:=by rw[wrap_u64 (E a i 0+E d i 0) G G,wrap_u64 _ G G]
   rw[H];generalize ht:E a i 0+E d i 0+c=s;have K:ax .u32 (s.tmod 4294967296)=s%4294967296:=by rw[kf G,wrap_u32 _ G G]
   have L:ax .u64 (s.tdiv 4294967296)=s/4294967296:=by rw[sX G,wrap_u64 _ G G]
   have A:=f.next g n p;simp only[ht]at A;refine rr J<|rt J<|aX<|rt J<|aG (i+1,o.set i<|s%4294967296,s/4294967296) A wc<|wk ⟨sR J,sR J,sR J,sR J,sE J ?_,sE J ?_,e⟩ ⟨bE J ?_,e⟩
   .exact bL L
   .rfl
   .rw[K,bW]
  .have g:¬i<M:=by simpa using g
   have P:i=M:=by have:=f.i;simp only at this;omega
   refine a6<|aO<|c6 2001000 J J J<|rb ?_;refine rc J J (x4 _)<|re J<|bQ J ?_;have k:=f.v;simp only at k;have t:bP o:=f.r;have Q:=me t;have S:=k6 t;have l:val (h i a)=val a:=lE a i G;have m:val (h i d)=val d:=lE d i G;have W:=me n;have w:=me p;have pa:(4294967296:O)^Z a<=4294967296^(M-1):=sp G;have pb:(4294967296:O)^Z d<=4294967296^(M-1):=sp G;have D:(4294967296:O)^M=4294967296^(M-1)*4294967296:=by rw[<-eZ];congr 1;omega
   have B:=jc<|M-1;have I:c=0:=by
    rw[l,m,P,D]at k;rcases Int.lt_or_le c 1 with N|T
    .omega
    .have:c=1:=by omega
     subst this;omega
   rw[n6 t];subst I;rw[l,m]at k;simp only[mD,qE]at k;rw[k]
structure Gs(a b:V O)(m:Y)(x:Y×V O×O):Prop where
 i:x.1<=m
 len:x.2.1.length=m
 r:bP x.2.1
 z:∀c,x.1<=c->x.2.1.getD c 0=0
 c0:0<=x.2.2
 c1:x.2.2<=1
 v:val x.2.1-x.2.2*4294967296^x.1=val (a.take x.1)-val (b.take x.1)
def Gs.next{a d}{m}{x}(c:Gs a d m x)(f:x.1<m)(g:bP a)(k:bP d):Gs a d m (x.1+1,x.2.1.set x.1<|(4294967296+E a x.1 0-E d x.1 0-x.2.2)%4294967296,1-(4294967296+E a x.1 0-E d x.1 0-x.2.2)/4294967296):=by
 have p:=db g x.1;have t:=db k x.1;have u:=c.c0;have A:=c.c1;refine⟨f,by simp[c.len],xw c.r _ ⟨G,G⟩,?_,(by show 0<=1-_/_;omega),(by show 1-_/_<=1;omega),?_⟩
 .intro j i;simp only at i;rw[sY _ _ _ _ (by rw[c.len];exact f),b G];exact c.z j G
 .simp only;rw[Gn _ _ _ (by rw[c.len];exact f) (c.z _<|a7 _),jF,jF,eZ];have l:=c.v;generalize (4294967296:O)^x.1=q at l⊢;generalize ht:4294967296+E a x.1 0-E d x.1 0-x.2.2=s;have n:s%4294967296+s/4294967296*4294967296=s:=G;have:val x.2.1=val (h x.1 a)-val (h x.1 d)+x.2.2*q:=G;rw[this];have e:s%4294967296*q+s/4294967296*(q*4294967296)=s*q:=by rw[show s/4294967296*(q*4294967296)=s/4294967296*4294967296*q by grind,<-mX,n]
  have B:s*q=4294967296*q+E a x.1 0*q-E d x.1 0*q-x.2.2*q:=by rw[<-ht];grind
  have C:(1-s/4294967296)*(q*4294967296)=4294967296*q-s/4294967296*(q*4294967296):=by grind
  omega
def air a d(A:bP a)(p:bP d)(hl:Z d<=Z a)(F:val d<=val a)(la:Z a<=1099511627776):al z 145 [cS ao a,cS ao d] (cS ao<|q<|ae<|val a-val d):=by
 refine aR Tryz.func145 ?_;refine rr J<|rb ?_;refine rm ao (Z a) J J J J J J (lM .u32) J ?_ ?_ ?_
 .show _*4<=_;omega
 .show _*1<=_;omega
 refine re J<|rr J<|U<|rr J ?_;generalize hM:Z a=M;refine R<|aY (α:=Y×V O×O) (λx=>⟨[(0,cS ao a),(1,cS ao d),(5,.c<|.X 1002000),(6,cU x.2.2),(7,cI x.1)],[(1002000,.vec 142 ao x.2.1)],4,[]⟩) (Gs a d M) (λx=>M-x.1) (0,bp M 0,0) ?_ ?_ ?_
 .refine⟨be _,ay,p' M,?_,eO _,Gq,Al⟩;intro j _;simp only[aV,ln];split<;>rfl
 .exact wk (bJ J) ⟨bR J,e⟩
 .rintro⟨i,o,c⟩ f;have k:Z o=M:=f.len;have H:0<=c:=f.c0;have K:c<=1:=f.c1;have N:=db A i;have T:=db p i;refine U<|rr J ?_;refine y J (λg=>?_) (λg=>?_)
  .have g:i<M:=by simpa[hM]using g
   refine aA<|U<|R<|rb ?_;refine rc J J (Ak d i p)<|re J ?_;have L:ax .u64 (ax .u64 (ax .u64 (4294967296+ax .u64 (E a (ae (i:O)) 0))-E d i 0)-c)=4294967296+E a i 0-E d i 0-c:=by rw[bW,wrap_u64 (E a i 0) G G,wrap_u64 (4294967296+E a i 0) G G,wrap_u64 (4294967296+E a i 0-E d i 0) G G,wrap_u64 _ G G]
   simp only[L];generalize ht:4294967296+E a i 0-E d i 0-c=s;have P:ax .u32 (s.tmod 4294967296)=s%4294967296:=by rw[kf G,wrap_u32 _ G G]
   have Q:ax .u64 (1-ax .u64 (s.tdiv 4294967296))=1-s/4294967296:=by rw[sX G,wrap_u64 (s/4294967296) G G,wrap_u64 _ G G]
   have B:=f.next g A p;simp only[ht]at B;refine rr J<|rt J<|aX<|rt J<|aG (i+1,o.set i<|s%4294967296,1-s/4294967296) B wc<|wk ⟨sR J,sR J,sR J,sE J ?_,sE J ?_,e⟩ ⟨bE J ?_,e⟩
   .exact bL Q
   .rfl
   .rw[P,bW]
  .have g:¬i<M:=by simpa[hM]using g
   have S:i=M:=by have:=f.i;simp only at this;omega
   refine a6<|aO<|c6 1002000 J J J<|rb ?_;refine rc J J (x4 _)<|re J<|bQ J ?_;have l:=f.v;simp only at l;have t:bP o:=f.r;have u:=me t;have W:=k6 t;have m:val (h i a)=val a:=lE a i G;have n:val (h i d)=val d:=lE d i G;have C:=jc M;rw[k]at u;have w:c=0:=by
    rw[m,n,S]at l;rcases Int.lt_or_le c 1 with D|I
    .omega
    .have:c=1:=by omega
     subst this;omega
   rw[n6 t];subst w;rw[m,n]at l;simp only[mD,Am]at l;rw[l]
end Go.El
