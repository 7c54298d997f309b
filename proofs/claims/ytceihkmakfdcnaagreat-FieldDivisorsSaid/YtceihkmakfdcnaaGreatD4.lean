/- The engine, maps 1: make, look up, put in. Own work; no condition. -/
import Derived.MapKept
import Derived.Carry
import Derived.Test.YtceihkmakfdcnaaGreatProg
import Derived.KernelRfl
import Derived.Test.YtceihkmakfdcnaaGreatD3
import Derived.Test.YtceihkmakfdcnaaGreatD2
import Derived.Test.YtceihkmakfdcnaaGreatD1
set_option linter.all false
set_option maxHeartbeats 16000000
set_option maxRecDepth 100000
open Array renaming replicate->s6
open Bool renaming true->ae,false->ah
open Go renaming IntKind->m6,Value->aV,MapEntry->LA,Program->bW,Oper->a4,TypeId->dX,Operand->eI
open Go.Act renaming put->im
open Go.Deferred renaming ofValue->Hs
open Go.El renaming ja->S,du->j,jd->r
open Go.Ending renaming returned->aj9
open Go.Instr renaming findNow->uh,sameNow->Rh,build->GW,index->LM,sliceBounds->tP
open Go.IntKind renaming wrap->ay,signed->Eo
open Go.MapKept renaming run_checkKey->aj0,run_findKey->Ri,run_getObj_map->Rj,run_setObj_map->aj4
open Go.Op renaming buildSlice->Yv
open Go.Oper renaming wp->nK,upon->nL
open Go.Proofs.Tryz renaming prog->q
open Go.Region renaming wanted->gV
open Go.Result renaming andThen->dx
open Go.Sem renaming run_bind->dn,run_pure->yE
open Int renaming toNat->af
open List renaming length->Z,replicate->bc,drop->aA,getD->E,take->c
open Nat renaming ble->dP,blt->dy
open Option renaming some->ad
open _root_ renaming List->V,Option->ax,Int->G,Nat->Y
namespace Go.El
open Go Go.Proofs Go.RowKit
def Hw(a:m6):V C->ax (V G)
 |[]=>ad []
 | .I k n::d=>if k=a then(match Hw a d with
  |some l=>ad<|n::l
  |none=>none)else none
 |_::_=>none
def Lz(a:Bool)(d:m6)(f:V C):ax (V G):=match Hw d f with
 |some l=>(match a,l with
  |true,l=>ad l
  |false,[n]=>ad [n]
  |false,_=>none)
 |none=>none
def xm(a:Bool)(d:m6)(k:V G):V (V C×V C)->ax (ax<|V C)
 |[]=>ad none
 |x::f=>match Lz a d x.1 with
  |some g=>if g=k then ad (ad x.2)else xm a d k f
  |none=>none
def xn(d:Bool)(f:m6)(k:V G)(a vc:V C):V (V C×V C)->ax (V<|V C×V C)
 |[]=>ad [(a,vc)]
 |x::g=>match Lz d f x.1 with
  |some i=>if i=k then ad ((a,vc)::g)else(match xn d f k a vc g with
   |some l=>ad<|x::l
   |none=>none)
  |none=>none
def Yj{g:Gh}{f:m6}:∀{i:V C}{l:V G}{vs:V aV},Hw f i=ad l->aW g i vs->vs=l.map (Value.int f)
 |[],l,vs,a,d=>by simp only[Hw,ar]at a;subst a;exact d
 | .I k n::u,l,vs,a,d=>by
  simp only[Hw]at a;split at a
  .rename_i m;split at a
   .rename_i x o;cases a;subst m;obtain⟨v,p,rfl,s,t⟩:=d;cases s;simp[Yj o t]
   .cases a
  .cases a
 | .any::_,_,_,a,_=>by cases a
 | .B _::_,_,_,a,_=>by cases a
 | .V _::_,_,_,a,_=>by cases a
 | .S _ _::_,_,_,a,_=>by cases a
 | .P _ _::_,_,_,a,_=>by cases a
 | .X _::_,_,_,a,_=>by cases a
 | .Y _ _ _ _::_,_,_,a,_=>by cases a
 | .E _ _ _::_,_,_,a,_=>by cases a
 | .M _::_,_,_,a,_=>by cases a
 | .L _ _ _ _::_,_,_,a,_=>by cases a
 | .W _ _ _::_,_,_,a,_=>by cases a
def Yk{g}{d}{f}{l}{vs}(a:Lz ah d f=ad l)(i:aW g f vs):∃n,l=[n]/\vs=[.int d n]:=by
 unfold Lz at a;split at a
 .rename_i m k;have:=Yj k i;split at a
  .contradiction
  .rename_i n _;cases a;exact⟨n,J,this⟩
  .cases a
 .cases a
def iy.length{g:Gh}{f i:Bool}:∀{n:Y}{xs:V (V C×V C)}{a:V LA},iy g f i n xs a->Z a=Z xs
 |_,[],_,d=>by simp only[iy]at d;subst d;rfl
 |_,_::_,_,⟨m,o,k,_,_,_,l⟩=>by subst k;simp[l.length]
def iy.snoc{g:Gh}{d f:Bool}{a:LA}{x:V C×V C}(i:∃k,a.key=sD d k/\aW g x.1 k)(l:∃vs,a.val=sD f vs/\aW g x.2 vs):∀{n:Y}{xs:V (V C×V C)}{m:V LA},iy g d f n xs m->a.born=n+Z xs->iy g d f n (xs++[x]) (m++[a])
 |n,[],_,o,hb=>by simp only[iy]at o;subst o;exact⟨a,[],J,tW,i,l,J⟩
 |n,_::xs,_,⟨p,y,s,h2,t,u,v⟩,hb=>by subst s;exact⟨p,_,J,h2,t,u,iy.snoc i l v<|by simp only[ik]at hb;omega⟩
def Yl{g:Gh}{a:m6}{A:Bool}{m:G}:∀{n:Y}{xs:V (V C×V C)}{k:V LA},iy g ah A n xs k->∀{l:ax (V C)},xm ah a [m] xs=ad l->∀i:Y,
  match l with
  |none=>uh (.int a) (.int a m) k i=ad none
  |some vc=>∃o vs,uh (.int a) (.int a m) k i=ad (ad (i+o,sD A vs))/\aW g vc vs
 |n,[],k,B,l,d,i=>by simp only[iy]at B;subst B;simp only[xm,ar]at d;subst d;rfl
 |n,x::xs,k,⟨H,p,M,h2,⟨ks,P,t⟩,⟨vs,Q,u⟩,T⟩,l,d,i=>by
  subst M;simp only[xm]at d;split at d
  .rename_i k' U;obtain⟨s,rfl,rfl⟩:=Yk U t;have f:H.key= .int a s:=P;have K:Rh (.int a) (.int a m) (.int a s)=ad (m==s):=by simp[Rh]
   split at d
   .rename_i W;cases W;cases d;refine⟨0,vs,?_,u⟩;simp[uh,f,K,Q]
   .rename_i v;have X:(m==s)=ah:=by simp only[beq_eq_false_iff_ne,ne_eq];intro b;exact v (by rw[b])
    have L:uh (.int a) (.int a m) (H::p) i=uh (.int a) (.int a m) p (i+1):=by simp[uh,f,K,X]
    have y:=Yl T d<|i+1;cases l with
    |none=>simp only at y⊢;rw[L];exact y
    |some vc=>
     obtain⟨o,c,w,z⟩:=y
     exact⟨o+1,c,by rw[L,w,(O:i+1+o=i+(o+1))],z⟩
  .cases d
def Ym{g:Gh}{a:m6}{B:Bool}{m:G}{kc vc:V C}{ks vs:V aV}(t:aW g kc ks)(u:ks=[.int a m])(v:aW g vc vs):∀{n:Y}{xs d:V (V C×V C)}{o:V LA},iy g ah B n xs o->xn ah a [m] kc vc xs=ad d->∀i:Y,
  (uh (.int a) (.int a m) o i=ad none/\d=xs++[(kc,vc)])\/
  ∃p H l,uh (.int a) (.int a m) o i=ad (ad (i+p,H))/\o[p]? =ad l/\l.key= .int a m/\Z d=Z xs/\iy g ah B n d (o.modify p λl=>{l with key:= .int a m,val:=sD B vs})
 |n,[],d,o,T,f,i=>by simp only[iy]at T;subst T;simp only[xn,ar]at f;subst f;exact .inl ⟨J,J⟩
 |n,x::xs,d,o,⟨l,s,h1,h2,⟨dJ,U,y⟩,⟨L,h4,M⟩,W⟩,f,i=>by
  subst h1;simp only[xn]at f;split at f
  .rename_i k' hk;obtain⟨A,rfl,rfl⟩:=Yk hk y;have k:l.key= .int a A:=U;have X:Rh (.int a) (.int a m) (.int a A)=ad (m==A):=by simp[Rh]
   split at f
   .rename_i c;cases c;cases f;refine .inr ⟨0,l.val,l,by simp[uh,k,X],J,k,J,?_⟩;exact⟨_,s,J,h2,⟨ks,by rw[u];rfl,t⟩,⟨vs,J,v⟩,W⟩
   .rename_i K;have r:(m==A)=ah:=by simp only[beq_eq_false_iff_ne,ne_eq];intro z;exact K (by rw[z])
    have b:uh (.int a) (.int a m) (l::s) i=uh (.int a) (.int a m) s (i+1):=by simp[uh,k,X,r]
    split at f
    .rename_i R P;cases f;rcases Ym t u v W P (i+1)with⟨Q,rfl⟩|⟨p,H,D,Q,E,F,I,N⟩
     .exact .inl ⟨by rw[b];exact Q,J⟩
     .refine .inr ⟨p+1,H,D,by rw[b,Q,(O:i+1+p=i+(p+1))],E,F,by simp[I],?_⟩;exact⟨l,_,J,h2,⟨_,U,y⟩,⟨L,h4,M⟩,N⟩
    .cases f
  .cases f
def Yn{g:Bool}{i:m6}{k:V G}:∀{xs:V (V C×V C)}{vc:V C},xm g i k xs=ad (ad vc)->∀f∈bV vc,f∈lB xs
 |[],_,a,_,_=>by simp[xm]at a
 |x::l,vc,a,f,d=>by
  simp only[xm]at a;split at a
  .split at a
   .cases a;simp[lB,d]
   .simp[lB,Yn a f d]
  .cases a
def Yo{m:Bool}{n:m6}{k:V G}{l vc:V C}:∀{xs f:V (V C×V C)},xn m n k l vc xs=ad f->∀g∈lB f,g∈lB xs\/g∈bV l\/g∈bV vc
 |[],_,a,g,d=>by simp only[xn,ar]at a;subst a;simp only[lB,iD,bg]at d;exact .inr d
 |x::o,f,a,g,d=>by
  simp only[xn]at a;split at a
  .split at a
   .cases a;simp only[lB,bg]at d⊢;rcases d with a|a|a
    .exact .inr<|.inl a
    .exact .inr<|.inr a
    .exact .inl<|.inr<|.inr a
   .split at a
    .rename_i p i;cases a;simp only[lB,bg]at d⊢;rcases d with a|a|a
     .exact .inl<|.inl a
     .exact .inl<|.inr<|.inl a
     .rcases Yo i g a with a|a
      .exact .inl<|.inr<|.inr a
      .exact .inr a
    .cases a
  .cases a
def Ef(i f:Bool)(d:V C)(g:Bool):ax AV:=match i with
 |true=>(match f,d with
  |true,d=>ad<|.t [(ae,d),(ah,[.B g])]
  |false,[c]=>ad<|.t [(ah,[c]),(ah,[.B g])]
  |false,_=>none)
 |false=>(match f,d with
  |true,d=>ad<|.a d
  |false,[c]=>ad<|.c c
  |false,_=>none)
def Yq{g}{k f}{l}{m}{v}{vs}(a:Ef k f l m=ad v)(d:aW g l vs):bu g v (if k then .tuple #[sD f vs,.bool m]else sD f vs):=by
 unfold Ef at a;split at a
 .split at a
  .cases a;exact⟨[_,_],J,_,_,J,⟨vs,J,d⟩,_,_,J,J,J⟩
  .rename_i c;cases a;obtain⟨u,r,rfl,i,n⟩:=d;exact⟨[_,_],J,_,_,J,i,_,_,J,J,J⟩
  .cases a
 .split at a
  .cases a;exact⟨vs,J,d⟩
  .rename_i c;cases a;obtain⟨u,r,rfl,i,n⟩:=d;exact i
  .cases a
def ajW{f g}{d}{i}{v}(a:Ef f g d i=ad v):∀k∈v.ak,k∈bV d:=by
 unfold Ef at a;split at a
 .split at a
  .cases a;simp[AV.ak,eW,bV,C.ak]
  .cases a;simp[AV.ak,eW,bV,C.ak]
  .cases a
 .split at a
  .cases a;simp[AV.ak]
  .cases a;simp[AV.ak,bV]
  .cases a
def ajX{H}{W}(g:Sub H W){a}{i:Obj}(k:∀o,H a o=none):Sub H {W with heap:=W.heap.setIfInBounds a i}:=by
 intro f o v d;have l:=g f o v d;by_cases e:a=f
 .subst e;rw[k o]at d;cases d
 .simp only[World.cell?,lE e];exact l
section
variable{P:bW}{tt:TT}
def ajY{T}{i}{o:a4}{d:Y}(ho:T[i]? =ad o)(hg:o.guard=none)(hd:o.dst=ad d){n}(dz:d<n){t}(b6:o.op= .makeMap t none) ka va new:
  iA P n T i [] [(.s d,ad<|.v<|.c<|.X new),(.m new,ad<|.b<|.mp ka va [])] new:=by
 intro F kO Q B E g W a K x aR w z
 have r:(execOp a.eval o).run P W= .ok (.value<|.map<|ad W.heap.size) {W with heap:=W.heap.push<|.map #[] 0}:=by rw[execOp,b6];rfl
 unfold wpOp
 simp only[ho,gV,hg,cj]
 refine .inl ?_
 unfold nK
 rw[r]
 simp only[nL,hd]
 have U:d<a.tmps.size:=mD
 let v:aV:= .map<|ad W.heap.size
 let L:Gh:=⟨g.H,λA=>if A=new then v else g.γ A⟩
 have M:L.γ new=v:=by simp[L]
 have j:gC B g L:=⟨cL.refl _,λA l=>by
  have:A≠new:=λe=>x<|e▸l
  simp[L,this]⟩
 have p:∀o,g.H W.heap.size o=none:=by
  intro o;cases D:g.H W.heap.size o with
  |none=>rfl
  |some v=>
   have:=World.block_lt_of_cell? W _<|aR.sub _ _ _ D
   simp at this
 refine z L _ _<|aR.step (chg:=λ_=>False) (g':=L) ⟨j,λ_ _ _=>rfl,A1 aR.sub _,az,λk q _=>DB W _ k q,J,J,J⟩ _ new x mE aR.defers (λt f=>Hj f) (λ_ h=>h.elim) ?_ ?_ ?_ ?_
 .intro t u f;simp only[aE]at f;split at f
  .rename_i e;simp only[Key.s.injEq]at e;simp only[ar,Info.v.injEq]at f;subst e;subst f;show _=L.γ new;rw[M];simp[im,U,v]
  .simp at f
 .intro A b f;simp only[aE,reduceCtorEq,bN]at f;split at f
  .rename_i e;simp only[Key.m.injEq]at e;subst e;simp only[ar,Info.b.injEq]at f;subst f;refine⟨⟨W.heap.size,#[],M,az,J,.inl aR.below.size,p⟩,.inr ⟨J,λk q=> .inl ?_⟩⟩;rw[M]at q;simp only[cE,v,ar]at q;omega
  .simp at f
 .intro k y f;simp only[aE]at f;split at f
  .simp only[ar]at f;subst f;intro A l;simp[Info.ak,AV.ak,C.ak]at l;exact .inr l
  .split at f
   .simp only[ar]at f;subst f;intro A l;simp[Info.ak,aG.ak,lB]at l
   .simp at f
 .intro A y f;simp only[aE,reduceCtorEq,bN]at f;split at f
  .rename_i e;simp only[Key.m.injEq]at e;exact .inr e.symm
  .simp at f
def ajZ(p:cq P tt=ae){T}{i}{o:a4}{d:Y}(ho:T[i]? =ad o)(hg:o.guard=none)(hd:o.dst=ad d){n}(dz:d<n){t}{x y}{ok}(U:o.op= .lookup t x y ok)
 {H}{L}{qx:m6} {m:G} (hx:H.ev x=ad (.c<|.X L)) (hy:H.ev y=ad (.c<|.I qx m)) {kt vt:Y} {ti ki M:TI} (oR:S t tt=ad ti) (hk:ti.kind= .map kt vt) (Bn:S kt tt=ad ki) (lK:ki.kind= .int qx) (Bo:S vt tt=ad M)
  {xs:V (V C×V C)} (hl:S L H.mem=ad (.mp ah M.agg xs)) {bf:ax (V C)} (hr:xm ah qx [m] xs=ad bf) {v:AV} (hv:Ef ok M.agg (bf.getD<|M.zero.map ZV.qi) bf.isSome=ad v) (new:Y):
  iA P n T i ([x,y].flatMap (cJ H)++fL H [L]) [(.s d,ad<|.v v)] new:=by
 refine sO ho hg hd dz _ v new ?_
 intro F O σ g W a f K
 have l:=dA f H x _ hx<|λkx b7=>K kx ef
 have u:=dA f H y _ hy<|λkx b7=>K kx ef
 have e:σ (.m L)=ad (.b<|.mp ah M.agg xs):=K (.m L,.b<|.mp ah M.agg xs) qm
 let ⟨b,es,R,hh,Z,hN,hz⟩:=f.cX L _ e
 have l:a.eval x=g.γ L:=l
 have u:a.eval y= .int qx m:=u
 rw[R]at l
 have hu:=(eS p oR).kind
 rw[hk]at hu
 have A:=(eS p Bn).kind
 rw[lK]at A
 have N:=Yl Z hr 0
 refine⟨?_,?_⟩
 .intro j hj;have h1:=ajW hv j hj;cases bf with
  |none=>
   rw[Option.getD_none,KL]at h1
   cases h1
  |some vc=>exact f.ak _ _ e j<|Yn hr j h1
 .have h:=aj0 (w:=W) A (k:= .int qx m) J es.isEmpty 9999;cases bf with
  |none=>
   have Q:=Ri (P:=P) (w:=W) A N
   let ⟨inf,B,_,_,z,D,wZ⟩:=(eS p Bo).info
   have E:=(eS p Bo).zag _ _ B D
   have Eg:(zeroValue vt).run P W= .ok z W:=by simp[zeroValue,typeInfo,B,D]
   refine⟨_,?_,Yq hv<|yG g M.zero⟩
   rw[execOp,U]
   simp only[Instr.lookup,l,u,dn,run_underlying hu,dx,Rj hh,yE,h,Q,Eg,E]
   rfl
  |some vc=>
   obtain⟨j,ws,N,P8⟩:=N
   have Q:=Ri (P:=P) (w:=W) A N
   refine⟨_,?_,Yq hv P8⟩
   rw[execOp,U]
   simp only[Instr.lookup,l,u,dn,run_underlying hu,dx,Rj hh,yE,h,Q]
   rfl
def aj1(di:cq P tt=ae){ops}{i}{o}(ho:ops[i]? =ad o)(hg:o.guard=none)(hd:o.dst=none){n}{t:dX}{x y M}(b6:o.op= .mapUpdate t x y M)
 {H}{L}{p}{m:G} {u:AV} {va:Bool} {vc:V C} (hx:H.ev x=ad (.c<|.X L)) (hy:H.ev y=ad (.c<|.I p m)) (Eg:H.ev M=ad u) (DX:rB u=ad (va,vc)) {kt vt:Y} {ti ki:TI} (oR:S t tt=ad ti) (hk:ti.kind= .map kt vt) (Bn:S kt tt=ad ki) (lK:ki.kind= .int p)
  {xs T:V (V C×V C)} (hl:S L H.mem=ad (.mp ah va xs)) (hp:xn ah p [m] [.I p m] vc xs=ad T) (new:Y):
  iA P n ops i ([x,y,M].flatMap (cJ H)++fL H [L]) [(.m L,ad<|.b<|.mp ah va T)] new:=by
 intro F kO Q known σ g W a K wU f v hK
 have A:=dA f H x _ hx<|λkx b7=>v kx ef
 have U:=dA f H y _ hy<|λkx b7=>v kx ef
 have hrz:=dA f H M _ Eg<|λkx b7=>v kx ef
 have hmz:=sM f H M _ Eg<|λkx b7=>v kx ef
 have s:σ (.m L)=ad (.b<|.mp ah va xs):=v (.m L,.b<|.mp ah va xs) qm
 let ⟨b,es,N,hh,O,hN,hz⟩:=f.cX L _ s
 have A:a.eval x=g.γ L:=A
 have U:a.eval y= .int p m:=U
 rw[N]at A
 have hu:=(eS di oR).kind
 rw[hk]at hu
 have r:=(eS di Bn).kind
 rw[lK]at r
 have Eh:∃vs,a.eval M=sD va vs/\aW g vc vs:=by
  have:=QD DX hrz;cases va with
  |true=>exact this
  |false=>
   match vc,this with
   |[c],h=>exact⟨[a.eval M],J,_,_,J,h,J⟩
   |[],h=>exact h.elim
   |_::_::_,h=>exact h.elim
 let ⟨vs,Yr,LB⟩:=Eh
 have LC:=aj0 (w:=W) r (k:= .int p m) J ah 9999
 have hlen:=O.length
 have Ei:∃D,(execOp a.eval o).run P W= .ok .skip {W with heap:=W.heap.setIfInBounds b<|.map D<|Z T}/\iy g ah va 0 T D.toList:=by
  rcases Ym (g:=g) (kc:=[.I p m]) (ks:=[.int p m]) ⟨_,_,J,J,J⟩ J LB O hp 0 with⟨hf,rfl⟩|⟨j,w,e,hf,he,qy,hle,B⟩
  .have R:=Ri (P:=P) (w:=W) r hf;refine⟨es.push ⟨.int p m,a.eval M,Z xs⟩,?_,?_⟩
   .rw[execOp,b6];simp only[Instr.mapUpdate,A,U,dn,run_underlying hu,dx,Rj hh,yE,LC,R,aj4 _ hh,iq,s3]
   .rw[Array.toList_push];exact iy.snoc (x:=([.I p m],vc)) ⟨[.int p m],J,_,_,J,J,J⟩ ⟨vs,Yr,LB⟩ O az
  .have R:=Ri (P:=P) (w:=W) r hf;have Hp:es[j]? =ad e:=by simpa using he
   have rJ:=MapKept.run_keyThatStays (P:=P) (w:=W) (d:= .int p) (k:= .int p m) J;refine⟨es.modify j λe=>{e with key:= .int p m,val:=a.eval M},?_,by rw[Array.toList_modify,Yr];exact B⟩;rw[execOp,b6];simp only[Instr.mapUpdate,A,U,dn,run_underlying hu,dx,Rj hh,yE,LC,R,ff,Hp,vG,rh,qy,rJ,aj4 _ hh,hle]
 let ⟨D,hex,B⟩:=Ei
 unfold wpOp
 simp only[ho,gV,hg,cj]
 refine .inl ?_
 unfold nK
 rw[hex]
 simp only[nL,hd,im]
 have hb:b<W.heap.size:=(gL.1 hh).1
 refine hK g _ a<|f.step (chg:=λj=>j=L) (g':=g) ⟨⟨cL.refl _,λ_ _=>rfl⟩,λ_ _ _=>rfl,ajX f.sub hz,az,?_,J,J,J⟩ _ new wU J f.defers (λ_ _=>rfl) ?_ ?_ ?_ ?_ ?_
 .intro k hk gM;have:b≠k:=λe=>gM L J (by rw[N,e];rfl)
  exact lE this
 .intro j E;subst E;exact⟨yF,_,s⟩
 .intro t' v' ht;simp[aE]at ht
 .intro j bk E;simp only[aE]at E;split at E
  .rename_i e;simp only[Key.m.injEq]at e;subst e;simp only[ar,Info.b.injEq]at E;subst E;exact⟨⟨b,D,N,by simp[hb],B,hN,hz⟩,.inl ⟨f.ew _ _ s,_,s⟩⟩
  .simp at E
 .intro k z' l;simp only[aE]at l;split at l
  .simp only[ar]at l;subst l;intro j E;rcases Yo hp j E with h|h|h
   .exact .inl<|f.ak _ _ s j h
   .simp[bV,C.ak]at h
   .refine .inl<|hmz j ?_;rw[<-Lq DX];exact h
  .simp at l
 .intro j z' l;simp only[aE]at l;split at l
  .rename_i e;simp only[Key.m.injEq]at e;subst e;exact .inl<|f.ew _ _ s
  .simp at l
end
def Ys(i:TT)(k d:Y)(x y:eI)(l n:Y)(a:St):ax (St×Y×Ks):=match yY i l n with
 |some (_,g)=>(match a.ev x,a.ev y with
  |some (.c<|.L id off len _),ad o=>(match ud a g.size o,S id a.mem with
   |some (m,cs,is),ad (.box p t f)=>if cs.all kq=ae/\m<=len/\off+m*g.size<=Z f then
     ad (⟨iE d (.c<|.I .i64 m) a.sl,iE id (.box p t<|c9 f cs off) a.mem,a.nx,a.gd⟩,k+1,(bK [x,y]++cV (id::is),[.s d,.m id]))else none
   |_,_=>none)
  |_,_=>none)
 |none=>none
def Yt(i:TT)(k d:Y)(t:Y)(x y:eI)(f:St):ax (St×Y×Ks):=match f.ev x,f.ev y,S t i with
 |some (.c<|.I _ a),ad (.c<|.I _ b),ad l=>(match l.kind with
  | .sl E=>(match S E i with
   |some g=>if a=b/\0<=a/\0<g.size/\dP (af a*g.bytes) 16777216=ae/\dP (af a) 16777216=ae then
     ad (⟨iE d (.c<|.L k 0 (af a)<|ad<|af a) f.sl,(k,.box E 0<|DU (g.zero.map ZV.qi)<|af a)::f.mem,f.nx,f.gd⟩,k+1,(bK (Op.makeSlice t x y).operands.toList,[.s d,.m k]))else none
   |none=>none)
  |_=>none)
 |_,_,_=>none
def Yu(l:TT)(k d:Y)(t a:Y)(f:Array (Y×eI))(g:St):ax (St×Y×Ks):=match vL l g t a f.toList with
 |some (E,i,cs)=>if 0<i.size/\dP (a*i.size) 16777216=ae then
   ad (⟨iE d (.c<|.L k 0 a<|ad a) g.sl,(k,.box E 0 cs)::g.mem,g.nx,g.gd⟩,k+1,(bK (Yv t a f).operands.toList,[.s d,.m k]))else none
 |none=>none
def Yw(k d:Y)(f:FuncId)(first a:Array eI)(g:St):ax (St×Y×Ks):=match sZ g first.toList,sZ g a.toList with
 |some fs,ad cs=>ad (⟨iE d (.c<|.X k) g.sl,(k,.hY f fs cs)::g.mem,g.nx,g.gd⟩,k+1,(bK<|first.toList++a.toList,[.s d,.m k]))
 |_,_=>none
def Hx(a:TT)(t:Y):ax (TI×TI):=match S t a with
 |some d=>(match d.kind with
  | .map f g=>(match S f a,S g a with
   |some i,ad k=>ad (i,k)
   |_,_=>none)
  |_=>none)
 |none=>none
def Yx{d}{t}{l m}(a:Hx d t=ad (l,m)):∃f g i,S t d=ad f/\f.kind= .map g i/\S g d=ad l/\S i d=ad m:=by
 unfold Hx at a;split at a
 .rename_i f k;split at a
  .rename_i g i n;split at a
   .rename_i o p s u;cases a;exact⟨f,g,i,k,n,s,u⟩
   .cases a
  .cases a
 .cases a
def Yy(f:TT)(k d:Y)(t:Y)(a:St):ax (St×Y×Ks):=match Hx f t with
 |some (g,i)=>ad (⟨iE d (.c<|.X k) a.sl,(k,.mp g.agg i.agg [])::a.mem,a.nx,a.gd⟩,k+1,([],[.s d,.m k]))
 |none=>none
def LD(a:m6):TK->Bool
 | .int d=>decide<|a=d
 |_=>ah
def Yz(g:TT)(k d:Y)(t:Y)(x y:eI)(i:Bool)(a:St):ax (St×Y×Ks):=match Hx g t,a.ev x,a.ev y with
 |some (l,f),ad (.c<|.X id),ad (.c<|.I q m)=>(match LD q l.kind,S id a.mem with
  |true,ad (.mp ah n xs)=>(match n==f.agg,xm ah q [m] xs with
   |true,ad r=>(match Ef i f.agg (r.getD<|f.zero.map ZV.qi) r.isSome with
    |some v=>ad (⟨iE d v a.sl,a.mem,a.nx,a.gd⟩,k+1,(bK [x,y]++cV [id],[.s d]))
    |none=>none)
   |_,_=>none)
  |_,_=>none)
 |_,_,_=>none
def YA(l:TT)(k:Y)(t:Y)(x y g:eI)(a:St):ax (St×Y×Ks):=match Hx l t,a.ev x,a.ev y,a.ev g with
 |some (n,_),ad (.c<|.X id),ad (.c<|.I q m),ad u=>(match LD q n.kind,S id a.mem,rB u with
  |true,ad (.mp ah i xs),ad (d,vc)=>(match i==d,xn ah q [m] [.I q m] vc xs with
   |true,ad f=>ad (⟨a.sl,iE id (.mp ah i f) a.mem,a.nx,a.gd⟩,k+1,(bK [x,y,g]++cV [id],[.m id]))
   |_,_=>none)
  |_,_,_=>none)
 |_,_,_,_=>none
def Rk(m:Hu)(g:TT)(n k:Y)(o:ax Y)(op:Op)(a:St):ax (St×Y×Ks):=match o with
 |none=>(match op with
  | .mapUpdate t x y z=>YA g k t x y z a
  |op=>(match DJ g n k none op a with
   |some (i,p,u)=>if p.b=ae then ad (nR ah ae i,k+1,u)else none
   |none=>none))
 |some d=>if d<n then(match op with
  | .call ⟨.value A,args,_⟩=>Re m k d A args.toList a
  | .call ⟨.builtin .append,⟨[x,y]⟩,⟨[t1,t2]⟩⟩=>Ra g n k d x y t1 t2 a
  | .call ⟨.builtin .copy,⟨[x,y]⟩,⟨[t1,t2]⟩⟩=>Ys g k d x y t1 t2 a
  | .makeSlice t x y=>Yt g k d t x y a
  | .buildSlice t len parts=>Yu g k d t len parts a
  | .makeFunc (.func f) first l=>Yw k d f first l a
  | .makeMap t none=>Yy g k d t a
  | .lookup t x y ok=>Yz g k d t x y ok a
  |op=>(match D1 g a op with
   |some (v,p)=>if p.b=ae then ad (⟨iE d v a.sl,a.mem,a.nx,a.gd⟩,k+1,(bK op.operands.toList,[.s d]))else none
   |none=>(match DJ g n k (ad d) op a with
    |some (i,p,u)=>if p.b=ae then ad (nR ae ah i,k+1,u)else none
    |none=>none)))else none
def YB{a}{k:TK}(d:LD a k=ae):k= .int a:=by cases k<;>simp[LD]at d;subst d;rfl
def aj5(a:St) id d:St.kn ⟨a.sl,iE id d a.mem,a.nx,a.gd⟩=bs a.kn [(.m id,ad<|.b d)]:=by
 funext k;cases k with
 |s t=>simp[St.kn,bs,aE]
 |m j=>
  simp only[St.kn,bs,aE,ov,Key.m.injEq]
  by_cases e:id=j<;>simp[e]
def YC{a}{xs:V eI}{d}:∀kx∈xs.flatMap (cJ a)++fL a d,a.kn kx.1=ad kx.2:=by
 intro kx f;rcases bg.1 f with h|h
 .obtain⟨x,_,h⟩:=jb.1 h;exact eD a x kx h
 .exact kr a d kx h
def YD{f}{xs}{d}:∀a∈dI (xs.flatMap (cJ f)++fL f d),a∈bK xs++cV d:=by intro a g;simp only[dI,fM,bg]at g⊢;exact g.elim (λh=> .inl<|eO f _ a h)<|λh=> .inr<|ku f d a h
section
variable{P:bW}{tt:TT}
def Bp{d}{op:Op}:∀a∈dI (oo d op),a∈bK op.operands.toList:=λa f=>eO d _ a f
def aj6(l:cq P tt=ae){qA:Hu}(o4:∀f vs fm k bf Hy k',qA f vs fm k=ad (bf,Hy,k')->CX P f vs fm k bf Hy k'){n k}{o}(H:o.guard=none){A st'}{k'}{ks}
  (g:Rk qA tt n k o.dst o.op A=ad (st',k',ks)):gH P n #[o] 0 A st' k k' ks:=by
 have K:(#[o]:Array a4)[0]? =ad o:=rfl
 unfold Rk at g
 split at g
 .rename_i C;split at g
  .rename_i t x y z i;unfold YA at g;split at g
   .rename_i I J F q m u W M Q hz;split at g
    .rename_i N xs O vc R X hu;split at g
     .rename_i LF B T;simp only[ar,bM]at g;obtain⟨rfl,rfl,rfl⟩:=g;obtain⟨ti,kt,vt,S,V,Z,_⟩:=Yx W;have B:N=O:=by simpa using B
      subst B;have lK:I.kind= .int q:=YB R;exact .mG (aj1 l K H C i M Q hz hu S V Z lK X T k) (YC (xs:=[x,y,z])) (aj5 A F _) (YD (xs:=[x,y,z])) mH
     .simp at g
    .simp at g
   .simp at g
  .split at g
   .rename_i st1 p LG c;split at g
    .rename_i T;simp only[ar,bM]at g;obtain⟨rfl,rfl,rfl⟩:=g;exact .Q9 (KM l K H (by rw[C];exact c)<|Pr.Gy T)<|Yh _ _ _
    .simp at g
   .simp at g
 .rename_i d C;split at g
  .rename_i s;split at g
   .rename_i cf args kV i;exact ajV o4 s H C i g
   .rename_i x y t1 t2 i;exact ajS l s H C i g
   .rename_i x y t1 t2 i;unfold Ys at g;split at g
    .rename_i E ei hI;have W:=Lw l hI;split at g
     .rename_i F off len cap vy M Q;split at g
      .rename_i m cs is Eb bz oZ c X;split at g
       .rename_i L;simp only[ar,bM]at g;obtain⟨rfl,rfl,rfl⟩:=g;exact .mG (ajN K H C s i W M Q X c L.1 L.2.1 L.2.2 k) Ed (Yf A d F _ _) Bm mH
       .simp at g
      .simp at g
     .simp at g
    .simp at g
   .rename_i t x y i;unfold Yt at g;split at g
    .rename_i k1 a k2 b ti M Q oR;split at g
     .rename_i E e;split at g
      .rename_i ei ni;split at g
       .rename_i L;obtain⟨rfl,h0,j,xo,nQ⟩:=L;simp only[ar,bM]at g;obtain⟨rfl,rfl,rfl⟩:=g;have ea:((af a:Y):G)=a:=vN h0;have:=ajo (P:=P) l K H C s i (st:=A) (m:=af a) (by rw[ea];exact M) (by rw[ea];exact Q) oR e ni j (c8 xo) (c8 nQ) k;rw[i]at this;exact .mG this (rv A _) (Ea A d k _ _) Bp mH
       .simp at g
      .simp at g
     .simp at g
    .simp at g
   .rename_i t len parts i;unfold Yu at g;split at g
    .rename_i E ei cs w;split at g
     .rename_i L;simp only[ar,bM]at g;obtain⟨rfl,rfl,rfl⟩:=g;have:=ajq (P:=P) l K H C s i L.1 (c8 L.2) w k;rw[i]at this;exact .mG this (rv A _) (Ea A d k _ _) Bp mH
     .simp at g
    .simp at g
   .rename_i f first Bf i
    unfold Yw at g;split at g
    .rename_i fs cs hf L;simp only[ar,bM]at g;obtain⟨rfl,rfl,rfl⟩:=g;refine .mG (X6 K H C s i hf L k) ?_ (Ea A d k _ _) (λD e=>eO A _ D e) mH;intro kx U;let ⟨x,_,g⟩:=jb.1 U;exact eD A x kx g
    .simp at g
   .rename_i t i;unfold Yy at g;split at g
    .rename_i I J W;simp only[ar,bM]at g;obtain⟨rfl,rfl,rfl⟩:=g;exact .mG (ajY K H C s i _ _ k) (λkx U=>by cases U) (Ea A d k _ _) (λD e=>by cases e) mH
    .simp at g
   .rename_i t x y ok i;unfold Yz at g;split at g
    .rename_i I J F q m W M Q;split at g
     .rename_i N xs R X;split at g
      .rename_i bf B hr;split at g
       .rename_i v w;simp only[ar,bM]at g;obtain⟨rfl,rfl,rfl⟩:=g;obtain⟨ti,kt,vt,S,V,Z,e4⟩:=Yx W;have B:N=J.agg:=by simpa using B
        subst B;exact .mG (ajZ l K H C s i M Q S V Z (YB R) e4 X hr w k) (YC (xs:=[x,y])) (Q' A d _) (YD (xs:=[x,y])) mH
       .simp at g
      .simp at g
     .simp at g
    .simp at g
   .split at g
    .rename_i v p w;split at g
     .rename_i T;simp only[ar,bM]at g;obtain⟨rfl,rfl,rfl⟩:=g;exact .mG (XW l K H C s w (Pr.Gy T) k) (rv A _) (Q' A d _) Bp mH
     .simp at g
    .split at g
     .rename_i st1 p LG c;split at g
      .rename_i T;simp only[ar,bM]at g;obtain⟨rfl,rfl,rfl⟩:=g;exact .Q9 (KM l K H (by rw[C];exact c)<|Pr.Gy T)<|Yh _ _ _
      .simp at g
     .simp at g
  .simp at g
end
section
variable{P:bW}{tt:TT}
structure Steps(P:bW)(n:Y)(g:Array a4)(i:Y)(os:V a4)(st l:St)(k o:Y)(ds:V (V (Key×Info)×V (Key×ax Info)))(f:V Y):Prop where
 len:ds.length=os.length
 YE:f.length=os.length+1
 first:f[0]? =ad k
 last:f[os.length]? =ad o
 mono:∀d a b,f[d]? =ad a->f[d+1]? =ad b->a<=b
 step:∀d(h:d<ds.length) a b,f[d]? =ad a->f[d+1]? =ad b->vo P n g (i+d) ds[d].1 ds[d].2 (λm=>a<=m/\m<b)
 reads:∀d(h:d<ds.length),∀kx∈ds[d].1,oV st.kn (ds.take d) kx.1=ad kx.2
 fin:l.kn=oV st.kn ds
end
inductive Ex where
 |dv
 |gP (a:Y)
 |ret
def Ex.Hz:Ex->Exit
 | .dv=> .normal
 | .gP id=> .exit id
 | .ret=> .ret
def YF(o:a4):Bool:=match o.op with
 | .defer _=>ah
 |_=>ae
def ow:Code->Bool
 | .region _ ops _=>ops.toList.all YF
 | .seq x y=>ow x&&ow y
 | .cond _ x y=>ow x&&ow y
 | .block _ x=>ow x
 | .loop x=>ow x
 | .skip=>ae
 | .exit _=>ae
 | .ret=>ae
 |_=>ah
def nn(a:ax Y)(d:Code):Prop:=a=none\/ow d=ae
def nn.seq{d}{x y}(a:nn d (.seq x y)):nn d x/\nn d y:=by
 rcases a with a|a
 .exact⟨.inl a,.inl a⟩
 .simp only[ow,cz]at a;exact⟨.inr a.1,.inr a.2⟩
def nn.cond{d}{f}{x y}(a:nn d (.cond f x y)):nn d x/\nn d y:=by
 rcases a with a|a
 .exact⟨.inl a,.inl a⟩
 .simp only[ow,cz]at a;exact⟨.inr a.1,.inr a.2⟩
def nn.block{a}{d}{x}(f:nn a (.block d x)):nn a x:=f
def nn.loop{a}{x}(d:nn a (.loop x)):nn a x:=d
def nn.region{g}{l}{f}{d}(a:nn g (.region l f d)):AM g f:=by
 intro i o k;rcases a with a|a
 .exact .inl a
 .refine .inr<|λc m=>?_;simp only[ow,jS]at a;have:=a o (by rw[<-DL]at k;exact LH k);simp[YF,m]at this
def HA(P:bW)(n:Y)(f:Code)(l:St)(k:Y)(m:Ex)(d:St)(i:Y):Prop:=
 k<=i/\∀F:fj,F.n=n->nn F.rd f->∀g W a,bx F (·<k) l.kn g W a->f.wpIn (gn F.rd) 0 P (λo p s=>o=m.Hz/\∃t,bx F (·<i) d.kn t s p) a W
section
variable{P:bW}{tt:TT}
def YG{n}{d:Y->Prop}{k}{g}{W}{a}(l:bx n d k.kn g W a){x}{v}(hv:oX tt k x=ad v):∀f∈v.ak,d f:=by
 cases x with
 |tmp t=>
  simp only[oX]at hv
  exact λf i=>l.ak (.s t) (.v v) A7 f i
 |cell b t=>
  simp only[oX]at hv
  split at hv
  .rename_i f o C;split at hv
   .rename_i E p u sz H y A;intro j B;exact l.ak (.m f) (.b<|.box E p u) (by simp[St.kn,y]) j<|yy hv j B
   .simp at hv
  .simp at hv
def YH{o:fj}{f:Y->Prop}{m:St}{g:Gh}{W:World}{a:Act}(n:bx o f m.kn g W a):∀(p:V ResultVar)(l:V (Bool×V C)),oY tt m p=ad l->∀k∈eW l,f k
 |[],l,i,k,d=>by simp only[oY,ar]at i;subst i;cases d
 |x::xs,l,i,k,d=>by
  simp only[oY]at i;split at i
  .rename_i v t;split at i
   .rename_i s u y A;simp only[ar]at i;subst i;simp only[eW,bg]at d;rcases d with d|d
    .rw[Lq y]at d;exact YG (tt:=tt) n t k d
    .exact YH n xs u A k d
   .simp at i
  .simp at i
def YI{p}{d:Y->Prop}{l}{g}{W}{a}(m:bx p d l.kn g W a){n}{v}(f:lJ tt l n=ad v):∀o∈v.ak,d o:=by
 match n,f with
 |[],f=>
  simp only[lJ,oY,vG,ar]at f
  subst f
  intro o i;cases i
 |[x],f=>exact YG (tt:=tt) m f
 |x::y::r,f=>
  simp only[lJ,cG]at f
  obtain⟨s,k,rfl⟩:=f
  exact YH (tt:=tt) m _ s k
def aj8(di:cq P tt=ae){f}{d}{dQ}(hf:P.funcs[f]? =ad d)(hb:d.body=ad dQ)(tY:(d.name != "runtime.NumGoroutine")=ae){vs}(hle:Z vs<=d.ntmps){fm}{k}{dN:Ex}{L}{k'}(o:dN= .dv\/dN= .ret)
  (M:HA P d.ntmps dQ ⟨dG 0 vs,fm,0,[]⟩ k dN L k') {bf}(hr:lJ tt L d.results.toList=ad bf) {U}(H:∀p Q,S p U=ad Q->S p L.mem=ad Q):CX P f vs fm k bf U k':=by
 refine⟨Bb,M.1,?_⟩
 intro F g W K hn mc A
 refine calls_of_wp hf hb ?_
 have G:(K.toArray++s6 (d.ntmps-K.toArray.size) undef).size=d.ntmps:=b8
 have h0:bx {F with n:=d.ntmps,rd:=none} (·<k) (St.kn ⟨dG 0 vs,fm,0,[]⟩) g W {tmps:=K.toArray++s6 (d.ntmps-K.toArray.size) undef,defers:=[]}:=by
  refine⟨G,A.defers,?_,A.cX,A.inj,A.ak,A.ew,A.sub,A.below,A.le,A.fresh,A.gK⟩;intro t v I;have N:=A.eY t v I;have hZ:t<Z K:=by
   have X:S t (dG 0 vs)=ad v:=by simp only[St.kn,cG]at I;let ⟨x,a,o⟩:=I;cases o;exact a
   have q:∀(l:V AV)(i:Y)(v:AV),S t (dG i l)=ad v->t<i+Z l:=by
    intro l;induction l with
    |nil=>intro i v M;simp[dG,S]at M
    |cons x l ih=>
     intro i v M
     simp only[dG,S]at M
     split at M
     .simp;omega
     .have:=ih (i+1) v M;simp;omega
   have:=q vs 0 v X;omega
  have:(K.toArray++s6 (d.ntmps-K.toArray.size) undef).getD t undef=K.toArray.getD t undef:=by rw[nM,nM,yK Bc]
  show bu g v ((K.toArray++s6 (d.ntmps-K.toArray.size) undef).getD t undef);rw[this];exact N
 refine(WS (r:=none) J).1<|wpIn_mono (M.2 {F with n:=d.ntmps,rd:=none} rfl (.inl J) g W _ h0) ?_
 rintro e' a' W' ⟨rfl,g',B⟩
 let ⟨u,hu,w⟩:=Ba (P:=P) (tt:=tt) (st:=L) di B (fn:=d) (rs:=d.results.toList) az hr
 have T:∃v O,aj9 u= .returned v/\bx {F with n:=1} (·<k') (St.kn ⟨[(0,bf)],U,0,[]⟩) O W' (nl [v]):=by
  have R:=YI (tt:=tt) B hr;refine⟨u,g',J,⟨J,A.defers,?_,?_,?_,?_,?_,B.sub,B.below,B.le,B.fresh,B.gK⟩⟩
  .intro t x a;simp only[St.kn,S,cG]at a;let ⟨y,C,o⟩:=a;cases o;split at C
   .rename_i dN;subst dN;cases C;simpa[nl]using w
   .cases C
  .intro p Q hb;simp only[St.kn,cG]at hb;let ⟨x,a,o⟩:=hb;cases o;exact B.cX p Q (by simp[St.kn,H p Q a])
  .intro p z Q b' kk hb D N h2;simp only[St.kn,cG]at hb D;let ⟨x,a,o⟩:=hb;let ⟨x',Ho,Hp⟩:=D;cases o;cases Hp;exact B.inj p z Q b' kk (by simp[St.kn,H p Q a]) (by simp[St.kn,H z b' Ho]) N h2
  .intro q x a p E;cases q with
   |s t=>
    simp only[St.kn,S,cG]at a
    let ⟨y,C,o⟩:=a
    subst o
    split at C
    .cases C;exact R p E
    .cases C
   |m j=>
    simp only[St.kn,cG]at a
    let ⟨y,C,o⟩:=a
    subst o
    exact B.ak (.m j) (.b y) (by simp[St.kn,H j y C]) p E
  .intro p x a;simp only[St.kn,cG]at a;let ⟨y,C,o⟩:=a;exact B.ew p (.b y) (by simp[St.kn,H p y C])
 rcases o with rfl|rfl
 .exact⟨B.defers.trans A.defers.symm,u,hu,T⟩
 .exact⟨B.defers.trans A.defers.symm,u,hu,T⟩
end
def dY:TT:=[
 (2,⟨.int .i64,1,8,[],[.i .i64]⟩),
 (3,⟨.int .i64,1,8,[],[.i .i64]⟩),
 (4,⟨.bool,1,1,[],[.b]⟩),
 (5,⟨.int .u8,1,1,[],[.i .u8]⟩),
 (6,⟨.int .u8,1,1,[],[.i .u8]⟩),
 (9,⟨.str,1,16,[],[.t]⟩),
 (10,⟨.str,1,16,[],[.t]⟩),
 (11,⟨.str,1,16,[],[.t]⟩),
 (12,⟨.int .u64,1,8,[],[.i .u64]⟩),
 (21,⟨.int .i32,1,4,[],[.i .i32]⟩),
 (22,⟨.sl 53,1,24,[],[.s]⟩),
 (23,⟨.st,2,32,[(0,1,ah),(1,1,ah)],[.i .u8,.s]⟩),
 (24,⟨.st,2,32,[(0,1,ah),(1,1,ah)],[.i .u8,.s]⟩),
 (25,⟨.sl 57,1,24,[],[.s]⟩),
 (26,⟨.sl 57,1,24,[],[.s]⟩),
 (28,⟨.sl 44,1,24,[],[.s]⟩),
 (29,⟨.sl 44,1,24,[],[.s]⟩),
 (33,⟨.int .i64,1,8,[],[.i .i64]⟩),
 (40,⟨.sl 142,1,24,[],[.s]⟩),
 (41,⟨.st,2,32,[(0,1,ah),(1,1,ah)],[.b,.s]⟩),
 (42,⟨.st,2,32,[(0,1,ah),(1,1,ah)],[.b,.s]⟩),
 (43,⟨.st,4,64,[(0,2,ae),(2,2,ae)],[.b,.s,.b,.s]⟩),
 (44,⟨.st,4,64,[(0,2,ae),(2,2,ae)],[.b,.s,.b,.s]⟩),
 (51,⟨.arr 3 26,3,72,[],[.s,.s,.s]⟩),
 (53,⟨.int .i8,1,1,[],[.i .i8]⟩),
 (55,⟨.arr 2 26,2,48,[],[.s,.s]⟩),
 (56,⟨.st,3,3,[(0,1,ah),(1,1,ah),(2,1,ah)],[.i .i8,.i .i8,.i .u8]⟩),
 (57,⟨.st,3,3,[(0,1,ah),(1,1,ah),(2,1,ah)],[.i .i8,.i .i8,.i .u8]⟩),
 (68,⟨.sl 26,1,24,[],[.s]⟩),
 (69,⟨.arr 3 68,3,72,[],[.s,.s,.s]⟩),
 (70,⟨.sl 29,1,24,[],[.s]⟩),
 (77,⟨.sl 129,1,24,[],[.s]⟩),
 (78,⟨.st,1,24,[(0,1,ah)],[.s]⟩),
 (79,⟨.st,1,24,[(0,1,ah)],[.s]⟩),
 (80,⟨.arr 2 79,2,48,[],[.s,.s]⟩),
 (81,⟨.arr 8 29,8,192,[],[.s,.s,.s,.s,.s,.s,.s,.s]⟩),
 (82,⟨.sl 132,1,24,[],[.s]⟩),
 (83,⟨.sl 132,1,24,[],[.s]⟩),
 (90,⟨.sl 22,1,24,[],[.s]⟩),
 (101,⟨.map 3 104,1,8,[],[.m]⟩),
 (103,⟨.st,2,48,[(0,1,ah),(1,1,ah)],[.s,.s]⟩),
 (104,⟨.st,2,48,[(0,1,ah),(1,1,ah)],[.s,.s]⟩),
 (110,⟨.sl 114,1,24,[],[.s]⟩),
 (113,⟨.st,2,32,[(0,1,ah),(1,1,ah)],[.s,.i .i64]⟩),
 (114,⟨.st,2,32,[(0,1,ah),(1,1,ah)],[.s,.i .i64]⟩),
 (126,⟨.arr 8 3,8,64,[],[.i .i64,.i .i64,.i .i64,.i .i64,.i .i64,.i .i64,.i .i64,.i .i64]⟩),
 (127,⟨.arr 8 3,8,64,[],[.i .i64,.i .i64,.i .i64,.i .i64,.i .i64,.i .i64,.i .i64,.i .i64]⟩),
 (129,⟨.arr 5 53,5,5,[],[.i .i8,.i .i8,.i .i8,.i .i8,.i .i8]⟩),
 (131,⟨.st,12,128,[(0,4,ae),(4,8,ae)],[.b,.s,.b,.s,.i .i64,.i .i64,.i .i64,.i .i64,.i .i64,.i .i64,.i .i64,.i .i64]⟩),
 (132,⟨.st,12,128,[(0,4,ae),(4,8,ae)],[.b,.s,.b,.s,.i .i64,.i .i64,.i .i64,.i .i64,.i .i64,.i .i64,.i .i64,.i .i64]⟩),
 (142,⟨.int .u32,1,4,[],[.i .u32]⟩),
 (150,⟨.int .u64,1,8,[],[.i .u64]⟩),
 (161,⟨.sl 42,1,24,[],[.s]⟩),
 (167,⟨.sl 150,1,24,[],[.s]⟩),
 (173,⟨.sl 178,1,24,[],[.s]⟩),
 (176,⟨.sl 167,1,24,[],[.s]⟩),
 (177,⟨.st,2,32,[(0,1,ah),(1,1,ah)],[.s,.i .i64]⟩),
 (178,⟨.st,2,32,[(0,1,ah),(1,1,ah)],[.s,.i .i64]⟩),
 (181,⟨.sl 161,1,24,[],[.s]⟩),
 (192,⟨.int .u64,1,8,[],[.i .u64]⟩),
 (200,⟨.st,2,48,[(0,1,ah),(1,1,ah)],[.s,.s]⟩),
 (201,⟨.st,2,48,[(0,1,ah),(1,1,ah)],[.s,.s]⟩),
 (207,⟨.st,2,48,[(0,1,ah),(1,1,ah)],[.s,.s]⟩),
 (208,⟨.st,2,48,[(0,1,ah),(1,1,ah)],[.s,.s]⟩),
 (220,⟨.st,2,32,[(0,1,ah),(1,1,ah)],[.s,.i .u64]⟩),
 (221,⟨.st,2,32,[(0,1,ah),(1,1,ah)],[.s,.i .u64]⟩),
 (226,⟨.sl 221,1,24,[],[.s]⟩),
 (230,⟨.int .i64,1,8,[],[.i .i64]⟩),
 (264,⟨.int .u64,1,8,[],[.i .u64]⟩),
 (274,⟨.arr 4 150,4,32,[],[.i .u64,.i .u64,.i .u64,.i .u64]⟩),
 (277,⟨.sl 3,1,24,[],[.s]⟩),
 (286,⟨.st,4,40,[(0,1,ah),(1,1,ah),(2,1,ah),(3,1,ah)],[.p,.p,.p,.t]⟩),
 (287,⟨.st,4,40,[(0,1,ah),(1,1,ah),(2,1,ah),(3,1,ah)],[.p,.p,.p,.t]⟩),
 (288,⟨.arr 0 16,0,0,[],[]⟩),
 (291,⟨.int .u8,1,1,[],[.i .u8]⟩),
 (292,⟨.int .u8,1,1,[],[.i .u8]⟩),
 (295,⟨.int .i32,1,4,[],[.i .i32]⟩),
 (296,⟨.int .i32,1,4,[],[.i .i32]⟩),
 (297,⟨.st,11,48,[(0,1,ah),(1,1,ah),(2,1,ah),(3,1,ah),(4,1,ah),(5,1,ah),(6,1,ah),(7,1,ah),(8,1,ah),(9,1,ah),(10,1,ah)],[.i .u64,.i .u64,.i .u32,.i .u8,.i .u8,.i .u8,.i .u8,.f,.p,.i .i32,.i .i32]⟩)]
def cv:cq q dY=ae:=dZ
def MX:Tryz.prog.follows .mixedOrders=ae:=dZ
abbrev aq:ET:= .int .u32
abbrev aw:ET:= .int .u64
abbrev np:ET:= .int .i64
abbrev I8:ET:= .int .i8
abbrev cI(n:G):AV:= .c<|.I .i64 n
abbrev cU(n:G):AV:= .c<|.I .u64 n
abbrev cW(n:G):AV:= .c<|.I .u32 n
abbrev cB(a:Bool):AV:= .c<|.B a
abbrev cS(T:ET)(xs:V T.den):AV:= .c<|.S T xs
abbrev aZ(d:G):AV:= .a<|av .z d
abbrev aQ(d:Rat):AV:= .a<|av .q d
section
variable{n:Y}{Q:ma}{sl cr:V (Y×AV)}{mem cp:V (Y×aG)}{nx:Y}{gd cD:V (Y×Bool)}{id:Y}{ops:Array a4}{draw:Bool}{y:Code}{p:Pr}{ks dJ:V Ks}{i i' n0 cF:Y}
def rr(d:runs dY n nx draw ops.toList ops.toList 0 ⟨sl,mem,nx,gd⟩ .t []=([],i',⟨cr,cp,n0,cD⟩,p,ks))(f:TR q n y ⟨cr,cp,nx+1,[]⟩ Q)
  (hp:p:=by exact mb) (g:(!draw||sS ops.toList ks)=ae:=by kernel_rfl) (a:dP ops.size 1000=ae:=by rfl):TR q n (.seq (.region id ops draw) y) ⟨sl,mem,nx,gd⟩ Q:=
 j (KT MX<|kU cv d hp<|QB f g a)
def rt(d:runs dY n nx draw ops.toList ops.toList 0 ⟨sl,mem,nx,gd⟩ .t []=([],i',⟨cr,cp,n0,cD⟩,p,ks))(f:fA n .normal ⟨cr,cp,nx+1,[]⟩ Q)
  (hp:p:=by exact mb) (g:(!draw||sS ops.toList ks)=ae:=by kernel_rfl) (a:dP ops.size 1000=ae:=by rfl):TR q n (.region id ops draw) ⟨sl,mem,nx,gd⟩ Q:=
 KT MX (kU cv d hp<|QB f g a)
def rb(d:RG q n ops draw nx 0 ops.toList ⟨sl,mem,nx,gd⟩ [] (λa=>TR q n y a Q)):TR q n (.seq (.region id ops draw) y) ⟨sl,mem,nx,gd⟩ Q:=j<|KT MX d
def cu(d:RG q n ops draw nx 0 ops.toList ⟨sl,mem,nx,gd⟩ [] (λa=>fA n .normal a Q)):TR q n (.region id ops draw) ⟨sl,mem,nx,gd⟩ Q:=KT MX d
variable{R:St->Prop}{os:V a4}{d f:Y}{args:Array eI}{kV:Array dX}{ty:dX}{pos:String}{iM:Array Edge}{dS:V a4}{vs:V AV}{r:AV}
def rc(g:runs dY n nx draw ops.toList os i ⟨sl,mem,n0,gd⟩ .t ks=(⟨ad d,.call ⟨.value<|.func f,args,kV⟩,ty,pos,iM,none⟩::dS,i',⟨cr,cp,cF,cD⟩,p,dJ))(k:jU ⟨cr,cp,cF,cD⟩ args.toList=ad vs)(l:jd q f vs r)
  (m:RG q n ops draw nx (i'+1) dS ⟨(d,r)::cr,cp,cF,cD⟩ (ia draw dJ (bK args.toList,[.s d])) R)
  (hp:p:=by exact mb) (o:cR vs=[]:=by rfl) (a:dy d n=ae:=by rfl):RG q n ops draw nx i os ⟨sl,mem,n0,gd⟩ ks R:=
 kU cv g hp (aiZ k l m o a)
def jV{m g}{a o}(u:runs dY n nx draw ops.toList os i ⟨sl,mem,n0,gd⟩ .t ks=(⟨ad d,.call ⟨.value<|.func f,args,kV⟩,ty,pos,iM,ad (m,a)⟩::dS,i',⟨cr,cp,cF,cD⟩,p,dJ))(v:oT ops.toList m=ad g)(x:S g cr=ad (.c<|.B o))(k:o=a)(A:jU ⟨cr,cp,cF,cD⟩ args.toList=ad vs)(H:jd q f vs r)
  (L:RG q n ops draw nx (i'+1) dS ⟨(d,r)::cr,cp,cF,cD⟩ (ia draw dJ (.s g::bK args.toList,[.s d])) R)
  (hp:p:=by exact mb) (M:cR vs=[]:=by rfl) (l:dy d n=ae:=by rfl):RG q n ops draw nx i os ⟨sl,mem,n0,gd⟩ ks R:=
 kU cv u hp (ai0 v x k A H L M l)
def re(g:runs dY n nx draw ops.toList os i ⟨sl,mem,n0,gd⟩ .t ks=([],i',⟨cr,cp,cF,cD⟩,p,dJ))(k:R ⟨cr,cp,nx+1,[]⟩)
  (hp:p:=by exact mb) (ho:(!draw||sS ops.toList dJ)=ae:=by kernel_rfl) (a:dP ops.size 1000=ae:=by rfl):RG q n ops draw nx i os ⟨sl,mem,n0,gd⟩ ks R:=
 kU cv g hp (QB k ho a)
def rg t{a}{o}(g:runs dY n nx draw ops.toList os i ⟨sl,mem,n0,gd⟩ .t ks=(o::dS,i',⟨cr,cp,cF,cD⟩,p,dJ))(k:S t cr=ad (.c<|.B a))
  (l:a=ae->RG q n ops draw nx i' (o::dS) ⟨(t,.c<|.B ae)::cr,cp,cF,(t,ae)::cD⟩ dJ R) (m:a=ah->RG q n ops draw nx i' (o::dS) ⟨(t,.c<|.B ah)::cr,cp,cF,(t,ah)::cD⟩ dJ R)
  (s:p:=by exact mb):RG q n ops draw nx i os ⟨sl,mem,n0,gd⟩ ks R:=
 kU cv g s (ai1 t k l m)
def rm{t:Y}{x}T(m:Y)(P:runs dY n nx draw ops.toList os i ⟨sl,mem,n0,gd⟩ .t ks=(⟨ad d,.makeSlice t x x,ty,pos,iM,none⟩::dS,i',⟨cr,cp,cF,cD⟩,p,dJ)){k}{v}(U:St.ev ⟨cr,cp,cF,cD⟩ x=ad (.c<|.I k v)){l}{M a}(o:S t dY=ad M)(u:M.kind= .sl l)(A:S l dY=ad a)(B:a.size=T.n)
  (W:∀g:Gh,aW g (av T T.dE) (a.zero.map ZV.e9)) (hv:v=(m:G)) (hb:m*a.bytes<=281474976710656) (H:m*T.n<=140737488355328)
  (hk:RG q n ops draw nx (i'+1) dS ⟨(d,.c<|.X<|1000000*nx+1000*i')::cr,(1000000*nx+1000*i',.vec l T<|bc m T.dE)::cp,cF,cD⟩ (ia draw dJ (bK [x,x],[.s d,.m<|1000000*nx+1000*i'])) R)
  (hp:p:=by exact mb) (L:dy d n=ae:=by rfl):RG q n ops draw nx i os ⟨sl,mem,n0,gd⟩ ks R:=
 kU cv P hp (ai8 cv T m U hv o u A B W hb H hk L)
end
def mI k g:aW g (av (.int k)<|ET.dE<|.int k) ([ZV.i k].map ZV.e9):=⟨_,_,J,J,J⟩
def YJ H:C' H [] (.slice none 0 0):=⟨none,0,J,aO _,az,.inl J⟩
def LI g:aW g (av .z (0:G)) ([ZV.b,ZV.s].map ZV.e9):=J' ⟨_,J,YJ _⟩
def Rl g:aW g (av (.pr .z .z) ((0,0):G×G)) ([ZV.b,ZV.s,ZV.b,ZV.s].map ZV.e9):=aW.append (LI g)<|LI g
def YK T g:aW g (av (.sl T) []) ([ZV.s].map ZV.e9):=⟨_,_,J,⟨none,0,J,aO _,az,.inl J⟩,J⟩
section
variable{n:Y}{Q:ma}{sl cr:V (Y×AV)}{mem cp:V (Y×aG)}{nx:Y}{gd cD:V (Y×Bool)}{id:Y}{ops:Array a4}{draw:Bool}{y y0:Code}{p q:Pr}{ks dJ LG:V Ks}{i i' n0 cF:Y}{st:St}{fn:Func}{rs:V ResultVar}{r r':AV}
variable{R:St->Prop}{os:V a4}{d f:Y}{args:Array eI}{kV:Array dX}{ty:dX}{pos:String}{iM:Array Edge}{dS:V a4}{vs:V AV}
def atR(g:lJ dY st rs=ad r)(a:fn.results=rs.toArray:=by rfl)(k:r.ak=[]:=by rfl):fA n .ret st (A8 Tryz.prog fn r):=ig cv g (bl.refl _) a k
def eJ(g:lJ dY st rs=ad r')(k:r'=r)(a:fn.results=rs.toArray:=by rfl)(l:r.ak=[]:=by rfl):fA n .ret st (A8 Tryz.prog fn r):=ig cv g (bl.of_eq k) a l
def cw(g:lJ dY st rs=ad r)(a:fn.results=rs.toArray:=by rfl)(k:r.ak=[]:=by rfl):TR Tryz.prog n .ret st (A8 Tryz.prog fn r):=bL<|atR g a k
def bU(g:lJ dY st rs=ad r')(k:r'=r)(a:fn.results=rs.toArray:=by rfl)(l:r.ak=[]:=by rfl):TR Tryz.prog n .ret st (A8 Tryz.prog fn r):=bL<|eJ g k a l
def a7{a:Type}{g:a->St}{k:a->Prop}{l:a->Y}{x}(m:fA n .normal st Q):TR Tryz.prog n (.exit id) st (tX Tryz.prog y0<|GZ g k l x<|w6 id Q):=nN<|rA<|ou<|nO m
def aD(a:TR Tryz.prog n y st Q):TR Tryz.prog n .skip st (tX Tryz.prog y Q):=cP<|aL a
def bw(a:TR Tryz.prog n y st Q):fA n .normal st (w6 id<|tX Tryz.prog y Q):=eE<|aL a
def bt(o:runs dY n nx draw ops.toList ops.toList 0 ⟨sl,mem,nx,gd⟩ .t []=(⟨ad d,.call ⟨.value<|.func f,args,kV⟩,ty,pos,iM,none⟩::dS,i',⟨cr,cp,cF,cD⟩,p,dJ))(u:jU ⟨cr,cp,cF,cD⟩ args.toList=ad vs)(v:jd Tryz.prog f vs r)
 {g}{a}{x A}{k}(B:runs dY n nx draw ops.toList dS (i'+1) ⟨(d,r)::cr,cp,cF,cD⟩ .t (ia draw dJ (bK args.toList,[.s d]))=([],A,⟨g,a,x,k⟩,q,LG)) (H:TR Tryz.prog n y ⟨g,a,nx+1,[]⟩ Q)
  (L:p:=by exact mb) (M:cR vs=[]:=by rfl) (l:dy d n=ae:=by rfl) (P:q:=by first|trivial| (simp only[Pr.an,Pr.h,num,gT,true_and,and_true];first|done|omega)| (simp[Pr.an,Pr.h,num,gT];done)| (simp[Pr.an,Pr.h,num,gT];omega)) (T:(!draw||sS ops.toList LG)=ae:=by kernel_rfl) (m:dP ops.size 1000=ae:=by rfl):TR Tryz.prog n (.seq (.region id ops draw) y) ⟨sl,mem,nx,gd⟩ Q:=
 rb (rc o u v (re B H P T m) L M l)
def aI{f}{fn}{m}{args}{r}(o:Tryz.prog.funcs[f]? =ad fn)(s:TR Tryz.prog n m ⟨dG 0 args,[],0,[]⟩ (A8 Tryz.prog fn r))(t:fn.body=ad m:=by exact HB)(u:fn.ntmps=n:=by exact HB)(g:dP args.length n=ae:=by exact HB)(k:cR args=[]:=by exact HB)(l:r.ak=[]:=by exact HB)(a:(fn.name != "runtime.NumGoroutine")=ae:=by decide):jd Tryz.prog f args r:=DS o t u g k l a s
end
section
variable{n:Y}{sl cr:V (Y×AV)}{mem cp:V (Y×aG)}{nx:Y}{gd cD:V (Y×Bool)}{ops:Array a4}{draw:Bool}{p:Pr}{ks dJ:V Ks}{i i' n0 cF:Y}
variable{R:St->Prop}{os:V a4}{d:Y}{ty:dX}{pos:String}{iM:Array Edge}{dS:V a4}
def rl T xs{t f:Y}{a}(o:runs dY n nx draw ops.toList os i ⟨sl,mem,n0,gd⟩ .t ks=(⟨ad d,.buildSlice t f a,ty,pos,iM,none⟩::dS,i',⟨cr,cp,cF,cD⟩,p,dJ)){u}{m}(v:vL dY ⟨cr,cp,cF,cD⟩ t f a.toList=ad (u,m,xs.flatMap<|av T))
  (x:RG q n ops draw nx (i'+1) dS ⟨(d,.c<|.S T xs)::cr,cp,cF,cD⟩ (ia draw dJ (bK (Yv t f a).operands.toList,[.s d])) R) (y:m.size=T.n:=by rfl) (k:Z xs=f:=by rfl) (g:dP (f*T.n) 16777216=ae:=by rfl)
  (hp:p:=by exact mb) (l:dy d n=ae:=by rfl):RG q n ops draw nx i os ⟨sl,mem,n0,gd⟩ ks R:=
 kU cv o hp (aja cv T xs v y k g x l)
def fT T xs{t f:Y}{a}(v:runs dY n nx draw ops.toList os i ⟨sl,mem,n0,gd⟩ .t ks=(⟨ad d,.buildSlice t f a,ty,pos,iM,none⟩::dS,i',⟨cr,cp,cF,cD⟩,p,dJ)){o}{u}(x:vL dY ⟨cr,cp,cF,cD⟩ t f a.toList=ad (o,u,xs.flatMap<|av T))
  (y:RG q n ops draw nx (i'+1) dS ⟨(d,.c<|.X<|1000000*nx+1000*i')::cr,(1000000*nx+1000*i',.vec o T xs)::cp,cF,cD⟩ (ia draw dJ (bK (Yv t f a).operands.toList,[.s d,.m<|1000000*nx+1000*i'])) R) (A:u.size=T.n:=by rfl) (k:Z xs=f:=by rfl) (g:dP (f*T.n) 16777216=ae:=by rfl)
  (B:p:=by exact mb) (l:dy d n=ae:=by rfl):RG q n ops draw nx i os ⟨sl,mem,n0,gd⟩ ks R:=
 kU cv v B (ajb cv T xs x A k g y l)
def vO{t:Y}{x y}{a m k}{o}{T}{xs}{s}{u}(f:T.den)(v:runs dY n nx draw ops.toList os i ⟨sl,mem,n0,gd⟩ .t ks=(⟨none,.store t x y,ty,pos,iM,none⟩::dS,i',⟨cr,cp,cF,cD⟩,p,dJ))
  (A:St.ev ⟨cr,cp,cF,cD⟩ x=ad (.c<|.Y a m k 0)) (B:S a cp=ad (.vec o T xs)) (H:St.ev ⟨cr,cp,cF,cD⟩ y=ad s) (g:kQ s=ad (av T f)) (L:k<Z xs)
  (M:RG q n ops draw nx (i'+1) dS ⟨cr,(a,.vec o T<|xs.set k f)::cp,cF,cD⟩ (ia draw dJ (bK [x,y]++cV [a],[.m a])) R) (P:T.n=m:=by rfl) (l:qj dY t=ad (m,u):=by rfl)
  (hp:p:=by exact mb):RG q n ops draw nx i os ⟨sl,mem,n0,gd⟩ ks R:=
 kU cv v hp (ai9 cv A B H P l f g L M)
def ra{x y}{P Q}{a}{l W:dX}{T}{xs f}{U g o}(dj:runs dY n nx draw ops.toList os i ⟨sl,mem,n0,gd⟩ .t ks=(⟨ad d,.call ⟨.builtin .append,#[x,y],#[P,Q]⟩,ty,pos,iM,none⟩::dS,i',⟨cr,cp,cF,cD⟩,p,dJ))
  (hx:St.ev ⟨cr,cp,cF,cD⟩ x=ad (.c<|.X a)) (hl:S a cp=ad (.vec l T xs)) (hy:St.ev ⟨cr,cp,cF,cD⟩ y=ad (.c<|.S T f)) (u:S P dY=ad U) (hk:U.kind= .sl l) (k:S Q dY=ad g) (v:g.kind= .sl W) (A:S l dY=ad o)
  (hb:((Z xs+Z f)+(Z xs+Z f)/4+192)*o.bytes<=281474976710656) (B:(Z xs+Z f)*T.n<=140737488355328)
  (hr:RG q n ops draw nx (i'+1) dS ⟨(d,.c<|.X<|1000000*nx+1000*i')::cr,(1000000*nx+1000*i',.vec l T<|xs++f)::ry a cp,cF,cD⟩ (ia draw dJ (bK [x,y]++cV [a],[.s d,.m<|1000000*nx+1000*i',.m a])) R) (H:o.size=T.n:=by rfl) (L:Z o.zero=T.n:=by rfl)
  (hp:p:=by exact mb) (M:dy d n=ae:=by rfl):RG q n ops draw nx i os ⟨sl,mem,n0,gd⟩ ks R:=
 kU cv dj hp (ajj cv hx hl hy u hk k v A H L hb B hr M)
def YL{x y}{M P}{l U:dX}{T}{a}{Q f k}(W:runs dY n nx draw ops.toList os i ⟨sl,mem,n0,gd⟩ .t ks=(⟨ad d,.call ⟨.builtin .append,#[x,y],#[M,P]⟩,ty,pos,iM,none⟩::dS,i',⟨cr,cp,cF,cD⟩,p,dJ))
  (hx:St.ev ⟨cr,cp,cF,cD⟩ x=ad (.c<|.V<|.slice none 0 0)) (hy:St.ev ⟨cr,cp,cF,cD⟩ y=ad (.c<|.S T a)) (o:S M dY=ad Q) (hk:Q.kind= .sl l) (g:S P dY=ad f) (u:f.kind= .sl U) (v:S l dY=ad k)
  (hb:(Z a+Z a/4+192)*k.bytes<=281474976710656) (A:Z a*T.n<=140737488355328)
  (hr:RG q n ops draw nx (i'+1) dS ⟨(d,.c<|.X<|1000000*nx+1000*i')::cr,(1000000*nx+1000*i',.vec l T a)::cp,cF,cD⟩ (ia draw dJ (bK [x,y],[.s d,.m<|1000000*nx+1000*i'])) R) (B:k.size=T.n:=by rfl) (H:Z k.zero=T.n:=by rfl)
  (hp:p:=by exact mb) (L:dy d n=ae:=by rfl):RG q n ops draw nx i os ⟨sl,mem,n0,gd⟩ ks R:=
 kU cv W hp (ajk cv hx hy o hk g u v B H hb A hr L)
end
def LJ:AV->ax Bool
 | .c (.V<|.slice none 0 0)=>ad ae
 | .c (.L _ _ _ _)=>ad ah
 | .c (.S _<|_::_)=>ad ah
 |_=>none
def Rm(a:TT)(t:Y):Bool:=match S t a with
 |some d=>(match d.kind with| .sl _=>ae|_=>ah)
 |none=>ah
def HC(s:ByteArray)(i:G):ax G:=match s[i.toNat]? with
 |some b=>ad b.toNat
 |none=>none
def Rn(a:TT)(op:BinOp)(t:Y)(v d:AV):ax AV:=match d with
 | .c (.V<|.slice none 0 0)=>(match Rm a t,LJ v with
  |true,ad b=>(match op with
   | .eql=>ad<|.c<|.B b
   | .neq=>ad<|.c<|.B<|!b
   |_=>none)
  |_,_=>none)
 |_=>none
def vP(d:TT)(k:St):Op->ax (AV×Pr)
 | .build t parts=>(match S t d with
  |some f=>(match f.kind with
   | .arr len l=>(match S l d with
    |some m=>(match A2 (vK m.size 0 len) k (f.zero.map ZV.qi) parts.toList with
     |some cs=>ad (.a cs,.t)
     |none=>none)
    |none=>none)
   |_=>none)
  |none=>none)
 | .index t x i=>(match k.ev x,k.ev i with
  |some (.a cs),ad (.c<|.I _ g)=>(match S t d with
   |some f=>(match f.kind with
    | .arr len l=>(match qj d l with
     |some (sz,n)=>(match nJ cs (af g*sz) sz n with
      |some u=>ad (u,.and (.le 0 g)<|.lt g len)
      |none=>none)
     |none=>none)
    |_=>none)
   |none=>none)
  |some (.c<|.V<|.string s),ad (.c<|.I _ g)=>(match S t d with
   |some f=>(match f.kind,HC s g with
    | .str,ad o=>ad (.c<|.I .u8 o,.le 0 g)
    |_,_=>none)
   |none=>none)
  |_,_=>none)
 | .binOp op t x y _=>(match k.ev x,k.ev y with
  |some v,ad p=>(match Rn d op t v p with
   |some u=>ad (u,.t)
   |none=>none)
  |_,_=>none)
 |_=>none
section
variable{P:bW}{tt:TT}{g:Gh}{W:World}
def aj'{v}{f}(d:LJ v=ad f){u}(k:bu g v u):∃a l m,u= .slice a l m/\a.isNone=f:=by
 unfold LJ at d;split at d
 .cases d;have n:u= .slice none 0 0:=k;exact⟨none,0,0,n,J⟩
 .rename_i t o s i;cases d;cases i with
  |some m=>obtain⟨f,_,rfl⟩:=k;exact⟨_,_,_,J,J⟩
  |none=>obtain⟨_,f,m,_,rfl,_⟩:=k;exact⟨_,_,_,J,J⟩
 .rename_i T x xs;cases d;obtain⟨a,i,rfl,_,_,p⟩:=k;rcases p with p|⟨f,o,rfl,_⟩
  .cases p
  .exact⟨_,_,_,J,J⟩
 .cases d
def aka{t d}(f:P.underlying t=ad (.slice d)) a l i:(Op.equal t (.slice a l i)<|.slice none 0 0).run P W= .ok a.isNone W:=by rw[Op.equal,show Op.maxDepth=9999+1 from J,Op.equalIn];cases a<;>simp[run_underlying f]
def akb(L:cq P tt=ae){U}{d:Y->Prop}{σ}{g}{W}{a}(M:bx U d σ g W a){o}{n:BinOp}{t:dX}{y p}{ty}(b6:o.op= .binOp n t y p ty){v:AV}{s:Bool}(f:Rm tt t=ae)(hn:LJ v=ad s){x:AV}
  (he:(n= .eql/\x=AV.c (.B s))\/(n= .neq/\x=AV.c (.B<|!s))) (h1:bu g v (a.eval y)/\∀u∈v.ak,d u) (A:a.eval p= .slice none 0 0):
  (∀u∈x.ak,d u)/\∃v,(execOp a.eval o).run P W= .ok (.value v) W/\bu g x v:=by
 let ⟨X,l,c,H,Q⟩:=aj' hn h1.1
 have i:∃e,P.underlying t=ad (.slice e):=by
  unfold Rm at f;split at f
  .rename_i j K;split at f
   .rename_i e h;have T:=(eS L K).kind;rw[h]at T;exact⟨e,T⟩
   .cases f
  .cases f
 let ⟨e,i⟩:=i
 have k:execOp a.eval o=(do pure (.value<|<-(do eqGuard n t y p (a.eval y) (a.eval p);binOp n t (a.eval y) (a.eval p):Go.Sem aV))):=vA
 have heq:=aka (P:=P) (W:=W) i X l c
 rcases he with⟨rfl,rfl⟩|⟨rfl,rfl⟩
 .refine⟨λu m=>by simp[AV.ak,C.ak]at m,.bool s,?_,J⟩;rw[k,H,A];simp[eqGuard,binOp,heq,dx,Q]
 .refine⟨λu m=>by simp[AV.ak,C.ak]at m,.bool (!s),?_,J⟩;rw[k,H,A];simp[eqGuard,binOp,heq,dx,Q]
def Ro(L:cq P tt=ae){ops}{i}{o:a4}{d:Y}(ho:ops[i]? =ad o)(hg:o.guard=none)(hd:o.dst=ad d){n}(dz:d<n)
 {st}{x}{p}(f:vP tt st o.op=ad (x,p)) (hp:p) new:iA P n ops i (oo st o.op) [(.s d,ad<|.v x)] new:=by
 refine sO ho hg hd dz _ x new ?_
 intro F I σ g W a K N
 have O:∀y∈o.op.operands,∀kx∈cJ st y,σ kx.1=ad kx.2:=by intro y Q kx R;exact N kx<|jb.2 ⟨y,by simpa using Q,R⟩
 have H:∀y∈o.op.operands,∀u,st.ev y=ad u->bu g u (a.eval y)/\∀id∈u.ak,I id:=by intro y Q u S;exact⟨dA K st y u S<|O y Q,sM K st y u S<|O y Q⟩
 generalize b6:o.op=op at f H O N
 unfold vP at f
 split at f
 .rename_i t l;split at f
  .rename_i ti T;split at f
   .rename_i U E hk;split at f
    .rename_i ei ni;split at f
     .rename_i cs Qv;cases f;have D:=(eS L T).kind;rw[hk]at D;have S:P.underlying t=ad (.array U E):=D;let ⟨inf,M,V,_,z,hz,wZ⟩:=(eS L T).info;let ⟨ie,LK,Rp,_⟩:=(eS L ni).info;have hzr:aW g (ti.zero.map ZV.qi) (ti.zero.map ZV.e9):=yG g ti.zero;let ⟨us,Z,X,hlen,akd⟩:=GU K st (vK ei.size 0 U) (λi=>ad (i*ei.size,ei.size)) (λi y Q=>by have:=K7 ei.size U 0 i y Q;rw[this,ff]) l.toList _ cs _ Qv hzr (λq hq kx R=>N kx<|jb.2 ⟨q.2,by simp only[Op.operands];simp only[iJ];exact⟨q,hq,J⟩,R⟩) (by rw[KL];intro _ h;cases h);refine⟨akd,.agg us.toArray,?_,us,J,X⟩;have Eg:(zeroValue t).run P W= .ok z W:=by simp[zeroValue,typeInfo,M,hz]
      have ake:z.cells=(ti.zero.map ZV.e9).toArray:=DH;have m:execOp a.eval o=(do pure (.value<|<-GW t (l.map λ(i,x)=>(i,a.eval x)))):=vA;have LL:(l.map λ(i,x)=>(i,a.eval x)).toList=l.toList.map λp=>(p.1,a.eval p.2):=az
      have hb:(GW t<|l.map λ(i,x)=>(i,a.eval x)).run P W= .ok (.agg us.toArray) W:=by unfold GW;rw[dn,Eg];simp only[dx];rw[dn,run_underlying S];simp only[dx];rw[dn,run_sizeOf LK];simp only[dx,LL,ake,Rp,Z];rfl
      rw[m,dn,hb];rfl
     .cases f
    .cases f
   .cases f
  .cases f
 .rename_i t y j;have m:execOp a.eval o=(do pure (.value<|<-LM t (a.eval y) (a.eval j))):=vA;split at f
  .rename_i cs k jj Q hj;split at f
   .rename_i ti T;split at f
    .rename_i U E hk;split at f
     .rename_i sz ag KH;split at f
      .rename_i u S;cases f;obtain⟨xo,nQ⟩:0<=jj/\jj<(U:G):=hp;have D:=(eS L T).kind;rw[hk]at D;have e:P.underlying t=ad (.array U E):=D;let ⟨vs,vQ,X⟩:=(H y gU _ Q).1;have Rq:a.eval j= .int k jj:=(H j gU _ hj).1;let ⟨hag,⟨inf,M,V⟩,_⟩:=KE L KH;let ⟨v,hv,LB⟩:=W6 (P:=P) X S hag M V W;refine⟨λid fe=>(H y gU _ Q).2 id<|yy S id fe,v,?_,LB⟩;have r:(LM t (a.eval y)<|a.eval j).run P W= .ok v W:=by rw[vQ,Rq];unfold LM;simp only[asIntOf,dn,yE,dx,run_underlying e,xo,nQ,and_self,cj,run_sizeOf M,V];exact hv
       rw[m,dn,r];rfl
      .cases f
     .cases f
    .cases f
   .cases f
  .rename_i s k jj Q hj;split at f
   .rename_i ti T;split at f
    .rename_i b hk hb;cases f;have xo:0<=jj:=hp;have D:=(eS L T).kind;rw[hk]at D;have e:P.underlying t=ad .string:=D;have hyv:a.eval y= .string s:=(H y gU _ Q).1;have Rq:a.eval j= .int k jj:=(H j gU _ hj).1;refine⟨λid fe=>by simp[AV.ak,C.ak]at fe,.int .u8 b,?_,J⟩;have r:(LM t (a.eval y)<|a.eval j).run P W= .ok (.int .u8 b) W:=by
      rw[hyv,Rq];unfold HC at hb;unfold LM;simp only[asIntOf,dn,yE,dx,run_underlying e,xo,cj];split at hb
      .rename_i bb HD;cases hb;rw[HD];rfl
      .cases hb
     rw[m,dn,r];rfl
    .cases f
   .cases f
  .cases f
 .rename_i bo t y z ty;split at f
  .rename_i v w Q hz;split at f
   .rename_i u0 A;cases f;unfold Rn at A;split at A
    .split at A
     .rename_i b hsk hn;have aki:(bo= .eql/\x=AV.c (.B b))\/(bo= .neq/\x=AV.c (.B<|!b)):=by
       split at A
       .cases A;exact .inl ⟨J,J⟩
       .cases A;exact .inr ⟨J,J⟩
       .cases A
      exact akb L K b6 hsk hn aki (H y gU _ Q) (H z gU _ hz).1
     .cases A
    .cases A
   .cases f
  .cases f
 .cases f
end
def YM(W:World)(H:FH)(f:dX)(T:ET)(xs:V T.den)(g:Ending)(d:World):Prop:=
 ∃v a,g= .returned v/\fV (λb=>W.heap.size<=b) ⟨a,λ_=>v⟩ d 0 (.vec f T xs)/\cL H a/\(∀b o,b<W.heap.size->a b o=H b o)/\Sub a d/\Below W.heap.size W d
structure ox(P:bW)(f:FuncId)(args:V AV)(E:dX)(T:ET)(xs:V T.den):Prop where
 call:oW P f=ae
 spec:∀H W vs,Sub H W->fw ⟨H,jT⟩ args vs->Calls P f vs.toArray W (YM W H E T xs)
def YN(P:bW)(d:Func)(f:dX)(T:ET)(xs:V T.den):ma:=λF e a W=>(∀b,¬F.own b)->bodyPost P d (YM F.w0 F.H0 f T xs) e a W
section
variable{P:bW}{tt:TT}{n:Y}{st:St}
def HE(p:cq P tt=ae){L}{t id}{s}{T}{xs}(M:S t st.sl=ad (.c<|.X id))(Q:S id st.mem=ad (.vec s T xs))(x:L.results= #[.tmp t]:=by rfl):fA n .ret st (YN P L s T xs):=by
 intro F C g W a h d;let ⟨u,hu,f⟩:=Ba (rs:=[.tmp t]) (v:= .c<|.X id) p h x (by simp[lJ,oX,M]);have i:=h.cX id (.vec s T xs) (by simp[St.kn,Q]);have l:u=g.γ id:=f;refine⟨h.defers.trans C.ds,u,hu,u,g.H,J,?_,h.le,λb o K=>h.fresh b o K<|d b,h.sub,⟨h.below.os,h.below.tape,h.below.output,h.below.size,λk U=>h.below.block k U<|d k⟩⟩;rcases i with⟨y,A⟩|⟨b,B,vs,y,A,e,j,q,r,m,w⟩
 .exact .inl ⟨by rw[l];exact y,A⟩
 .refine .inr ⟨b,B,vs,by rw[l];exact y,A,e,j,q,r,?_,w⟩;rcases m with m|m
  .exact m
  .exact(d b m).elim
def HG{f}{g}{L}{args}{M}{T}{xs}(hf:P.funcs[f]? =ad g)(hb:g.body=ad L)(U:g.ntmps=n)(i:dP args.length n=ae)(B:cR args=[])(tY:(g.name != "runtime.NumGoroutine")=ae)
  (l:TR P n L ⟨dG 0 args,[],0,[]⟩ (YN P g M T xs)):ox P f args M T xs:=by
 refine⟨Bb,?_⟩
 intro H W vs o d
 refine calls_of_wp hf hb ?_
 have K:=yJ d
 have i:=c8 i
 refine wp_mono (l {w0:=W,H0:=H,n:=n} ⟨J,aY _,J,J⟩ ⟨H,jT⟩ W _ ⟨?_,J,?_,?_,?_,?_,?_,o,⟨J,J,J,aO _,λ_ _ _=>rfl⟩,cL.refl _,λ_ _ _ _=>rfl,λ_ l=>absurd l<|vH _⟩)<|λe a D X=>X<|λ_ l=>l
 .simp[U];omega
 .intro t v Q;simp only[St.kn,cG]at Q;let ⟨x,hx,he⟩:=Q;cases he;let ⟨_,u,hu,q,_⟩:=nP args vs 0 d t v hx;have p:vs[t]? =ad u:=w8;have hZ:t<Z vs:=(sQ.1 p).1;have:(vs.toArray++s6 (g.ntmps-vs.toArray.size) undef).getD t undef=u:=by rw[nM,yK Bc];simp[p]
  rw[this];exact q
 .intro A b e;simp[St.kn,S]at e
 .intro A r b F k e;simp[St.kn,S]at e
 .intro k x e A C;cases k with
  |m j=>simp[St.kn,S]at e
  |s t=>
   simp only[St.kn,cG]at e
   let ⟨y,w,he⟩:=e
   subst he
   let ⟨_,u,_,_,z⟩:=nP args vs 0 d t y w
   have:=z A C
   rw[B]at this
   cases this
 .intro A x e;simp[St.kn,S]at e
def akj{n l}{ops}{i}{o:a4}(ho:ops[i]? =ad o)(hg:o.guard=none){d:Y}(hd:o.dst=ad d)(dz:d<n){f}{args}{kV}(b6:o.op= .call ⟨.value<|.func f,args,kV⟩)
 {st}{vs}{cC:dX} {T:ET} {xs:V T.den} (hv:jU st args.toList=ad vs) (hm:cR vs=[]) (hf:ox P f vs cC T xs):kT P n ops i st ((st.pm l<|.vec cC T xs).put d<|.c<|.X l) l (bK args.toList,[.s d,.m l]):=by
 refine⟨args.toList.flatMap<|cJ st,[(.s d,ad<|.v<|.c<|.X l),(.m l,ad<|.b<|.vec cC T xs)],?_,?_,DI st d l _ _,eO st _,λk hk=>jG⟩
 .intro F kO Q q σ g W a K U aR R hK;have r:=(DO aR st _ _ hv R).iL (γ:=jT) hm;have hc:=hf.spec g.H W _ aR.sub r;unfold wpOp;simp only[ho,gV,hg,cj];refine .inl ?_;unfold nK;have S:(execOp a.eval o).run P W= .ok (.enter f<|args.map a.eval) W:=by
   have p:=hf.call;unfold oW at p;rw[execOp,b6];cases w:P.funcs[f]? with
   |none=>rw[w]at p;simp at p
   |some fn=>
    rw[w]at p
    simp only[cz,bne_iff_ne,ne_eq]at p
    have h2:fn.body≠none:=by intro hb;rw[hb]at p;simp at p
    simp[resolve,Act.eval,Hs,invoke,callFunc,w,p.1,h2]
  rw[S];simp only[nL];have z:(args.map a.eval)=(args.toList.map a.eval).toArray:=A6;rw[z];refine hc.mono ?_;rintro e W' ⟨v,H',rfl,D,hle,yN,G,B⟩;simp only[hd];have kM:d<a.tmps.size:=mD;let L:Gh:=⟨H',λj=>if j=l then v else g.γ j⟩;have I:gC q g L:=⟨hle,λj A=>by
   have:j≠l:=λe=>U<|e▸A
   simp[L,this]⟩
  refine hK L W' _<|aR.step (chg:=λ_=>False) (g':=L) ⟨I,yN,G,B.size,λk hk _=>B.block k hk,B.os,B.tape,B.output⟩ _ l U mE aR.defers ?_ (λ_ h=>h.elim) ?_ ?_ ?_ ?_
  .intro t ht;have gM:d≠t:=qn;simp[im,lE gM]
  .intro t u ht;simp only[aE]at ht;split at ht
   .rename_i e;simp only[Key.s.injEq]at e;simp only[ar,Info.v.injEq]at ht;subst e;subst ht;simp[im,kM,bu,c7,L]
   .split at ht
    .simp at ht
    .simp at ht
  .intro j b ht;simp only[aE,reduceCtorEq,bN]at ht;split at ht
   .rename_i e;simp only[Key.m.injEq]at e;simp only[ar,Info.b.injEq]at ht;subst e;subst ht;have hs0:=aR.below.size;rcases D with⟨M,e2⟩|⟨b,N,ws,M,e2,e3,e4,e5,e6,e7,e8⟩
    .refine⟨.inl ⟨by simpa[L]using M,e2⟩,.inr ⟨J,λk hk=>?_⟩⟩;have M:v= .slice none 0 0:=M;simp[L,M,cE]at hk
    .have M:v= .slice (ad ⟨b,0,none⟩) (Z xs) N:=M;refine⟨.inr ⟨b,N,ws,by simpa[L]using M,e2,e3,e4,e5,e6,.inl O,e8⟩,.inr ⟨J,λk hk=>?_⟩⟩;simp[L,M,cE]at hk;exact .inl O
   .simp at ht
  .intro k y ht;simp only[aE]at ht;split at ht
   .simp only[ar]at ht;subst ht;intro j A;simp[Info.ak,AV.ak,C.ak]at A;exact .inr A
   .split at ht
    .simp only[ar]at ht;subst ht;intro j A;simp[Info.ak,aG.ak]at A
    .simp at ht
  .intro j y ht;simp only[aE,reduceCtorEq,bN]at ht;split at ht
   .rename_i e;simp only[Key.m.injEq]at e;exact .inr e.symm
   .simp at ht
 .intro kx b7;let ⟨x,_,h⟩:=jb.1 b7;exact eD st x kx h
def akk{n}{g}{a}{k i}{d f:Y}{args}{l}{B}{pos}{o}{x}{p}{mem}{t}{u}{y}{Q:St->Prop}{vs}{A}{T}{xs}
  (H:jU ⟨p,mem,t,u⟩ args.toList=ad vs) (L:ox P f vs A T xs) (M:RG P n g a k (i+1) x ⟨(d,.c<|.X<|1000000*k+1000*i)::p,(1000000*k+1000*i,.vec A T xs)::mem,t,u⟩ (ia a y (bK args.toList,[.s d,.m<|1000000*k+1000*i])) Q) (U:cR vs=[]:=by rfl) (v:dy d n=ae:=by rfl):
  RG P n g a k i (⟨ad d,.call ⟨.value<|.func f,args,l⟩,B,pos,o,none⟩::x) ⟨p,mem,t,u⟩ y Q:=
 nc (λC=>akj C J J (c8 v) J H U L) (nh M)
end
section
variable{P:bW}{tt:TT}
def akl(l:cq P tt=ae){n f}{g}{i}{o:a4}(u:g[i]? =ad o)(y:o.guard=none){d:Y}(A:o.dst=ad d)(m:d<n){a}{x}{p}(B:vP tt a o.op=ad (x,p))(H:p):kT P n g i a (a.put d x) f (bK o.op.operands.toList,[.s d]):=by refine⟨oo a o.op,[(.s d,ad<|.v x)],Ro l u y A m B H f,?_,oS a d x,eO a _,λk hk=>jG⟩;intro kx t;let ⟨x,_,h⟩:=jb.1 t;exact eD a x kx h
def akm{n}{f}{a}{u i}{d}{op:Op}{A}{pos}{g}{v}{k}{mem}{l}{m}{y}{Q:St->Prop}(o:cq P tt=ae){x}{p}(B:vP tt ⟨k,mem,l,m⟩ op=ad (x,p))(H:p)
  (L:RG P n f a u (i+1) v ⟨(d,x)::k,mem,l,m⟩ (ia a y (bK op.operands.toList,[.s d])) Q) (t:dy d n=ae:=by rfl):
  RG P n f a u i (⟨ad d,op,A,pos,g,none⟩::v) ⟨k,mem,l,m⟩ y Q:=
 nc (λC=>akl o C J J (c8 t) B H) (nh L)
end
section
variable{n:Y}{Q:ma}{sl cr:V (Y×AV)}{mem cp:V (Y×aG)}{nx:Y}{gd cD:V (Y×Bool)}{ops:Array a4}{draw:Bool}{p:Pr}{ks dJ:V Ks}{i i' n0 cF:Y}{os dS:V a4}{d:Y}{ty:dX}{pos:String}{iM:Array Edge}{R:St->Prop}
def rx{op:Op}{x}{pm}(g:runs dY n nx draw ops.toList os i ⟨sl,mem,n0,gd⟩ .t ks=(⟨ad d,op,ty,pos,iM,none⟩::dS,i',⟨cr,cp,cF,cD⟩,p,dJ))(k:vP dY ⟨cr,cp,cF,cD⟩ op=ad (x,pm))(a:pm)
  (l:RG q n ops draw nx (i'+1) dS ⟨(d,x)::cr,cp,cF,cD⟩ (ia draw dJ (bK op.operands.toList,[.s d])) R)
  (hp:p:=by exact mb) (f:dy d n=ae:=by rfl):RG q n ops draw nx i os ⟨sl,mem,n0,gd⟩ ks R:=
 kU cv g hp (akm cv k a l f)
def Bq{f}{args}{a}{vs}{k}{T}{xs}(l:runs dY n nx draw ops.toList os i ⟨sl,mem,n0,gd⟩ .t ks=(⟨ad d,.call ⟨.value<|.func f,args,a⟩,ty,pos,iM,none⟩::dS,i',⟨cr,cp,cF,cD⟩,p,dJ))(o:jU ⟨cr,cp,cF,cD⟩ args.toList=ad vs)(u:ox q f vs k T xs)
  (v:RG q n ops draw nx (i'+1) dS ⟨(d,.c<|.X<|1000000*nx+1000*i')::cr,(1000000*nx+1000*i',.vec k T xs)::cp,cF,cD⟩ (ia draw dJ (bK args.toList,[.s d,.m<|1000000*nx+1000*i'])) R)
  (hp:p:=by exact mb) (x:cR vs=[]:=by rfl) (g:dy d n=ae:=by rfl):RG q n ops draw nx i os ⟨sl,mem,n0,gd⟩ ks R:=
 kU cv l hp (akk o u v x g)
end
def Ej(i a:Y):AV->AV
 | .c (.X k)=>if k=a then .c (.X i)else .c (.X k)
 |v=>v
def Ek(i a:Y):V (Y×AV)->V (Y×AV)
 |[]=>[]
 | (t,v)::d=>(t,Ej i a v)::Ek i a d
def Br(i a:Y):V (Y×aG)->V (Y×aG)
 |[]=>[]
 | (k,d)::f=>(if k=a then i else k,d)::Br i a f
def LN(i a:Y):AV->Bool
 | .c (.X k)=> !(k==i)
 |v=>v.ak.all λk=> !(k==i)&& !(k==a)
def LO(i a:Y):V (Y×AV)->Bool
 |[]=>ae
 | (_,v)::d=>LN i a v&&LO i a d
def Em(i a:Y):V (Y×aG)->Bool
 |[]=>ae
 | (k,d)::f=> !(k==i)&&(d.ak.all λk=> !(k==i)&& !(k==a))&&Em i a f
def YO(i a t:Y):∀l:V (Y×AV),S t (Ek i a l)=(S t l).map (Ej i a)
 |[]=>rfl
 | (k,v)::d=>by simp only[Ek,S,YO i a t d];split<;>rfl
def YP{i d t:Y}{v:AV}:∀{l:V (Y×AV)},LO i d l=ae->S t l=ad v->LN i d v=ae
 |[],_,a=>by simp[S]at a
 | (k,x)::f,a,hl=>by
  simp only[LO,cz]at a;simp only[S]at hl;split at hl
  .cases hl;exact a.1
  .exact YP a.2 hl
def YQ{i d t:Y}{f:aG}:∀{l:V (Y×aG)},Em i d l=ae->S t l=ad f->t≠i/\∀k∈f.ak,k≠i/\k≠d
 |[],_,a=>by simp[S]at a
 | (k,x)::n,a,hl=>by
  simp only[Em,cz,jS]at a;simp only[S]at hl;split at hl
  .rename_i g;cases hl;subst g;exact⟨by simpa using a.1.1,λk m=>by simpa using a.1.2 k m⟩
  .exact YQ a.2 hl
def Rr{i m:Y}(t:Y){n:aG}:∀{l:V (Y×aG)},Em i m l=ae->S t (Br i m l)=ad n->(t=i/\S m l=ad n)\/(t≠i/\t≠m/\S t l=ad n)
 |[],_,f=>by simp[Br,S]at f
 | (k,x)::u,f,hl=>by
  simp only[Em,cz]at f;have o:k≠i:=by simpa using f.1.1
  simp only[Br,S]at hl;by_cases a:k=m
  .rw[b a]at hl;subst a;split at hl
   .rename_i e;cases hl;exact .inl ⟨e.symm,by simp[S]⟩
   .rename_i d;rcases Rr t f.2 hl with⟨rfl,_⟩|⟨p,g,s⟩
    .exact absurd J d
    .exact .inr ⟨p,g,by simp only[S];rw[w (λ(e:k=t)=>g e.symm)];exact s⟩
  .rw[w a]at hl;split at hl
   .rename_i e;cases hl;subst e;exact .inr ⟨o,a,by simp[S]⟩
   .rename_i d;rcases Rr t f.2 hl with⟨rfl,g⟩|⟨p,g,s⟩
    .exact .inl ⟨J,by simp only[S,w a];exact g⟩
    .exact .inr ⟨p,g,by simp only[S,w d];exact s⟩
def fU i y{sl}{mem}{nx}{gd}(hi:dy i (1000000*nx)=ae)(hs:LO i y sl=ae)(hm:Em i y mem=ae)(P':dP 1 i=ae:=by rfl):Wk ⟨sl,mem,nx,gd⟩ ⟨Ek i y sl,Br i y mem,nx,gd⟩:=by
 intro F sT g W a h;have hi:i<1000000*nx:=by simpa[s7]using hi
 let D:Gh:=⟨g.H,λl=>if l=i then g.γ y else g.γ l⟩;have K:gC (λl=>l≠i) g D:=⟨cL.refl _,λl d=>w d⟩;have X:D.γ i=g.γ y:=b J;have L:∀l,l≠i->D.γ l=g.γ l:=λl d=>w d
 have hS:∀t c,St.kn ⟨Ek i y sl,Br i y mem,nx,gd⟩ (.s t)=ad (.v c)->∃v,S t sl=ad v/\c=Ej i y v:=by intro t c e;simp only[St.kn,YO,Option.map_map,cG]at e;let ⟨v,hv,he⟩:=e;cases he;exact⟨v,hv,J⟩
 have V:∀t o,St.kn ⟨Ek i y sl,Br i y mem,nx,gd⟩ (.m t)=ad (.b o)->(t=i/\S y mem=ad o)\/(t≠i/\t≠y/\S t mem=ad o):=by intro t o e;simp only[St.kn,cG]at e;let ⟨v,hv,he⟩:=e;cases he;exact Rr t hm hv
 have U:∀t u o,S t mem=ad o->fV F.N g W t o->D.γ u=g.γ t->fV F.N D W u o:=by
  intro t u o A q hγ;have B:=(YQ hm A).2;cases o with
  |box E bz cs=>
   let ⟨k,vs,rest,e1,P,G,Y,e5,e6⟩:=q
   exact⟨k,vs,rest,qt,P,aW.mono K (λl d=>(B l d).1) G,Y,e5,by rw[hγ];exact e6⟩
  |vec E T ys=>
   rcases q with⟨e1,P⟩|⟨k,cap,vs,e1,P⟩
   .exact .inl ⟨qt,P⟩
   .exact .inr ⟨k,cap,vs,qt,P⟩
  |hY f first Bf=>
   let ⟨us,ws,e1,P,G⟩:=q
   exact⟨us,ws,qt,fJ.mono K (λl d=>(B l<|eH _ d).1) P,fJ.mono K (λl d=>(B l<|gD _ d).1) G⟩
  |fz E cs=>
   let ⟨k,vs,rest,e1,P,G,Y,e5⟩:=q
   exact⟨k,vs,rest,qt,P,aW.mono K (λl d=>(B l d).1) G,Y,e5⟩
  |mp ka va ys=>
   let ⟨k,es,e1,P,G,Y⟩:=q
   exact⟨k,es,qt,P,iy.mono K (λl d=>(B l d).1) G,Y⟩
  |it m n seen=>
   let ⟨k,o,e1,e0,P⟩:=q
   exact⟨k,o,qt,by rw[K.γ m (B m<|by simp[aG.ak]).1];exact e0,P⟩
 have p:∀t o,S t mem=ad o->St.kn ⟨sl,mem,nx,gd⟩ (.m t)=ad (.b o):=λt o A=>by simp[St.kn,A]
 refine⟨D,h.size,h.defers,?_,?_,?_,?_,?_,h.sub,h.below,h.le,h.fresh,λl d=>⟨(h.gK l d).1,by have:=c8 P';rw[L l O];exact(h.gK l d).2⟩⟩
 .intro t c e;obtain⟨v,hv,rfl⟩:=hS t c e;have q:=h.eY t v A7;have r:=YP hs hv;unfold Ej;split
  .rename_i k;have Bn:k≠i:=by simpa[LN]using r
   have Z:a.tmps.getD t undef=g.γ k:=q;split
   .rename_i e';subst e';show _=D.γ i;rw[X];exact Z
   .show _=D.γ k;rw[L k Bn];exact Z
  .rename_i gM;refine bu.mono K (λl d=>?_) q;unfold LN at r;split at r
   .rename_i k;exact absurd J<|gM k
   .have:=(jS.1 r) l d;simp at this;exact this.1
 .intro t o e;rcases V t o e with⟨rfl,A⟩|⟨I,h2,A⟩
  .exact U y t o A (h.cX y o<|p y o A) X
  .exact U t t o A (h.cX t o<|p t o A)<|L t I
 .intro t u o M k e e' R Q;rcases V t o e with⟨rfl,A⟩|⟨I,h2,A⟩<;>rcases V u M e' with⟨rfl,z⟩|⟨YR,D7,z⟩
  .rfl
  .rw[X]at R;rw[L u YR]at Q;exact absurd (h.inj y u o M k (p _ _ A) (p _ _ z) R Q)<|λe=>D7 e.symm
  .rw[X]at Q;rw[L t I]at R;exact absurd (h.inj t y o M k (p _ _ A) (p _ _ z) R Q) h2
  .rw[L t I]at R;rw[L u YR]at Q;exact h.inj t u o M k (p _ _ A) (p _ _ z) R Q
 .intro key x e l d;cases key with
  |s t=>
   cases x with
   |b M=>simp only[St.kn,cG]at e;let ⟨_,_,he⟩:=e;cases he
   |v c=>
    obtain⟨v,hv,rfl⟩:=hS t c e
    have HH:=h.ak (.s t) (.v v) A7
    have d:l∈(Ej i y v).ak:=d
    unfold Ej at d
    split at d
    .split at d
     .simp only[AV.ak,C.ak,iK]at d;subst d;exact hi
     .exact HH l d
    .exact HH l d
  |m t=>
   cases x with
   |v c=>simp only[St.kn,cG]at e;let ⟨_,_,he⟩:=e;cases he
   |b M=>
    rcases V t M e with⟨rfl,A⟩|⟨I,h2,A⟩
    .exact h.ak (.m y) (.b M) (p y M A) l d
    .exact h.ak (.m t) (.b M) (p t M A) l d
 .intro t x e;cases x with
  |v c=>simp only[St.kn,cG]at e;let ⟨_,_,he⟩:=e;cases he
  |b M=>
   rcases V t M e with⟨rfl,A⟩|⟨I,h2,A⟩
   .exact hi
   .exact h.ew t _<|p t M A
def Wk.trans{a d f}(l:Wk a d)(k:Wk d f):Wk a f:=λF i g W ac m=>by let ⟨n,o⟩:=l F i g W ac m;exact k F i n W ac o
def YS(g:Gh)(W:World)(i:dX)(T:ET)(k:AV)(d:V T.den)(l:Ending)(f:World):Prop:=
 ∃v a,l= .returned v/\bu ⟨a.H,jT⟩ k v/\fV (λ_=>True) a f 0 (.vec i T d)/\a.γ 0=g.γ 0/\cL g.H a.H/\(∀b o,b<W.heap.size->¬cE (g.γ 0)=ad b->a.H b o=g.H b o)/\Sub a.H f/\Di (λb=>cE (g.γ 0)=ad b) W f
structure ui(P:bW)(f:FuncId)(args:V AV)(E:dX)(T:ET)(xs:V T.den)(r:AV)(a:V T.den):Prop where
 call:oW P f=ae
 iL:r.ak=[]
 spec:∀g W vs,Sub g.H W->fw g args vs->fV (λ_=>True) g W 0 (.vec E T xs)->Calls P f vs.toArray W (YS g W E T r a)
def Rt(P:bW)(i:Func)(k:dX)(T:ET)(l:AV)(f:V T.den):ma:=λF e a W=>F.k0=1->bodyPost P i (λe g=>∃v d,e= .returned v/\bu ⟨d.H,jT⟩ l v/\fV F.N d g 0 (.vec k T f)/\d.γ 0=F.γ0 0/\cL F.H0 d.H/\(∀b o,b<F.w0.heap.size->¬F.own b->d.H b o=F.H0 b o)/\Sub d.H g/\Di F.own F.w0 g) e a W
section
variable{P:bW}{tt:TT}{n:Y}{st:St}
def yZ(i:cq P tt=ae){p}{s}{t k}{v}{T}{d}(x:lJ tt st s=ad t)(l:bl t k)(m:S 0 st.mem=ad (.vec v T d))(o:p.results=s.toArray:=by rfl)(y:k.ak=[]:=by rfl):fA n .ret st (Rt P p v T k d):=by intro F A g W a h B;let ⟨u,hu,f⟩:=Ba i h o x;exact⟨h.defers.trans A.ds,u,hu,u,g,J,(l.1 _ _ f).iL y (cL.refl _) jT,h.cX 0 _ (by simp[St.kn,m]),(h.gK 0 O).2,h.le,h.fresh,h.sub,h.below⟩
def YT(f:cq P tt=ae){o}{p}{s i}{t}{T}{d}(u:lJ tt st p=ad s)(k:bl s i)(l:S 0 st.mem=ad (.vec t T d))(m:o.results=p.toArray:=by rfl)(v:i.ak=[]:=by rfl):fA n .normal st (Rt P o t T i d):=
 λF x g W a h=>yZ f u k l m v F x g W a h
def LP:V Y->Bool
 |[]=>ae
 |id::a=>Nat.beq id 0&&LP a
def YU:∀{l:V Y},LP l=ae->∀d∈l,d=0
 |[],_,_,a=>by cases a
 |g::i,f,d,a=>by
  simp only[LP,cz]at f;rcases b9.1 a with rfl|a
  .exact lL f.1
  .exact YU f.2 d a
def HI{f}{U}{dQ}{args}{L}{T}{xs p}{bf}(hf:P.funcs[f]? =ad U)(hb:U.body=ad dQ)(hN:U.ntmps=n)(hle:dP args.length n=ae)(y4:LP (cR args)=ae)(y5:bf.ak=[])(tY:(U.name != "runtime.NumGoroutine")=ae)
  (dj:TR P n dQ ⟨dG 0 args,[(0,.vec L T xs)],1,[]⟩ (Rt P U L T bf p)):ui P f args L T xs bf p:=by
 refine⟨Bb,y5,?_⟩
 intro g W vs q l w
 refine calls_of_wp hf hb ?_
 have I:=yJ l
 have hle:=c8 hle
 have d:∀i b,St.kn ⟨dG 0 args,[(0,.vec L T xs)],1,[]⟩ (.m i)=ad (.b b)->i=0/\b= .vec L T xs:=by
  intro i b e;simp only[St.kn,S,cG]at e;let ⟨x,hx,he⟩:=e;cases he;split at hx
  .rename_i R;cases hx;exact⟨R.symm,J⟩
  .cases hx
 let F:fj:={w0:=W,H0:=g.H,n:=n,own:=λb=>cE (g.γ 0)=ad b,k0:=1,γ0:=g.γ}
 refine wp_mono (dj F ⟨J,aO _,J,J⟩ g W _ ⟨?_,J,?_,?_,?_,?_,?_,q,⟨J,J,J,aO _,λ_ _ _=>rfl⟩,cL.refl _,λ_ _ _ _=>rfl,?_⟩) ?_
 .simp[hN,F];omega
 .intro t v O;simp only[St.kn,cG]at O;let ⟨x,hx,he⟩:=O;cases he;let ⟨_,u,hu,V,_⟩:=nP args vs 0 l t v hx;have z:vs[t]? =ad u:=w8;have hZ:t<Z vs:=(sQ.1 z).1;have:(vs.toArray++s6 (U.ntmps-vs.toArray.size) undef).getD t undef=u:=by rw[nM,yK Bc];simp[z]
  rw[this];exact V
 .intro i b e;obtain⟨rfl,rfl⟩:=d i b e;exact w.yW (λk Y=> .inr Y) J J ⟨cL.refl _,λ_ _=>rfl⟩
 .intro i G b b' k e e' _ _;rw[(d i b e).1,(d G b' e').1]
 .intro k x e i A;cases k with
  |m j=>
   cases x with
   |v y=>simp only[St.kn,cG]at e;let ⟨_,_,he⟩:=e;cases he
   |b b=>obtain⟨_,rfl⟩:=d j b e;simp[Info.ak,aG.ak]at A
  |s t=>
   simp only[St.kn,cG]at e
   let ⟨y,hy,he⟩:=e
   subst he
   let ⟨_,u,_,_,h6⟩:=nP args vs 0 l t y hy
   have:=YU y4 i<|h6 i A
   subst this
   show 0<1000000*1
   decide
 .intro i x e;cases x with
  |v y=>simp only[St.kn,cG]at e;let ⟨_,_,he⟩:=e;cases he
  |b b=>rw[(d i b e).1];show 0<1000000*1;decide
 .intro i A;have:i=0:=by have:i<1:=A;omega
  subst this;exact⟨(D:0<1000000*1),J⟩
 .intro e a X C;have C:=C J;have B:∀e X,(∃v K,e=aj9 v/\bu ⟨K.H,jT⟩ bf v/\fV F.N K X 0 (.vec L T p)/\K.γ 0=F.γ0 0/\cL F.H0 K.H/\(∀b o,b<F.w0.heap.size->¬F.own b->K.H b o=F.H0 b o)/\Sub K.H X/\Di F.own F.w0 X)->YS g W L T bf p e X:=by rintro e X ⟨v,K,M,h2,Q,h4⟩;exact⟨v,K,M,h2,Q.yW (λ_ _=>trivial) J J ⟨cL.refl _,λ_ _=>rfl⟩,h4⟩
  cases e with
  |normal=>let ⟨M,v,h2,Q⟩:=C;exact⟨M,v,h2,B _ _ Q⟩
  |ret=>let ⟨M,v,h2,Q⟩:=C;exact⟨M,v,h2,B _ _ Q⟩
  |panic dQ=>let ⟨M,Q⟩:=C;exact⟨M,B _ _ Q⟩
  |outgrown=>exact B _ _ C
  |exit _=>exact C
  |goto _=>exact C
def En(a:Y):C->C
 | .P _ o=> .P a o
 | .X _=> .X a
 | .Y _ n i o=> .Y a n i o
 | .L _ o l d=> .L a o l d
 | .W _ o l=> .W a o l
 |d=>d
def HJ(d:Y):AV->AV
 | .c x=> .c<|En d x
 | .a cs=> .a<|cs.map<|En d
 | .t f=> .t<|f.map λs=>(s.1,s.2.map<|En d)
def Ru{g:Gh}{d:Y}:∀{f:C}{v:aV},c7 g (En d f) v->c7 ⟨g.H,λ_=>g.γ d⟩ f v
 | .any,_,a=>a
 | .B _,_,a=>a
 | .I _ _,_,a=>a
 | .V _,_,a=>a
 | .S _ _,_,a=>a
 | .P _ _,_,a=>a
 | .X _,_,a=>a
 | .Y _ _ _ _,_,a=>a
 | .E _ _ _,_,a=>a
 | .M _,_,a=>a
 | .L _ _ _ (ad _),_,a=>a
 | .L _ _ _ none,_,a=>a
 | .W _ _ _,_,a=>a
def Rv{g:Gh}{d:Y}:∀{f:V C}{vs:V aV},aW g (f.map<|En d) vs->aW ⟨g.H,λ_=>g.γ d⟩ f vs
 |[],_,a=>a
 |_::_,_,a=>by let ⟨v,i,k,l,h2⟩:=a;exact⟨v,i,k,Ru l,Rv h2⟩
def YV{g:Gh}{k:Y}:∀{l:V (Bool×V C)}{vs:V aV},fJ g (l.map λs=>(s.1,s.2.map<|En k)) vs->fJ ⟨g.H,λ_=>g.γ k⟩ l vs
 |[],_,d=>d
 | (m,f)::_,_,d=>by
  let ⟨v,o,i,a,h2⟩:=d;refine⟨v,o,i,?_,YV h2⟩;match m,f,a with
  |true,f,a=>let ⟨vs,i,d⟩:=a;exact⟨vs,i,Rv d⟩
  |false,[f],a=>exact Ru a
  |false,[],a=>exact a.elim
  |false,_::_::_,a=>exact a.elim
def akn{g}{f}{x}{v}(d:bu g (HJ f x) v):bu ⟨g.H,λ_=>g.γ f⟩ x v:=by
 cases x with
 |c y=>exact Ru d
 |a cs=>let ⟨vs,e,d⟩:=d;exact⟨vs,e,Rv d⟩
 |t i=>let ⟨vs,e,d⟩:=d;exact⟨vs,e,YV d⟩
def YW{g:Gh}{d:Y}:∀{xs:V AV}{vs:V aV},fw g (xs.map<|HJ d) vs->fw ⟨g.H,λ_=>g.γ d⟩ xs vs
 |[],_,a=>a
 |_::_,_,a=>by let ⟨v,f,i,k,h2⟩:=a;exact⟨v,f,i,akn k,YW h2⟩
def ako{n new}{ops}{i}{o:a4}(ho:ops[i]? =ad o)(hg:o.guard=none){d:Y}(hd:o.dst=ad d)(dz:d<n){f}{args}{kV}(b6:o.op= .call ⟨.value<|.func f,args,kV⟩)
 {st}{vs}{l:Y} {cC:dX} {T:ET} {xs LF:V T.den} {bf:AV} (hv:jU st args.toList=ad (vs.map<|HJ l)) (hl:S l st.mem=ad (.vec cC T xs)) (hf:ui P f vs cC T xs bf LF):kT P n ops i st ((st.pm l<|.vec cC T LF).put d bf) new (bK args.toList++cV [l],[.s d,.m l]):=by
 refine⟨args.toList.flatMap (cJ st)++fL st [l],[(.s d,ad<|.v bf),(.m l,ad<|.b<|.vec cC T LF)],?_,?_,DI st d l _ _,?_,λk hk=>jG⟩
 .intro F kO Q G σ g W a K wU aR gN hK;have I:=DO aR st _ _ hv<|λkx C=>gN kx<|eH _ C;have M:σ (.m l)=ad (.b<|.vec cC T xs):=gN (.m l,.b<|.vec cC T xs) qm;have U:=aR.cX l _ M;have N:fV (λ_=>True) ⟨g.H,λ_=>g.γ l⟩ W 0 (.vec cC T xs):=by
   rcases U with⟨z,e2⟩|⟨b,cap,ws,z,e2,e3,e4,e5,e6,e7,e8⟩
   .exact .inl ⟨z,e2⟩
   .exact .inr ⟨b,cap,ws,z,e2,e3,e4,e5,e6,h,e8⟩
  have hc:=hf.spec ⟨g.H,λ_=>g.γ l⟩ W _ aR.sub (YW I) N;unfold wpOp;simp only[ho,gV,hg,cj];refine .inl ?_;unfold nK;have hex:(execOp a.eval o).run P W= .ok (.enter f<|args.map a.eval) W:=by
   have B:=hf.call;unfold oW at B;rw[execOp,b6];cases O:P.funcs[f]? with
   |none=>rw[O]at B;simp at B
   |some fn=>
    rw[O]at B
    simp only[cz,bne_iff_ne,ne_eq]at B
    have h2:fn.body≠none:=by intro hb;rw[hb]at B;simp at B
    simp[resolve,Act.eval,Hs,invoke,callFunc,O,B.1,h2]
  rw[hex];simp only[nL];have akp:(args.map a.eval)=(args.toList.map a.eval).toArray:=A6;rw[akp];refine hc.mono ?_;rintro e W' ⟨v,g',rfl,Rw,X,p,hle,yN,rE,c⟩;simp only[hd];have kM:d<a.tmps.size:=mD;let g2:Gh:=⟨g'.H,g.γ⟩;have yR:gC G g g2:=⟨hle,λ_ _=>rfl⟩;have p:g'.γ 0=g.γ l:=p;have akq:∀b o,b<W.heap.size->g2.H b o=g.H b o:=by
   intro b o hb;by_cases L:cE (g.γ l)=ad b
   .rcases U with⟨z,_⟩|⟨b1,cap,ws,z,e2,e3,e4,e5,e6,e7,e8⟩
    .rw[z]at L;simp[cE]at L
    .rcases X with⟨A,_⟩|⟨b2,D,YX,A,w,YY,K3,YZ,Y0,e7',R⟩
     .rw[p,z]at A;simp at A
     .have h1:b1=b:=by rw[z]at L;simpa[cE]using L
      have h2:b2=b:=by rw[<-p,A]at L;simpa[cE]using L
      subst h1;rw[e8 o];subst h2;exact R o
   .exact yN b o hb L
  refine hK g2 W' _<|aR.step (chg:=λj=>j=l) (g':=g2) ⟨yR,akq,rE,c.size,?_,c.os,c.tape,c.output⟩ _ new wU mE aR.defers ?_ ?_ ?_ ?_ ?_ ?_
  .intro k hk Z;exact c.block k hk<|Z l J
  .intro t ht;have Z:d≠t:=qn;simp[im,lE Z]
  .intro j hj;subst hj;exact⟨yF,_,M⟩
  .intro t u ht;simp only[aE]at ht;split at ht
   .rename_i e;simp only[Key.s.injEq]at e;simp only[ar,Info.v.injEq]at ht;subst e;subst ht;have:=Rw.iL hf.iL (cL.refl _) g.γ;simpa[im,kM,g2]using this
   .split at ht
    .simp at ht
    .simp at ht
  .intro j b ht;simp only[aE,reduceCtorEq,bN]at ht;split at ht
   .rename_i e;simp only[Key.m.injEq]at e;simp only[ar,Info.b.injEq]at ht;subst e;subst ht;refine⟨?_,.inl ⟨aR.ew _ _ M,_,M⟩⟩;rcases X with⟨A,w⟩|⟨b2,D,YX,A,w,YY,K3,YZ,Y0,e7',R⟩
    .exact .inl ⟨by show g.γ l=_;rw[<-p,A],w⟩
    .refine .inr ⟨b2,D,YX,by show g.γ l=_;rw[<-p,A],w,YY,K3,YZ,Y0,?_,R⟩;exact(U.block (k:=b2)<|by rw[<-p,A];rfl).1
   .simp at ht
  .intro k y ht;simp only[aE]at ht;split at ht
   .simp only[ar]at ht;subst ht;intro l q;simp only[Info.ak]at q;rw[hf.iL]at q;cases q
   .split at ht
    .simp only[ar]at ht;subst ht;intro l q;simp[Info.ak,aG.ak]at q
    .simp at ht
  .intro j y ht;simp only[aE,reduceCtorEq,bN]at ht;split at ht
   .rename_i e;simp only[Key.m.injEq]at e;exact .inl<|e▸aR.ew _ _ M
   .simp at ht
 .intro kx C;rcases bg.1 C with C|C
  .let ⟨x,_,dj⟩:=jb.1 C;exact eD st x kx dj
  .exact kr st [l] kx C
 .intro k hk;simp only[dI,fM,bg]at hk;rcases hk with dj|dj
  .exact eH _<|eO st _ k dj
  .exact gD _<|ku st [l] k dj
def aks{n}{g}{a}{A i}{d f:Y}{args}{o}{M}{pos}{p}{B}{t}{mem}{u}{v}{H}{Q:St->Prop}{vs}{k}{x}{T}{xs l}{L}
  (U:jU ⟨t,mem,u,v⟩ args.toList=ad (vs.map<|HJ k)) (W:S k mem=ad (.vec x T xs)) (hf:ui P f vs x T xs L l) (dj:RG P n g a A (i+1) B ⟨(d,L)::t,(k,.vec x T l)::mem,u,v⟩ (ia a H (bK args.toList++cV [k],[.s d,.m k])) Q) (y:dy d n=ae:=by rfl):
  RG P n g a A i (⟨ad d,.call ⟨.value<|.func f,args,o⟩,M,pos,p,none⟩::B) ⟨t,mem,u,v⟩ H Q:=
 nc (λC=>ako C J J (c8 y) J U W hf) (nh dj)
def akt(di:cq P tt=ae){n L}{M}{i}{o:a4}(ho:M[i]? =ad o)(hg:o.guard=none){d:Y}(hd:o.dst=ad d)(dz:d<n){t}{x y A}(b6:o.op= .slice t x (ad y) (ad A) none)
 {st}{p}{cC}{T:ET} {xs:V T.den} {k1 k2:m6} {a U:G} (hx:st.ev x=ad (.c<|.X p)) (hl:S p st.mem=ad (.vec cC T xs)) (hlo:st.ev y=ad (.c<|.I k1 a)) (Ry:st.ev A=ad (.c<|.I k2 U)) (hT:T.n=1) (rJ:tN tt t 1=ae)
  {u v:Y} (ea:a=(u:G)) (eb:U=(v:G)) (huv:u<v) (hv:v<=Z xs):kT P n M i st (st.put d<|.c<|.W p u<|v-u) L (bK [x,y,A]++cV [p],[.s d]):=by
 refine⟨(cJ st x++(cJ st y++cJ st A))++fL st [p],[(.s d,ad<|.v<|.c<|.W p u<|v-u)],?_,?_,oS st d _,?_,λk hk=>jG⟩
 .refine sO ho hg hd dz _ _ L ?_;intro F q σ g W H f B;have r:H.eval x=g.γ p:=dA f st x _ hx<|λkx b7=>B kx ef;have w:H.eval y= .int k1 a:=dA f st y _ hlo<|λkx b7=>B kx ef;have z:H.eval A= .int k2 U:=dA f st A _ Ry<|λkx b7=>B kx ef;have D:=sM f st x _ hx<|λkx b7=>B kx ef;have N:σ (.m p)=ad (.b<|.vec cC T xs):=B (.m p,.b<|.vec cC T xs) qm;let ⟨e,i',R,Y1,hs⟩:=AR di rJ;rcases f.cX p _ N with⟨_,h0⟩|⟨bb,l,vs,Q,_,_,tR,_⟩
  .subst h0;simp at hv;omega
  .refine⟨λj hj=>D j Qs,.slice (ad ⟨bb,u,none⟩) (v-u) (l-u),?_,bb,l-u,by rw[Q];rfl,J,O⟩;have K:execOp H.eval o=(do pure (.value<|<-Instr.sliceAt t (H.eval x) ((ad y).map H.eval) ((ad A).map H.eval) (none.map H.eval))):=vA;have Bs:(tP ae (Z xs) l (ad<|.int k1 a) (ad<|.int k2 U) none).run P W= .ok (u,v,l) W:=by have c1:v<=l:=O;have c2:u<=v:=O;subst ea eb;simp[tP,Instr.sliceBound,asIntOf,c1,c2,Sem.run,pure]
   have gM:¬l=u:=O;rw[K];simp only[vG,Option.map_none,r,w,z,Q,Instr.sliceAt,dn,run_underlying R,dx,Instr.slice,Bs,run_sizeOf Y1,hs];simp[gM,lF,Sem.run,pure]
 .intro kx b7;rcases bg.1 b7 with h|h
  .rcases bg.1 h with h|h
   .exact eD _ x kx h
   .rcases bg.1 h with h|h
    .exact eD _ y kx h
    .exact eD _ A kx h
  .exact kr _ [p] kx h
 .intro k hk;simp only[dI,fM,bg]at hk;rcases hk with(h|h|h)|h
  .exact eH _<|eO st [x,y,A] k tV
  .exact eH _<|eO st [x,y,A] k vD
  .exact eH _ (eO st [x,y,A] k (by simp only[dI,lG,fM,bg];exact .inr<|.inr<|.inl h))
  .exact gD _<|ku st [p] k h
def Y2{g:Gh}(T:ET):∀(xs:V T.den)(vs:V aV),aW g (xs.flatMap<|av T) vs->Z vs=Z xs*T.n/\∀i(d:i<Z xs),cZ g.H T xs[i] ((aA (i*T.n) vs).take T.n)
 |[],vs,d=>by have d:vs=[]:=d;subst d;exact⟨az,λi d=>by simp at d⟩
 |x::xs,vs,d=>by
  rw[lG]at d;obtain⟨a,b,rfl,l,m⟩:=Gn d;have k:=AG T x a l;have f:=cZ.length T _ _ k;let ⟨hl,hc⟩:=Y2 T xs b m;refine⟨by simp[f,hl,gO];omega,λi o=>?_⟩;cases i with
  |zero=>
   simp only[sU,qu,vu]
   rw[<-f,List.take_left']
   .exact k
   .rfl
  |succ i=>
   simp only[AU]
   have:=hc i (by simpa using o)
   rw[show(i+1)*T.n=Z a+i*T.n by rw[gO,f];omega,<-qp,List.drop_left']
   .exact this
   .rfl
def akv(di:cq P tt=ae){n new}{ops}{i}{o:a4}(ho:ops[i]? =ad o)(hg:o.guard=none){d:Y}(hd:o.dst=ad d)(dz:d<n){x y}{t1 t2}(b6:o.op= .call ⟨.builtin .copy,#[x,y],#[t1,t2]⟩)
 {st}{l}{M E1:dX} {T}{xs f:V T.den} {ei:TI} (hx:st.ev x=ad (.c<|.X l)) (hl:S l st.mem=ad (.vec M T xs)) (hy:st.ev y=ad (.c<|.S T f)) (hT:yY tt t1 t2=ad (E1,ei)) (vB:ei.size=T.n) (hle:Z f<=Z xs) (p:xs≠[]):
  kT P n ops i st ((st.pm l<|.vec M T<|f++aA (Z f) xs).put d<|.c<|.I .i64<|Z f) new (bK [x,y]++cV [l],[.s d,.m l]):=by
 refine⟨(cJ st x++cJ st y)++fL st [l],[(.s d,ad<|.v<|.c<|.I .i64<|Z f),(.m l,ad<|.b<|.vec M T<|f++aA (Z f) xs)],?_,?_,DI st d l _ _,?_,λk hk=>jG⟩
 .intro F kO Q known σ g W a K D aR U hK;have hT:=Lw di hT;rw[vB]at hT;have sW:a.eval x=g.γ l:=dA aR st x _ hx<|λkx b7=>U kx ef;have uc:=dA aR st y _ hy<|λkx b7=>U kx ef;have A:σ (.m l)=ad (.b<|.vec M T xs):=U (.m l,.b<|.vec M T xs) qm;let ⟨e2,iZ⟩:=hT.u2;let ⟨inf,z,G,N,DZ,xd,ua⟩:=hT.info;let ⟨us,H,xj,rI,xk⟩:=Bj (P:=P) (st:=st) (sz:=T.n) (y:= .c<|.S T f) (m:=Z f) (cs:=f.flatMap<|av T) (ids:=[]) aR (by simp[ud]) uc (λl B=>by cases B) iZ<|jS.2<|XX f;let ⟨q,huc⟩:=Y2 T f us xj;rcases aR.cX l _ A with⟨_,h0⟩|⟨b,cap,vs,r,hh,R,tR,hlen,hr,hN,hz⟩
  .exact absurd h0 p
  have Lm:Z us<=Z vs:=by rw[q,R];exact eC _ O
  have rJ:=AW (P:=P) b us W vs 0 0 hh O xk;simp only[jy]at rJ;have jc:(Builtin.copy_ #[t1,t2] o.type #[a.eval x,a.eval y]).run P W= .ok (.int .i64<|Z f) (jo W b (c9 vs us 0) M):=by rw[sW,r];have QX:Nat.min (Z f) (Z xs)=Z f:=oh hle;have hc:=H.cells;simp[Builtin.copy_,run_underlying hT.u1,sizeOf,typeInfo,G,H.len,QX,N,hc,rJ,goInt,Sem.run,pure]
  have hex:(execOp a.eval o).run P W= .ok (.value<|.int .i64<|Z f) (jo W b (c9 vs us 0) M):=by refine DY b6<|λcs=>?_;have e:(#[x,y]:Array eI).map a.eval= #[a.eval x,a.eval y]:=az;rw[e];simp only[Go.builtin,dn,jc,dx];rfl
  unfold wpOp;simp only[ho,gV,hg,cj];refine .inl ?_;unfold nK;rw[hex];simp only[nL,hd];have kM:d<a.tmps.size:=mD;have hb:b<W.heap.size:=(gL.1 hh).1;have w:Z (f++aA (Z f) xs)=Z xs:=b8;refine hK g _ _<|aR.step (chg:=λj=>j=l) (g':=g) ⟨⟨cL.refl _,λ_ _=>rfl⟩,λ_ _ _=>rfl,AX aR.sub hz,AZ,?_,J,J,J⟩ _ new D mE aR.defers ?_ ?_ ?_ ?_ ?_ ?_
  .intro k' yH p;have:b≠k':=λe=>p l J (by rw[r,e];rfl)
   exact yC this
  .intro t ht;have p:d≠t:=qn;simp[im,lE p]
  .intro j L;subst L;exact⟨yF,_,A⟩
  .intro t u ht;simp only[aE]at ht;split at ht
   .rename_i e;simp only[Key.s.injEq]at e;simp only[ar,Info.v.injEq]at ht;subst e;subst ht;simp[im,kM,bu,c7]
   .split at ht
    .simp at ht
    .simp at ht
  .intro j bk L;simp only[aE,reduceCtorEq,bN]at L;split at L
   .rename_i e';simp only[Key.m.injEq]at e';subst e';simp only[ar,Info.b.injEq]at L;subst L;refine⟨.inr ⟨b,cap,c9 vs us 0,by rw[w];exact r,yB hb,?_,by rw[w];exact tR,by rw[w];exact hlen,λj L=>?_,hN,hz⟩,.inl ⟨aR.ew _ _ A,_,A⟩⟩
    .rw[yD _ _ _ O];exact R
    .have Bk:c9 vs us 0=us++aA (Z us) vs:=by simp[c9]
     rw[Bk];by_cases vp:j<Z f
     .rw[wX vp];have h1:=huc j vp;have h2:j*T.n+T.n<=Z us:=by rw[q,(GG:j*T.n+T.n=(j+1)*T.n)];exact eC _ O
      rw[AY O,wY b8];exact h1
     .have Hh:j<Z xs:=by omega
      rw[List.getElem_append_right O,tQ];have h1:=hr j Hh;have e1:Z f+(j-Z f)=j:=O;have h3:Z us<=j*T.n:=by rw[q];exact eC _ O
      have e2:aA (j*T.n) (us++aA (Z us) vs)=aA (j*T.n) vs:=by rw[List.drop_append,tU h3,tS,qp,(O:Z us+(j*T.n-Z us)=j*T.n)]
      rw[e2];simp only[e1];exact h1
   .simp at L
  .intro k y ht;simp only[aE]at ht;split at ht
   .simp only[ar]at ht;subst ht;intro l B;simp[Info.ak,AV.ak,C.ak]at B
   .split at ht
    .simp only[ar]at ht;subst ht;intro l B;simp[Info.ak,aG.ak]at B
    .simp at ht
  .intro j y ht;simp only[aE,reduceCtorEq,bN]at ht;split at ht
   .rename_i e;simp only[Key.m.injEq]at e;exact .inl<|e▸aR.ew _ _ A
   .simp at ht
 .intro kx b7;rcases bg.1 b7 with h|h
  .rcases bg.1 h with h|h
   .exact eD _ x kx h
   .exact eD _ y kx h
  .exact kr _ [l] kx h
 .intro k hk;simp only[dI,fM,bg]at hk;rcases hk with(h|h)|h
  .exact eH _<|eO st [x,y] k tV
  .exact eH _<|eO st [x,y] k vD
  .exact gD _<|ku st [l] k h
end
section
variable{n:Y}{sl cr:V (Y×AV)}{mem cp:V (Y×aG)}{nx:Y}{gd cD:V (Y×Bool)}{ops:Array a4}{draw:Bool}{p:Pr}{ks dJ:V Ks}{i i' n0 cF:Y}{os dS:V a4}{d:Y}{ty:dX}{pos:String}{iM:Array Edge}{R:St->Prop}
def y6 id{f}{args}{g}{vs}{k}{T}{xs a}{o}(u:runs dY n nx draw ops.toList os i ⟨sl,mem,n0,gd⟩ .t ks=(⟨ad d,.call ⟨.value<|.func f,args,g⟩,ty,pos,iM,none⟩::dS,i',⟨cr,cp,cF,cD⟩,p,dJ))(v:ui q f vs k T xs o a)(x:jU ⟨cr,cp,cF,cD⟩ args.toList=ad (vs.map<|HJ id))(y:S id cp=ad (.vec k T xs))
  (A:RG q n ops draw nx (i'+1) dS ⟨(d,o)::cr,(id,.vec k T a)::cp,cF,cD⟩ (ia draw dJ (bK args.toList++cV [id],[.s d,.m id])) R)
  (hp:p:=by exact mb) (l:dy d n=ae:=by rfl):RG q n ops draw nx i os ⟨sl,mem,n0,gd⟩ ks R:=
 kU cv u hp (aks x y v A l)
def Y3(u v:Y){t}{x g k}{f}{H}{T}{xs}{L M}{a B}(P:runs dY n nx draw ops.toList os i ⟨sl,mem,n0,gd⟩ .t ks=(⟨ad d,.slice t x (ad g) (ad k) none,ty,pos,iM,none⟩::dS,i',⟨cr,cp,cF,cD⟩,p,dJ))
  (Q:St.ev ⟨cr,cp,cF,cD⟩ x=ad (.c<|.X f)) (U:S f cp=ad (.vec H T xs)) (l:St.ev ⟨cr,cp,cF,cD⟩ g=ad (.c<|.I L a)) (m:St.ev ⟨cr,cp,cF,cD⟩ k=ad (.c<|.I M B)) (ea:a=(u:G)) (eb:B=(v:G)) (o:u<v) (hv:v<=Z xs)
  (hk:RG q n ops draw nx (i'+1) dS ⟨(d,.c<|.W f u<|v-u)::cr,cp,cF,cD⟩ (ia draw dJ (bK [x,g,k]++cV [f],[.s d])) R) (hT:T.n=1:=by rfl) (y:tN dY t 1=ae:=by rfl)
  (hp:p:=by exact mb) (A:dy d n=ae:=by rfl):RG q n ops draw nx i os ⟨sl,mem,n0,gd⟩ ks R:=
 kU cv P hp (nc (λC=>akt cv C J J (c8 A) J Q U l m hT y ea eb o hv)<|nh hk)
def LR{x y}{u v}{a}{A H:dX}{T}{xs f}{B}(L:runs dY n nx draw ops.toList os i ⟨sl,mem,n0,gd⟩ .t ks=(⟨ad d,.call ⟨.builtin .copy,#[x,y],#[u,v]⟩,ty,pos,iM,none⟩::dS,i',⟨cr,cp,cF,cD⟩,p,dJ))
  (M:St.ev ⟨cr,cp,cF,cD⟩ x=ad (.c<|.X a)) (P:S a cp=ad (.vec A T xs)) (Q:St.ev ⟨cr,cp,cF,cD⟩ y=ad (.c<|.S T f)) (U:yY dY u v=ad (H,B)) (g:Z f<=Z xs) (k:xs≠[])
  (W:RG q n ops draw nx (i'+1) dS ⟨(d,.c<|.I .i64<|Z f)::cr,(a,.vec A T<|f++aA (Z f) xs)::cp,cF,cD⟩ (ia draw dJ (bK [x,y]++cV [a],[.s d,.m a])) R) (l:B.size=T.n:=by rfl)
  (hp:p:=by exact mb) (o:dy d n=ae:=by rfl):RG q n ops draw nx i os ⟨sl,mem,n0,gd⟩ ks R:=
 kU cv L hp (nc (λC=>akv cv C J J (c8 o) J M P Q U l g k)<|nh W)
end
def vR(a:V G):r q 188 [cS aq a] (cS aq<|aN a):=by
 refine aI Tryz.func188<|vJ 0 J λo=>?_;simp only[ET.n,qB]at o;refine rr J<|rr J ?_;refine j<|au<|a8 (α:=Y) (λk=>⟨[(0,cS aq a),(3,cI k)],[],2,[]⟩) (λk=>k<=Z a/\gk a k=gk a (Z a)) (λk=>k) (Z a) ⟨aO _,J⟩ aM ?_;rintro k ⟨s,d⟩;have g:∀v,k=0\/E a (k-1) 0≠0->v=c k a->bl (cS aq v) (cS aq<|aN a):=by
  intro v i f;refine bl.of_eq ?_;subst f;unfold aN;rw[<-d];cases k with
  |zero=>rfl
  |succ k=>
   rcases i with i|i
   .omega
   .simp only[eK]at i;simp only[gk,i,bN]
 refine j<|rb ?_;refine rg 8 J J (λm=>?_)<|λm=>?_
 .simp at m;refine re J (al J (λf=>?_)<|λf=>?_)
  .refine aD (au<|rt J<|eE<|aT (k-1) ⟨O,?_⟩ (O:k-1<k)<|wk ⟨sR J,sE J ?_,h⟩ h)
   .rw[<-d];obtain⟨l,rfl⟩:∃l,k=l+1:=⟨k-1,O⟩;have p:E a l 0=0:=by have:af (((l+1:Y):G)-1)=l:=O;simpa[this]using f
    simp only[eK,gk,p,cj]
   .congr 2;omega
  .refine a7 (aL<|rr J<|bL<|ig cv J<|g _ (.inr ?_) ?_)
   .have:af ((k:G)-1)=k-1:=by omega
    simpa[this]using f
   .simp
 .simp at m;subst m;refine re J<|al J (λf=>by simp at f)<|λ_=>?_;exact a7<|aL<|rr J<|bL<|ig cv J<|g _ (.inl J) J
def y7(a:V G):r q 163 [cS aq a] (cS aq<|aN a):=by
 refine aI Tryz.func163<|vJ 0 J λo=>?_;simp only[ET.n,qB]at o;refine rr J<|rr J ?_;refine j<|au<|a8 (α:=Y) (λk=>⟨[(0,cS aq a),(3,cI k)],[],2,[]⟩) (λk=>k<=Z a/\gk a k=gk a (Z a)) (λk=>k) (Z a) ⟨aO _,J⟩ aM ?_;rintro k ⟨s,d⟩;have g:∀v,k=0\/E a (k-1) 0≠0->v=c k a->bl (cS aq v) (cS aq<|aN a):=by
  intro v i f;refine bl.of_eq ?_;subst f;unfold aN;rw[<-d];cases k with
  |zero=>rfl
  |succ k=>
   rcases i with i|i
   .omega
   .simp only[eK]at i;simp only[gk,i,bN]
 refine j<|rb ?_;refine rg 8 J J (λm=>?_)<|λm=>?_
 .simp at m;refine re J (al J (λf=>?_)<|λf=>?_)
  .refine aD (au<|rt J<|eE<|aT (k-1) ⟨O,?_⟩ (O:k-1<k)<|wk ⟨sR J,sE J ?_,h⟩ h)
   .rw[<-d];obtain⟨l,rfl⟩:∃l,k=l+1:=⟨k-1,O⟩;have p:E a l 0=0:=by have:af (((l+1:Y):G)-1)=l:=O;simpa[this]using f
    simp only[eK,gk,p,cj]
   .congr 2;omega
  .refine a7 (aL<|rr J<|bL<|ig cv J<|g _ (.inr ?_) ?_)
   .have:af ((k:G)-1)=k-1:=by omega
    simpa[this]using f
   .simp
 .simp at m;subst m;refine re J<|al J (λf=>by simp at f)<|λ_=>?_;exact a7<|aL<|rr J<|bL<|ig cv J<|g _ (.inl J) J
def wrap_u32 n(a:0<=n)(d:n<4294967296):ay .u32 n=n:=by simp[ay,IntKind.bits,Eo];omega
def wrap_u64 n(a:0<=n)(d:n<18446744073709551616):ay .u64 n=n:=by simp[ay,IntKind.bits,Eo];omega
def Y4 m(d:m<18446744073709551616):aN [((m%4294967296:Y):G),((m/4294967296:Y):G)]=ao m:=by have a:bT [((m%4294967296:Y):G),((m/4294967296:Y):G)]:=yr.mpr ⟨O,yr.mpr ⟨O,PT⟩⟩;rw[oN a];congr 1;simp only[val];omega
def Ep(m:Y)(a:m<18446744073709551616):r q 136 [cU m] (cS aq<|ao m):=by
 refine aI Tryz.func136 ?_;refine rr J<|rb ?_;have d:ay .u32 ((m:G).tmod 4294967296)=((m%4294967296:Y):G):=by rw[wrap_u32]<;>(rw[me O];omega)
 have f:ay .u32 (ay .u64<|(m:G).tdiv 4294967296)=((m/4294967296:Y):G):=by
  have:(m:G).tdiv 4294967296=((m/4294967296:Y):G):=by rw[uj O];omega
  rw[this,wrap_u64 _ O O,wrap_u32 _ O O]
 refine rl aq [_,_] J J ?_;refine rc J J (y7 _) ?_;refine re J<|bU J ?_;rw[d,f,Y4 m a]
def akx neg(d:V G):r q 135 [cB neg,cS aq d] (.a [.B (neg&&decide (0<Z (aN d))),.S aq<|aN d]):=by
 refine aI Tryz.func135 ?_;refine rr J<|rb ?_;refine rc J J (y7 _) ?_;refine re J<|rb ?_;refine rg 9 J J (λh=>?_)<|λh=>?_
 .refine re J<|bU J ?_;subst h;have e:decide ((Z (aN d):G)>0)=(ae&&decide (0<Z (aN d))):=az;exact be (λb=>AV.a [C.B b,C.S aq<|aN d]) e
 .refine re J<|bU J ?_;subst h;rfl
def Bt ws(i:Y)(a:bT ws):r q 182 [cS aq ws,cI i] (cU<|E ws i 0):=by
 refine aI Tryz.func182 ?_;refine rr J<|j<|rr J ?_;have:=dt a i;refine al J (λh=>?_)<|λh=>?_
 .simp at h;refine rr J<|bL<|cK<|eJ J ?_;have e:ay .u64 (E ws (af (i:G)) 0)=E ws i 0:=by rw[bY,wrap_u64 _ this.1 O]
  exact bP e
 .simp at h;refine aD<|rr J<|bU J ?_;have e:E ws i 0=0:=by simp[aK,iX h]
  rw[e];rfl
def dR(a d:G):G:=if a<d then-1 else if d<a then 1 else 0
def aky a d(o:bT a)(p:bT d)(y:can a)(A:can d):r q 144 [cS aq a,cS aq d] (cI<|dR (val a)<|val d):=by
 refine aI Tryz.func144<|vJ 0 J λt=>vJ 1 J λu=>?_;simp only[ET.n,qB]at t u;refine rr J<|du<|rr J ?_;refine al J (λh=>?_)<|λh=>?_
 .simp at h;refine rr J<|bL<|cK<|eJ J ?_;rw[dR,b<|Kc o p A h];rfl
 .simp at h;refine aD<|du<|rr J ?_;refine al J (λs=>?_) (λs=>?_)
  .simp at s;refine rr J<|bL<|cK<|eJ J ?_;have:=Kc p o y s;rw[dR,w O,b this];rfl
  .simp at s;have v:Z a=Z d:=O;refine aD<|du<|rr J ?_;refine au<|a8 (α:=Y) (λk=>⟨[(0,cS aq a),(1,cS aq d),(5,cI<|(k:G)-1)],[],4,[]⟩) (λk=>k<=Z a/\aA k a=aA k d) (λk=>k) (Z a) ⟨aO _,by simp[v]⟩ aM ?_;rintro k ⟨C,i⟩;refine du<|rr J ?_;refine al J (λx=>?_) (λx=>?_)
   .simp at x;obtain⟨j,rfl⟩:∃j,k=j+1:=⟨k-1,O⟩;have B:(((j+1:Y):G)-1)=j:=O;have g:j<Z a:=O;rw[B];refine aD<|du<|au<|du<|rr J ?_;refine al J (λl=>?_) (λl=>?_)
    .simp at l;refine rr J<|bL ?_;repeat(first|refine cK ?_|refine kX ?_|refine lI ?_)
     refine eJ J ?_;rw[dR,b<|Kd o p j i v g l];rfl
    .have l:¬(E a j 0<E d j 0):=by simpa using l
     refine aD<|rr J ?_;refine al J (λm=>?_)<|λm=>?_
     .simp at m;refine rr J<|bL ?_;repeat(first|refine cK ?_|refine kX ?_|refine lI ?_)
      refine eJ J ?_;have:=Kd p o j i.symm v.symm O m;rw[dR,w O,b this];rfl
     .have m:¬(E a j 0>E d j 0):=by simpa using m
      refine cP<|bw<|rt J<|aT j ⟨O,?_⟩ s8 aM;have e:E a j 0=E d j 0:=O;have f:j<Z d:=O;rw[rK g,rK f,i];simp only[aK,cO g,cO f,rh]at e;rw[e]
   .simp at x;have:k=0:=O;subst this;refine a7<|aL<|rr J<|bL ?_;repeat(first|refine cK ?_|refine kX ?_|refine lI ?_)
    refine eJ J ?_;simp only[qu]at i;rw[i,dR,w O,w O];rfl
def uk o i a(d:G)(f:i<Z o):(o.set i d).getD a 0=if i=a then d else E o a 0:=by
 simp only[aK,Rz];by_cases e:i=a
 .subst e;simp[f]
 .simp[e]
def HK o i a(d:i<Z o)(f:E o i 0=0):val (o.set i a)=val o+a*4294967296^i:=by rw[PV o i a d,f];simp
structure Er(a b:V G)(m:Y)(x:Y×V G×G):Prop where
 i:x.1<=m
 len:x.2.1.length=m
 r:bT x.2.1
 z:∀d,x.1<=d->x.2.1.getD d 0=0
 c0:0<=x.2.2
 c1:x.2.2<=1
 v:val x.2.1+x.2.2*4294967296^x.1=val (a.take x.1)+val (b.take x.1)
def Er.next{a f}{m}{x}(d:Er a f m x)(g:x.1<m)(k:bT a)(l:bT f):Er a f m (x.1+1,x.2.1.set x.1<|(E a x.1 0+E f x.1 0+x.2.2)%4294967296,(E a x.1 0+E f x.1 0+x.2.2)/4294967296):=by
 have p:=dt k x.1;have t:=dt l x.1;have u:=d.c0;have y:=d.c1;refine⟨g,by simp[d.len],yu d.r _ ⟨O,O⟩,?_,(by show 0<=_/_;omega),(by show _/_<=1;omega),?_⟩
 .intro j i;simp only at i;rw[uk _ _ _ _ (by rw[d.len];exact g),w O];exact d.z j O
 .simp only;rw[HK _ _ _ (by rw[d.len];exact g) (d.z _<|aO _),km,km,fK];have n:=d.v;generalize (4294967296:G)^x.1=q at n⊢;generalize ht:E a x.1 0+E f x.1 0+x.2.2=s;have o:s%4294967296+s/4294967296*4294967296=s:=O;have:val x.2.1=val (c x.1 a)+val (c x.1 f)-x.2.2*q:=O;rw[this];have e:s%4294967296*q+s/4294967296*(q*4294967296)=s*q:=by rw[show s/4294967296*(q*4294967296)=s/4294967296*4294967296*q by grind,<-nI,o]
  have A:s*q=E a x.1 0*q+E f x.1 0*q+x.2.2*q:=by rw[<-ht];grind
  omega
def Y5(x y:Y):(if(y:G)>x then(y:G)else x)=((max x y:Y):G):=by
 by_cases h:(y:G)>x
 .rw[b h];omega
 .rw[w h];omega
def akz a d(p:bT a)(t:bT d)(la:Z a<=1099511627776)(lb:Z d<=1099511627776):r q 143 [cS aq a,cS aq d] (cS aq<|ao<|af<|val a+val d):=by
 refine aI Tryz.func143 ?_;refine rr J<|rr J<|rb ?_;refine rm aq (max (Z a) (Z d)+1) J J J J J J (mI .u32) ?_ ?_ ?_ ?_
 .rw[Y5];rfl
 .show _*4<=_;omega
 .show _*1<=_;omega
 refine re J<|rr J<|j<|rr J ?_;generalize hM:max (Z a) (Z d)+1=M;refine au<|a8 (α:=Y×V G×G) (λx=>⟨[(0,cS aq a),(1,cS aq d),(5,cI M),(6,.c<|.X 2001000),(7,cU x.2.2),(8,cI x.1)],[(2001000,.vec 142 aq x.2.1)],5,[]⟩) (Er a d M) (λx=>M-x.1) (0,bc M 0,0) ?_ ?_ ?_
 .refine⟨aY _,az,rf M,?_,hO _,HL,Bu⟩;intro I _;simp only[aK,lM];split<;>rfl
 .refine wk ⟨sR J,sR J,sE J ?_,sR J,sR J,sR J,h⟩ ⟨bR J,h⟩;rw[Y5,<-hM];congr 2
 .rintro⟨i,o,f⟩ g;have y:Z o=M:=g.len;have C:0<=f:=g.c0;have H:f<=1:=g.c1;have N:=dt p i;have R:=dt t i;refine j<|rr J ?_;refine al J (λk=>?_) (λk=>?_)
  .have k:i<M:=by simpa using k
   refine aD<|j<|au<|rb ?_;refine rc J J (Bt a i p)<|rc J J (Bt d i t)<|re J ?_;have K:ay .u64 (ay .u64 (E a i 0+E d i 0)+f)=E a i 0+E d i 0+f:=by rw[wrap_u64 (E a i 0+E d i 0) O O,wrap_u64 _ O O]
   rw[K];generalize ht:E a i 0+E d i 0+f=s;have L:ay .u32 (s.tmod 4294967296)=s%4294967296:=by rw[me O,wrap_u32 _ O O]
   have P:ay .u64 (s.tdiv 4294967296)=s/4294967296:=by rw[uj O,wrap_u64 _ O O]
   have A:=g.next k p t;simp only[ht]at A;refine rr J<|rt J<|bw<|rt J<|aT (i+1,o.set i<|s%4294967296,s/4294967296) A xp<|wk ⟨sR J,sR J,sR J,sR J,sE J ?_,sE J ?_,h⟩ ⟨bE J ?_,h⟩
   .exact bP P
   .rfl
   .rw[L,bY]
  .have k:¬i<M:=by simpa using k
   have Q:i=M:=by have:=g.i;simp only at this;omega
   refine a7<|aL<|cY 2001000 J J J<|rb ?_;refine rc J J (y7 _)<|re J<|bU J ?_;have l:=g.v;simp only at l;have u:bT o:=g.r;have T:=m8 u;have U:=l0 u;have m:val (c i a)=val a:=mA a i O;have n:val (c i d)=val d:=mA d i O;have W:=m8 p;have e:=m8 t;have S:(4294967296:G)^Z a<=4294967296^(M-1):=tJ O;have pb:(4294967296:G)^Z d<=4294967296^(M-1):=tJ O;have w:(4294967296:G)^M=4294967296^(M-1)*4294967296:=by rw[<-fK];congr 1;omega
   have B:=jF<|M-1;have z:f=0:=by
    rw[m,n,Q,w]at l;rcases Int.lt_or_le f 1 with D|F
    .omega
    .have:f=1:=by omega
     subst this;omega
   rw[oN u];subst z;rw[m,n]at l;simp only[nq,rL]at l;rw[l]
structure HM(a b:V G)(m:Y)(x:Y×V G×G):Prop where
 i:x.1<=m
 len:x.2.1.length=m
 r:bT x.2.1
 z:∀d,x.1<=d->x.2.1.getD d 0=0
 c0:0<=x.2.2
 c1:x.2.2<=1
 v:val x.2.1-x.2.2*4294967296^x.1=val (a.take x.1)-val (b.take x.1)
def HM.next{a f}{m}{x}(d:HM a f m x)(g:x.1<m)(k:bT a)(l:bT f):HM a f m (x.1+1,x.2.1.set x.1<|(4294967296+E a x.1 0-E f x.1 0-x.2.2)%4294967296,1-(4294967296+E a x.1 0-E f x.1 0-x.2.2)/4294967296):=by
 have p:=dt k x.1;have t:=dt l x.1;have u:=d.c0;have y:=d.c1;refine⟨g,by simp[d.len],yu d.r _ ⟨O,O⟩,?_,(by show 0<=1-_/_;omega),(by show 1-_/_<=1;omega),?_⟩
 .intro j i;simp only at i;rw[uk _ _ _ _ (by rw[d.len];exact g),w O];exact d.z j O
 .simp only;rw[HK _ _ _ (by rw[d.len];exact g) (d.z _<|aO _),km,km,fK];have n:=d.v;generalize (4294967296:G)^x.1=q at n⊢;generalize ht:4294967296+E a x.1 0-E f x.1 0-x.2.2=s;have o:s%4294967296+s/4294967296*4294967296=s:=O;have:val x.2.1=val (c x.1 a)-val (c x.1 f)+x.2.2*q:=O;rw[this];have e:s%4294967296*q+s/4294967296*(q*4294967296)=s*q:=by rw[show s/4294967296*(q*4294967296)=s/4294967296*4294967296*q by grind,<-nI,o]
  have A:s*q=4294967296*q+E a x.1 0*q-E f x.1 0*q-x.2.2*q:=by rw[<-ht];grind
  have B:(1-s/4294967296)*(q*4294967296)=4294967296*q-s/4294967296*(q*4294967296):=by grind
  omega
def akA a d(A:bT a)(t:bT d)(hl:Z d<=Z a)(H:val d<=val a)(la:Z a<=1099511627776):r q 145 [cS aq a,cS aq d] (cS aq<|ao<|af<|val a-val d):=by
 refine aI Tryz.func145 ?_;refine rr J<|rb ?_;refine rm aq (Z a) J J J J J J (mI .u32) J ?_ ?_ ?_
 .show _*4<=_;omega
 .show _*1<=_;omega
 refine re J<|rr J<|j<|rr J ?_;generalize hM:Z a=M;refine au<|a8 (α:=Y×V G×G) (λx=>⟨[(0,cS aq a),(1,cS aq d),(5,.c<|.X 1002000),(6,cU x.2.2),(7,cI x.1)],[(1002000,.vec 142 aq x.2.1)],4,[]⟩) (HM a d M) (λx=>M-x.1) (0,bc M 0,0) ?_ ?_ ?_
 .refine⟨aY _,az,rf M,?_,hO _,HL,Bu⟩;intro D _;simp only[aK,lM];split<;>rfl
 .exact wk (bO J) ⟨bR J,h⟩
 .rintro⟨i,o,f⟩ g;have l:Z o=M:=g.len;have K:0<=f:=g.c0;have L:f<=1:=g.c1;have F:=dt A i;have I:=dt t i;refine j<|rr J ?_;refine al J (λk=>?_) (λk=>?_)
  .have k:i<M:=by simpa[hM]using k
   refine aD<|j<|au<|rb ?_;refine rc J J (Bt d i t)<|re J ?_;have P:ay .u64 (ay .u64 (ay .u64 (4294967296+ay .u64 (E a (af (i:G)) 0))-E d i 0)-f)=4294967296+E a i 0-E d i 0-f:=by rw[bY,wrap_u64 (E a i 0) O O,wrap_u64 (4294967296+E a i 0) O O,wrap_u64 (4294967296+E a i 0-E d i 0) O O,wrap_u64 _ O O]
   simp only[P];generalize ht:4294967296+E a i 0-E d i 0-f=s;have Q:ay .u32 (s.tmod 4294967296)=s%4294967296:=by rw[me O,wrap_u32 _ O O]
   have T:ay .u64 (1-ay .u64 (s.tdiv 4294967296))=1-s/4294967296:=by rw[uj O,wrap_u64 (s/4294967296) O O,wrap_u64 _ O O]
   have B:=g.next k A t;simp only[ht]at B;refine rr J<|rt J<|bw<|rt J<|aT (i+1,o.set i<|s%4294967296,1-s/4294967296) B xp<|wk ⟨sR J,sR J,sR J,sE J ?_,sE J ?_,h⟩ ⟨bE J ?_,h⟩
   .exact bP T
   .rfl
   .rw[Q,bY]
  .have k:¬i<M:=by simpa[hM]using k
   have U:i=M:=by have:=g.i;simp only at this;omega
   refine a7<|aL<|cY 1002000 J J J<|rb ?_;refine rc J J (y7 _)<|re J<|bU J ?_;have m:=g.v;simp only at m;have u:bT o:=g.r;have y:=m8 u;have W:=l0 u;have n:val (c i a)=val a:=mA a i O;have p:val (c i d)=val d:=mA d i O;have C:=jF M;rw[l]at y;have e:f=0:=by
    rw[n,p,U]at m;rcases Int.lt_or_le f 1 with w|z
    .omega
    .have:f=1:=by omega
     subst this;omega
   rw[oN u];subst e;rw[n,p]at m;simp only[nq,Bv]at m;rw[m]
end Go.El
