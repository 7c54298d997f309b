/- The engine, maps 1: make, look up, put in. Own work; no condition. -/
import Derived.MapKept
import Derived.Carry
import Derived.Test.YtceihkmakfdcnaaGreatProg
import Derived.KernelRfl
import Derived.Test.YtceihkmakfdcnaaGreatH3
import Derived.Test.YtceihkmakfdcnaaGreatH2
import Derived.Test.YtceihkmakfdcnaaGreatH1
set_option linter.all false
set_option maxHeartbeats 16000000
set_option maxRecDepth 100000
open Array renaming replicate->rI
open Bool renaming true->ae,false->ah
open Go renaming IntKind->lX,Value->aO,MapEntry->JO,Program->bS,Oper->aX,TypeId->dM,Operand->dS
open Go.Act renaming put->gT
open Go.Deferred renaming ofValue->FC
open Go.El renaming ar5->c,jt->S,jg->M,mH->b,vK->r
open Go.Ending renaming returned->ahj
open Go.Instr renaming findNow->sU,sameNow->Pb,build->EZ,index->JX,sliceBounds->vE
open Go.IntKind renaming wrap->aw,signed->CP
open Go.MapKept renaming run_checkKey->aha,run_findKey->Pc,run_getObj_map->Pe,run_setObj_map->ahe
open Go.Op renaming buildSlice->V4
open Go.Oper renaming wp->mO,upon->mP
open Go.Proofs.Tryz renaming prog->z
open Go.Region renaming wanted->hZ
open Go.Result renaming andThen->de
open Go.Sem renaming run_bind->cZ,run_pure->xG
open Int renaming toNat->af
open List renaming length->Z,replicate->bg,drop->az,getD->E,take->h
open Nat renaming ble->dT,blt->dj
open Option renaming some->ad
open _root_ renaming List->V,Option->ar,Int->G,Nat->Y
namespace Go.El
open Go Go.Proofs Go.RowKit
def FF(q:lX):V C->ar (V G)
 |[]=>ad []
 | .I k n::a=>if k=q then(match FF q a with
  |some l=>ad<|n::l
  |none=>none)else none
 |_::_=>none
def JN(a:Bool)(q:lX)(d:V C):ar (V G):=match FF q d with
 |some l=>(match a,l with
  |true,l=>ad l
  |false,[n]=>ad [n]
  |false,_=>none)
 |none=>none
def v8(a:Bool)(q:lX)(k:V G):V (V C×V C)->ar (ar<|V C)
 |[]=>ad none
 |x::d=>match JN a q x.1 with
  |some e=>if e=k then ad (ad x.2)else v8 a q k d
  |none=>none
def wa(d:Bool)(q:lX)(k:V G)(a vc:V C):V (V C×V C)->ar (V<|V C×V C)
 |[]=>ad [(a,vc)]
 |x::e=>match JN d q x.1 with
  |some f=>if f=k then ad ((a,vc)::e)else(match wa d q k a vc e with
   |some g=>ad<|x::g
   |none=>none)
  |none=>none
def VT{g:Gh}{q:lX}:∀{f:V C}{l:V G}{vs:V aO},FF q f=ad l->aR g f vs->vs=l.map (Value.int q)
 |[],l,vs,a,d=>by simp only[FF,au]at a;subst a;exact d
 | .I k n::s,l,vs,a,d=>by
  simp only[FF]at a;split at a
  .rename_i e;split at a
   .rename_i t i;cases a;subst e;obtain⟨v,m,rfl,o,p⟩:=d;cases o;simp[VT i p]
   .cases a
  .cases a
 | .any::_,_,_,a,_=>by cases a
 | .B _::_,_,_,a,_=>by cases a
 | .V _::_,_,_,a,_=>by cases a
 | .S _ _::_,_,_,a,_=>by cases a
 | .P _ _::_,_,_,a,_=>by cases a
 | .X _::_,_,_,a,_=>by cases a
 | .Y _ _ _ _::_,_,_,a,_=>by cases a
 | .E _ _ _::_,_,_,a,_=>by cases a
 | .M _::_,_,_,a,_=>by cases a
 | .L _ _ _ _::_,_,_,a,_=>by cases a
 | .W _ _ _::_,_,_,a,_=>by cases a
def VU{g}{q}{d}{l}{vs}(a:JN ah q d=ad l)(e:aR g d vs):∃n,l=[n]/\vs=[.int q n]:=by
 unfold JN at a;split at a
 .rename_i i f;have:=VT f e;split at a
  .contradiction
  .rename_i n _;cases a;exact⟨n,J,this⟩
  .cases a
 .cases a
def g5.length{g:Gh}{f i:Bool}:∀{n:Y}{xs:V (V C×V C)}{a:V JO},g5 g f i n xs a->Z a=Z xs
 |_,[],_,d=>by simp only[g5]at d;subst d;rfl
 |_,_::_,_,⟨e,m,k,_,_,_,l⟩=>by subst k;simp[l.length]
def g5.snoc{g:Gh}{a d:Bool}{e:JO}{x:V C×V C}(f:∃i,e.key=q5 a i/\aR g x.1 i)(k:∃vs,e.val=q5 d vs/\aR g x.2 vs):∀{n:Y}{xs:V (V C×V C)}{l:V JO},g5 g a d n xs l->e.born=n+Z xs->g5 g a d n (xs++[x]) (l++[e])
 |n,[],_,m,hb=>by simp only[g5]at m;subst m;exact⟨e,[],J,sC,f,k,J⟩
 |n,_::xs,_,⟨o,u,p,h2,q,s,t⟩,hb=>by subst p;exact⟨o,_,J,h2,q,s,g5.snoc f k t<|by simp only[gQ]at hb;omega⟩
def VV{g:Gh}{q:lX}{B:Bool}{m:G}:∀{n:Y}{xs:V (V C×V C)}{f:V JO},g5 g ah B n xs f->∀{k:ar (V C)},v8 ah q [m] xs=ad k->∀i:Y,
  match k with
  |none=>sU (.int q) (.int q m) f i=ad none
  |some vc=>∃l vs,sU (.int q) (.int q m) f i=ad (ad (i+l,q5 B vs))/\aR g vc vs
 |n,[],f,F,k,a,i=>by simp only[g5]at F;subst F;simp only[v8,au]at a;subst a;rfl
 |n,x::xs,f,⟨e,o,L,h2,⟨ks,P,s⟩,⟨vs,Q,t⟩,U⟩,k,a,i=>by
  subst L;simp only[v8]at a;split at a
  .rename_i k' W;obtain⟨p,rfl,rfl⟩:=VU W s;have d:e.key= .int q p:=P;have H:Pb (.int q) (.int q m) (.int q p)=ad (m==p):=by simp[Pb]
   split at a
   .rename_i X;cases X;cases a;refine⟨0,vs,?_,t⟩;simp[sU,d,H,Q]
   .rename_i u;have b:(m==p)=ah:=by simp only[beq_eq_false_iff_ne,ne_eq];intro c;exact u (by rw[c])
    have K:sU (.int q) (.int q m) (e::o) i=sU (.int q) (.int q m) o (i+1):=by simp[sU,d,H,b]
    have v:=VV U a<|i+1;cases k with
    |none=>simp only at v⊢;rw[K];exact v
    |some vc=>
     obtain⟨l,w,y,z⟩:=v
     exact⟨l+1,w,by rw[K,y,(O:i+1+l=i+(l+1))],z⟩
  .cases a
def VW{g:Gh}{q:lX}{B:Bool}{m:G}{kc vc:V C}{ks vs:V aO}(p:aR g kc ks)(s:ks=[.int q m])(t:aR g vc vs):∀{n:Y}{xs a:V (V C×V C)}{k:V JO},g5 g ah B n xs k->wa ah q [m] kc vc xs=ad a->∀i:Y,
  (sU (.int q) (.int q m) k i=ad none/\a=xs++[(kc,vc)])\/
  ∃l F e,sU (.int q) (.int q m) k i=ad (ad (i+l,F))/\k[l]? =ad e/\e.key= .int q m/\Z a=Z xs/\g5 g ah B n a (k.modify l λe=>{e with key:= .int q m,val:=q5 B vs})
 |n,[],a,k,U,d,i=>by simp only[g5]at U;subst U;simp only[wa,au]at d;subst d;exact .inl ⟨J,J⟩
 |n,x::xs,a,k,⟨e,o,h1,h2,⟨dx,W,u⟩,⟨H,h4,L⟩,h5⟩,d,i=>by
  subst h1;simp only[wa]at d;split at d
  .rename_i k' hk;obtain⟨v,rfl,rfl⟩:=VU hk u;have f:e.key= .int q v:=W;have X:Pb (.int q) (.int q m) (.int q v)=ad (m==v):=by simp[Pb]
   split at d
   .rename_i c;cases c;cases d;refine .inr ⟨0,e.val,e,by simp[sU,f,X],J,f,J,?_⟩;exact⟨_,o,J,h2,⟨ks,by rw[s];rfl,p⟩,⟨vs,J,t⟩,h5⟩
   .rename_i K;have r:(m==v)=ah:=by simp only[beq_eq_false_iff_ne,ne_eq];intro y;exact K (by rw[y])
    have b:sU (.int q) (.int q m) (e::o) i=sU (.int q) (.int q m) o (i+1):=by simp[sU,f,X,r]
    split at d
    .rename_i M P;cases d;rcases VW p s t h5 P (i+1)with⟨Q,rfl⟩|⟨l,F,z,Q,A,D,E,I⟩
     .exact .inl ⟨by rw[b];exact Q,J⟩
     .refine .inr ⟨l+1,F,z,by rw[b,Q,(O:i+1+l=i+(l+1))],A,D,by simp[E],?_⟩;exact⟨e,_,J,h2,⟨_,W,u⟩,⟨H,h4,L⟩,I⟩
    .cases d
  .cases d
def VX{f:Bool}{q:lX}{k:V G}:∀{xs:V (V C×V C)}{vc:V C},v8 f q k xs=ad (ad vc)->∀e∈bP vc,e∈kA xs
 |[],_,a,_,_=>by simp[v8]at a
 |x::g,vc,a,e,d=>by
  simp only[v8]at a;split at a
  .split at a
   .cases a;simp[kA,d]
   .simp[kA,VX a e d]
  .cases a
def VY{l:Bool}{q:lX}{k:V G}{i vc:V C}:∀{xs e:V (V C×V C)},wa l q k i vc xs=ad e->∀f∈kA e,f∈kA xs\/f∈bP i\/f∈bP vc
 |[],_,a,f,d=>by simp only[wa,au]at a;subst a;simp only[kA,g8,aY]at d;exact .inr d
 |x::m,e,a,f,d=>by
  simp only[wa]at a;split at a
  .split at a
   .cases a;simp only[kA,aY]at d⊢;rcases d with a|a|a
    .exact .inr<|.inl a
    .exact .inr<|.inr a
    .exact .inl<|.inr<|.inr a
   .split at a
    .rename_i n g;cases a;simp only[kA,aY]at d⊢;rcases d with a|a|a
     .exact .inl<|.inl a
     .exact .inl<|.inr<|.inl a
     .rcases VY g f a with a|a
      .exact .inl<|.inr<|.inr a
      .exact .inr a
    .cases a
  .cases a
def CI(g e:Bool)(d:V C)(f:Bool):ar AV:=match g with
 |true=>(match e,d with
  |true,d=>ad<|.t [(ae,d),(ah,[.B f])]
  |false,[c]=>ad<|.t [(ah,[c]),(ah,[.B f])]
  |false,_=>none)
 |false=>(match e,d with
  |true,d=>ad<|.a d
  |false,[c]=>ad<|.c c
  |false,_=>none)
def VZ{g}{i e}{k}{l}{v}{vs}(a:CI i e k l=ad v)(d:aR g k vs):bA g v (if i then .tuple #[q5 e vs,.bool l]else q5 e vs):=by
 unfold CI at a;split at a
 .split at a
  .cases a;exact⟨[_,_],J,_,_,J,⟨vs,J,d⟩,_,_,J,J,J⟩
  .rename_i c;cases a;obtain⟨u,r,rfl,f,m⟩:=d;exact⟨[_,_],J,_,_,J,f,_,_,J,J,J⟩
  .cases a
 .split at a
  .cases a;exact⟨vs,J,d⟩
  .rename_i c;cases a;obtain⟨u,r,rfl,f,m⟩:=d;exact f
  .cases a
def ag7{e f}{d}{g}{v}(a:CI e f d g=ad v):∀i∈v.ak,i∈bP d:=by
 unfold CI at a;split at a
 .split at a
  .cases a;simp[AV.ak,eo,bP,C.ak]
  .cases a;simp[AV.ak,eo,bP,C.ak]
  .cases a
 .split at a
  .cases a;simp[AV.ak]
  .cases a;simp[AV.ak,bP]
  .cases a
def ag8{H}{W}(g:Sub H W){a}{i:Obj}(k:∀o,H a o=none):Sub H {W with heap:=W.heap.setIfInBounds a i}:=by
 intro f o v d;have l:=g f o v d;by_cases e:a=f
 .subst e;rw[k o]at d;cases d
 .simp only[World.cell?,lC e];exact l
section
variable{P:bS}{tt:TT}
def ag9{ops}{i}{o:aX}{d:Y}(ho:ops[i]? =ad o)(hg:o.guard=none)(hd:o.dst=ad d){n}(di:d<n){t}(bU:o.op= .makeMap t none) ka va new:
  g6 P n ops i [] [(.s d,ad<|.v<|.c<|.X new),(.m new,ad<|.b<|.mp ka va [])] new:=by
 intro F kC Q B G g W a K q aN A D
 have z:(execOp a.eval o).run P W= .ok (.value<|.map<|ad W.heap.size) {W with heap:=W.heap.push<|.map #[] 0}:=by rw[execOp,bU];rfl
 unfold wpOp
 simp only[ho,hZ,hg,b7]
 refine .inl ?_
 unfold mO
 rw[z]
 simp only[mP,hd]
 have j:d<a.tmps.size:=l0
 let v:aO:= .map<|ad W.heap.size
 let L:Gh:=⟨g.H,λx=>if x=new then v else g.γ x⟩
 have U:L.γ new=v:=by simp[L]
 have r:fP B g L:=⟨cD.refl _,λx l=>by
  have:x≠new:=λe=>q<|e▸l
  simp[L,this]⟩
 have p:∀o,g.H W.heap.size o=none:=by
  intro o;cases E:g.H W.heap.size o with
  |none=>rfl
  |some v=>
   have:=World.block_lt_of_cell? W _<|aN.sub _ _ _ E
   simp at this
 refine D L _ _<|aN.step (chg:=λ_=>False) (g':=L) ⟨r,λ_ _ _=>rfl,zG aN.sub _,ax,λk w _=>B1 W _ k w,J,J,J⟩ _ new q mL aN.defers (λt f=>Fs f) (λ_ h=>h.elim) ?_ ?_ ?_ ?_
 .intro t u f;simp only[aC]at f;split at f
  .rename_i e;simp only[Key.s.injEq]at e;simp only[au,Info.v.injEq]at f;subst e;subst f;show _=L.γ new;rw[U];simp[gT,j,v]
  .simp at f
 .intro x b f;simp only[aC,reduceCtorEq,bL]at f;split at f
  .rename_i e;simp only[Key.m.injEq]at e;subst e;simp only[au,Info.b.injEq]at f;subst f;refine⟨⟨W.heap.size,#[],U,ax,J,.inl aN.below.size,p⟩,.inr ⟨J,λk w=> .inl ?_⟩⟩;rw[U]at w;simp only[cz,v,au]at w;omega
  .simp at f
 .intro k y f;simp only[aC]at f;split at f
  .simp only[au]at f;subst f;intro x l;simp[Info.ak,AV.ak,C.ak]at l;exact .inr l
  .split at f
   .simp only[au]at f;subst f;intro x l;simp[Info.ak,aE.ak,kA]at l
   .simp at f
 .intro x y f;simp only[aC,reduceCtorEq,bL]at f;split at f
  .rename_i e;simp only[Key.m.injEq]at e;exact .inr e.symm
  .simp at f
def ag'(l:b8 P tt=ae){ops}{i}{o:aX}{d:Y}(ho:ops[i]? =ad o)(hg:o.guard=none)(hd:o.dst=ad d){n}(di:d<n){t}{x cp}{ok}(bU:o.op= .lookup t x cp ok)
 {H}{L}{q:lX} {m:G} (hx:H.ev x=ad (.c<|.X L)) (hy:H.ev cp=ad (.c<|.I q m)) {kt vt:Y} {ti ki Q:TI} (mN:S t tt=ad ti) (hk:ti.kind= .map kt vt) (z8:S kt tt=ad ki) (kH:ki.kind= .int q) (z9:S vt tt=ad Q)
  {xs:V (V C×V C)} (hl:S L H.mem=ad (.mp ah Q.agg xs)) {aV:ar (V C)} (hr:v8 ah q [m] xs=ad aV) {v:AV} (hv:CI ok Q.agg (aV.getD<|Q.zero.map ZV.oJ) aV.isSome=ad v) (new:Y):
  g6 P n ops i ([x,cp].flatMap (cC H)++ff H [L]) [(.s d,ad<|.v v)] new:=by
 refine ri ho hg hd di _ v new ?_
 intro F N σ g W a e K
 have f:=du e H x _ hx<|λO bZ=>K O dR
 have p:=du e H cp _ hy<|λO bZ=>K O dR
 have h:σ (.m L)=ad (.b<|.mp ah Q.agg xs):=K (.m L,.b<|.mp ah Q.agg xs) pY
 let ⟨b,es,R,hh,T,hN,hz⟩:=e.cL L _ h
 have f:a.eval x=g.γ L:=f
 have p:a.eval cp= .int q m:=p
 rw[R]at f
 have Z:=(dZ l mN).kind
 rw[hk]at Z
 have u:=(dZ l z8).kind
 rw[kH]at u
 have M:=VV T hr 0
 refine⟨?_,?_⟩
 .intro j hj;have h1:=ag7 hv j hj;cases aV with
  |none=>
   rw[Option.getD_none,I2]at h1
   cases h1
  |some vc=>exact e.ak _ _ h j<|VX hr j h1
 .have A:=aha (w:=W) u (k:= .int q m) J es.isEmpty 9999;cases aV with
  |none=>
   have U:=Pc (P:=P) (w:=W) u M
   let ⟨inf,B,_,_,z,D,vH⟩:=(dZ l z9).info
   have E:=(dZ l z9).zag _ _ B D
   have CJ:(zeroValue vt).run P W= .ok z W:=by simp[zeroValue,typeInfo,B,D]
   refine⟨_,?_,VZ hv<|xI g Q.zero⟩
   rw[execOp,bU]
   simp only[Instr.lookup,f,p,cZ,run_underlying Z,de,Pe hh,xG,A,U,CJ,E]
   rfl
  |some vc=>
   obtain⟨j,ws,M,NX⟩:=M
   have U:=Pc (P:=P) (w:=W) u M
   refine⟨_,?_,VZ hv NX⟩
   rw[execOp,bU]
   simp only[Instr.lookup,f,p,cZ,run_underlying Z,de,Pe hh,xG,A,U]
   rfl
def ahb(bW:b8 P tt=ae){ops}{i}{o}(ho:ops[i]? =ad o)(hg:o.guard=none)(hd:o.dst=none){n}{t:dM}{x cp U}(bU:o.op= .mapUpdate t x cp U)
 {H}{L}{q}{m:G} {u:AV} {va:Bool} {vc:V C} (hx:H.ev x=ad (.c<|.X L)) (hy:H.ev cp=ad (.c<|.I q m)) (CJ:H.ev U=ad u) (Cp:qf u=ad (va,vc)) {kt vt:Y} {ti ki:TI} (mN:S t tt=ad ti) (hk:ti.kind= .map kt vt) (z8:S kt tt=ad ki) (kH:ki.kind= .int q)
  {xs wb:V (V C×V C)} (hl:S L H.mem=ad (.mp ah va xs)) (hp:wa ah q [m] [.I q m] vc xs=ad wb) (new:Y):
  g6 P n ops i ([x,cp,U].flatMap (cC H)++ff H [L]) [(.m L,ad<|.b<|.mp ah va wb)] new:=by
 intro F kC Q known σ g W a K T f s hK
 have v:=du f H x _ hx<|λM bZ=>s M dR
 have r:=du f H cp _ hy<|λM bZ=>s M dR
 have hrz:=du f H U _ CJ<|λM bZ=>s M dR
 have hmz:=rh f H U _ CJ<|λM bZ=>s M dR
 have p:σ (.m L)=ad (.b<|.mp ah va xs):=s (.m L,.b<|.mp ah va xs) pY
 let ⟨b,es,N,hh,O,hN,hz⟩:=f.cL L _ p
 have v:a.eval x=g.γ L:=v
 have r:a.eval cp= .int q m:=r
 rw[N]at v
 have hu:=(dZ bW mN).kind
 rw[hk]at hu
 have A:=(dZ bW z8).kind
 rw[kH]at A
 have FG:∃vs,a.eval U=q5 va vs/\aR g vc vs:=by
  have:=Ox Cp hrz;cases va with
  |true=>exact this
  |false=>
   match vc,this with
   |[c],h=>exact⟨[a.eval U],J,_,_,J,h,J⟩
   |[],h=>exact h.elim
   |_::_::_,h=>exact h.elim
 let ⟨vs,V0,JP⟩:=FG
 have JQ:=aha (w:=W) A (k:= .int q m) J ah 9999
 have hlen:=O.length
 have CK:∃D,(execOp a.eval o).run P W= .ok .skip {W with heap:=W.heap.setIfInBounds b<|.map D<|Z wb}/\g5 g ah va 0 wb D.toList:=by
  rcases VW (g:=g) (kc:=[.I q m]) (ks:=[.int q m]) ⟨_,_,J,J,J⟩ J JP O hp 0 with⟨hf,rfl⟩|⟨j,w,e,hf,he,oT,hle,B⟩
  .have R:=Pc (P:=P) (w:=W) A hf;refine⟨es.push ⟨.int q m,a.eval U,Z xs⟩,?_,?_⟩
   .rw[execOp,bU];simp only[Instr.mapUpdate,v,r,cZ,run_underlying hu,de,Pe hh,xG,JQ,R,ahe _ hh,ix,rG]
   .rw[Array.toList_push];exact g5.snoc (x:=([.I q m],vc)) ⟨[.int q m],J,_,_,J,J,J⟩ ⟨vs,V0,JP⟩ O ax
  .have R:=Pc (P:=P) (w:=W) A hf;have Fz:es[j]? =ad e:=by simpa using he
   have sS:=MapKept.run_keyThatStays (P:=P) (w:=W) (d:= .int q) (k:= .int q m) J;refine⟨es.modify j λe=>{e with key:= .int q m,val:=a.eval U},?_,by rw[Array.toList_modify,V0];exact B⟩;rw[execOp,bU];simp only[Instr.mapUpdate,v,r,cZ,run_underlying hu,de,Pe hh,xG,JQ,R,eH,Fz,uh,pS,oT,sS,ahe _ hh,hle]
 let ⟨D,hex,B⟩:=CK
 unfold wpOp
 simp only[ho,hZ,hg,b7]
 refine .inl ?_
 unfold mO
 rw[hex]
 simp only[mP,hd,gT]
 have hb:b<W.heap.size:=(fT.1 hh).1
 refine hK g _ a<|f.step (chg:=λj=>j=L) (g':=g) ⟨⟨cD.refl _,λ_ _=>rfl⟩,λ_ _ _=>rfl,ag8 f.sub hz,ax,?_,J,J,J⟩ _ new T J f.defers (λ_ _=>rfl) ?_ ?_ ?_ ?_ ?_
 .intro k hk fe;have:b≠k:=λe=>fe L J (by rw[N,e];rfl)
  exact lC this
 .intro j E;subst E;exact⟨xH,_,p⟩
 .intro t' v' ht;simp[aC]at ht
 .intro j bk E;simp only[aC]at E;split at E
  .rename_i e;simp only[Key.m.injEq]at e;subst e;simp only[au,Info.b.injEq]at E;subst E;exact⟨⟨b,D,N,by simp[hb],B,hN,hz⟩,.inl ⟨f.dQ _ _ p,_,p⟩⟩
  .simp at E
 .intro k z' l;simp only[aC]at l;split at l
  .simp only[au]at l;subst l;intro j E;rcases VY hp j E with h|h|h
   .exact .inl<|f.ak _ _ p j h
   .simp[bP,C.ak]at h
   .refine .inl<|hmz j ?_;rw[<-JF Cp];exact h
  .simp at l
 .intro j z' l;simp only[aC]at l;split at l
  .rename_i e;simp only[Key.m.injEq]at e;subst e;exact .inl<|f.dQ _ _ p
  .simp at l
end
def V1(i:TT)(k d:Y)(x f:dS)(l n:Y)(a:St):ar (St×Y×Ks):=match x4 i l n with
 |some (_,g)=>(match a.ev x,a.ev f with
  |some (.c<|.L id off len _),ad o=>(match sQ a g.size o,S id a.mem with
   |some (m,cs,is),ad (.box p q e)=>if cs.all jH=ae/\m<=len/\off+m*g.size<=Z e then
     ad (⟨hJ d (.c<|.I .i64 m) a.sl,hJ id (.box p q<|cM e cs off) a.mem,a.nx,a.gd⟩,k+1,(bD [x,f]++cX (id::is),[.s d,.m id]))else none
   |_,_=>none)
  |_,_=>none)
 |none=>none
def V2(g:TT)(k d:Y)(t:Y)(x i:dS)(e:St):ar (St×Y×Ks):=match e.ev x,e.ev i,S t g with
 |some (.c<|.I _ a),ad (.c<|.I _ b),ad l=>(match l.kind with
  | .sl E=>(match S E g with
   |some f=>if a=b/\0<=a/\0<f.size/\dT (af a*f.bytes) 16777216=ae/\dT (af a) 16777216=ae then
     ad (⟨hJ d (.c<|.L k 0 (af a)<|ad<|af a) e.sl,(k,.box E 0<|Ck (f.zero.map ZV.oJ)<|af a)::e.mem,e.nx,e.gd⟩,k+1,(bD (Op.makeSlice t x i).operands.toList,[.s d,.m k]))else none
   |none=>none)
  |_=>none)
 |_,_,_=>none
def V3(i:TT)(k d:Y)(t a:Y)(e:Array (Y×dS))(f:St):ar (St×Y×Ks):=match sJ i f t a e.toList with
 |some (E,g,cs)=>if 0<g.size/\dT (a*g.size) 16777216=ae then
   ad (⟨hJ d (.c<|.L k 0 a<|ad a) f.sl,(k,.box E 0 cs)::f.mem,f.nx,f.gd⟩,k+1,(bD (V4 t a e).operands.toList,[.s d,.m k]))else none
 |none=>none
def V5(k d:Y)(f:FuncId)(first a:Array dS)(e:St):ar (St×Y×Ks):=match rE e first.toList,rE e a.toList with
 |some fs,ad cs=>ad (⟨hJ d (.c<|.X k) e.sl,(k,.gM f fs cs)::e.mem,e.nx,e.gd⟩,k+1,(bD<|first.toList++a.toList,[.s d,.m k]))
 |_,_=>none
def FI(a:TT)(t:Y):ar (TI×TI):=match S t a with
 |some d=>(match d.kind with
  | .map e f=>(match S e a,S f a with
   |some g,ad i=>ad (g,i)
   |_,_=>none)
  |_=>none)
 |none=>none
def V6{d}{t}{k l}(a:FI d t=ad (k,l)):∃e f g,S t d=ad e/\e.kind= .map f g/\S f d=ad k/\S g d=ad l:=by
 unfold FI at a;split at a
 .rename_i e i;split at a
  .rename_i f g m;split at a
   .rename_i n o p q;cases a;exact⟨e,f,g,i,m,p,q⟩
   .cases a
  .cases a
 .cases a
def V7(e:TT)(k d:Y)(t:Y)(a:St):ar (St×Y×Ks):=match FI e t with
 |some (f,g)=>ad (⟨hJ d (.c<|.X k) a.sl,(k,.mp f.agg g.agg [])::a.mem,a.nx,a.gd⟩,k+1,([],[.s d,.m k]))
 |none=>none
def JR(q:lX):TK->Bool
 | .int a=>decide<|q=a
 |_=>ah
def V8(g:TT)(k d:Y)(t:Y)(x f:dS)(i:Bool)(a:St):ar (St×Y×Ks):=match FI g t,a.ev x,a.ev f with
 |some (l,e),ad (.c<|.X id),ad (.c<|.I q m)=>(match JR q l.kind,S id a.mem with
  |true,ad (.mp ah n xs)=>(match n==e.agg,v8 ah q [m] xs with
   |true,ad r=>(match CI i e.agg (r.getD<|e.zero.map ZV.oJ) r.isSome with
    |some v=>ad (⟨hJ d v a.sl,a.mem,a.nx,a.gd⟩,k+1,(bD [x,f]++cX [id],[.s d]))
    |none=>none)
   |_,_=>none)
  |_,_=>none)
 |_,_,_=>none
def V9(l:TT)(k:Y)(t:Y)(x f g:dS)(a:St):ar (St×Y×Ks):=match FI l t,a.ev x,a.ev f,a.ev g with
 |some (n,_),ad (.c<|.X id),ad (.c<|.I q m),ad u=>(match JR q n.kind,S id a.mem,qf u with
  |true,ad (.mp ah i xs),ad (d,vc)=>(match i==d,wa ah q [m] [.I q m] vc xs with
   |true,ad e=>ad (⟨a.sl,hJ id (.mp ah i e) a.mem,a.nx,a.gd⟩,k+1,(bD [x,f,g]++cX [id],[.m id]))
   |_,_=>none)
  |_,_,_=>none)
 |_,_,_,_=>none
def Pf(l:FD)(e:TT)(n k:Y)(m:ar Y)(op:Op)(a:St):ar (St×Y×Ks):=match m with
 |none=>(match op with
  | .mapUpdate t x y z=>V9 e k t x y z a
  |op=>(match B8 e n k none op a with
   |some (g,p,o)=>if p.b=ae then ad (mX ah ae g,k+1,o)else none
   |none=>none))
 |some d=>if d<n then(match op with
  | .call ⟨.value q,args,_⟩=>O9 l k d q args.toList a
  | .call ⟨.builtin .append,⟨[x,y]⟩,⟨[t1,t2]⟩⟩=>O7 e n k d x y t1 t2 a
  | .call ⟨.builtin .copy,⟨[x,y]⟩,⟨[t1,t2]⟩⟩=>V1 e k d x y t1 t2 a
  | .makeSlice t x y=>V2 e k d t x y a
  | .buildSlice t len parts=>V3 e k d t len parts a
  | .makeFunc (.func f) first i=>V5 k d f first i a
  | .makeMap t none=>V7 e k d t a
  | .lookup t x y ok=>V8 e k d t x y ok a
  |op=>(match Cu e a op with
   |some (v,p)=>if p.b=ae then ad (⟨hJ d v a.sl,a.mem,a.nx,a.gd⟩,k+1,(bD op.operands.toList,[.s d]))else none
   |none=>(match B8 e n k (ad d) op a with
    |some (g,p,o)=>if p.b=ae then ad (mX ae ah g,k+1,o)else none
    |none=>none)))else none
def V'{q}{k:TK}(a:JR q k=ae):k= .int q:=by cases k<;>simp[JR]at a;subst a;rfl
def ahf(a:St) id d:St.kn ⟨a.sl,hJ id d a.mem,a.nx,a.gd⟩=bq a.kn [(.m id,ad<|.b d)]:=by
 funext k;cases k with
 |s t=>simp[St.kn,bq,aC]
 |m j=>
  simp only[St.kn,bq,aC,nA,Key.m.injEq]
  by_cases e:id=j<;>simp[e]
def Wa{a}{xs:V dS}{d}:∀e∈xs.flatMap (cC a)++ff a d,a.kn e.1=ad e.2:=by
 intro e f;rcases aY.1 f with h|h
 .obtain⟨x,_,h⟩:=iw.1 h;exact dV a x e h
 .exact jV a d e h
def Wb{e}{xs}{d}:∀a∈dq (xs.flatMap (cC e)++ff e d),a∈bD xs++cX d:=by intro a f;simp only[dq,fo,aY]at f⊢;exact f.elim (λh=> .inl<|ew e _ a h)<|λh=> .inr<|jW e d a h
section
variable{P:bS}{tt:TT}
def Aa{d}{op:Op}:∀a∈dq (nr d op),a∈bD op.operands.toList:=λa e=>ew d _ a e
def ahg(i:b8 P tt=ae){oU:FD}(nX:∀f vs fm k aV jw k',oU f vs fm k=ad (aV,jw,k')->CX P f vs fm k aV jw k'){n k}{o}(F:o.guard=none){s st'}{k'}{ks}
  (e:Pf oU tt n k o.dst o.op s=ad (st',k',ks)):fL P n #[o] 0 s st' k k' ks:=by
 have H:(#[o]:Array aX)[0]? =ad o:=rfl
 unfold Pf at e
 split at e
 .rename_i C;split at e
  .rename_i t x y z g;unfold V9 at e;split at e
   .rename_i M N J q m u X L Q hz;split at e
    .rename_i O xs R vc S c hu;split at e
     .rename_i wb B U;simp only[au,bG]at e;obtain⟨rfl,rfl,rfl⟩:=e;obtain⟨ti,kt,vt,T,V,Z,_⟩:=V6 X;have B:O=R:=by simpa using B
      subst B;have kH:M.kind= .int q:=V' S;exact .lF (ahb i H F C g L Q hz hu T V Z kH c U k) (Wa (xs:=[x,y,z])) (ahf s J _) (Wb (xs:=[x,y,z])) lG
     .simp at e
    .simp at e
   .simp at e
  .split at e
   .rename_i st1 p JS j;split at e
    .rename_i U;simp only[au,bG]at e;obtain⟨rfl,rfl,rfl⟩:=e;exact .O5 (I3 i H F (by rw[C];exact j)<|Pr.EC U)<|VR _ _ _
    .simp at e
   .simp at e
 .rename_i d C;split at e
  .rename_i l;split at e
   .rename_i cf args k6 g;exact ag6 nX l F C g e
   .rename_i x y t1 t2 g;exact ag3 i l F C g e
   .rename_i x y t1 t2 g;unfold V1 at e;split at e
    .rename_i E ei hI;have X:=JK i hI;split at e
     .rename_i J off len cap vy L Q;split at e
      .rename_i m cs is Eb bz nV j c;split at e
       .rename_i K;simp only[au,bG]at e;obtain⟨rfl,rfl,rfl⟩:=e;exact .lF (agY H F C l g X L Q c j K.1 K.2.1 K.2.2 k) CG (VP s d J _ _) z7 lG
       .simp at e
      .simp at e
     .simp at e
    .simp at e
   .rename_i t x y g;unfold V2 at e;split at e
    .rename_i k1 a k2 b ti L Q mN;split at e
     .rename_i E w;split at e
      .rename_i ei ny;split at e
       .rename_i K;obtain⟨rfl,h0,A,rH,lE⟩:=K;simp only[au,bG]at e;obtain⟨rfl,rfl,rfl⟩:=e;have ea:((af a:Y):G)=a:=uq h0;have:=agy (P:=P) i H F C l g (st:=s) (m:=af a) (by rw[ea];exact L) (by rw[ea];exact Q) mN w ny A (c9 rH) (c9 lE) k;rw[g]at this;exact .lF this (pZ s _) (CE s d k _ _) Aa lG
       .simp at e
      .simp at e
     .simp at e
    .simp at e
   .rename_i t len parts g;unfold V3 at e;split at e
    .rename_i E ei cs D;split at e
     .rename_i K;simp only[au,bG]at e;obtain⟨rfl,rfl,rfl⟩:=e;have:=agA (P:=P) i H F C l g K.1 (c9 K.2) D k;rw[g]at this;exact .lF this (pZ s _) (CE s d k _ _) Aa lG
     .simp at e
    .simp at e
   .rename_i f first zX g
    unfold V5 at e;split at e
    .rename_i fs cs hf K;simp only[au,bG]at e;obtain⟨rfl,rfl,rfl⟩:=e;refine .lF (VG H F C l g hf K k) ?_ (CE s d k _ _) (λI w=>ew s _ I w) lG;intro kx W;let ⟨x,_,e⟩:=iw.1 W;exact dV s x kx e
    .simp at e
   .rename_i t g;unfold V7 at e;split at e
    .rename_i M N X;simp only[au,bG]at e;obtain⟨rfl,rfl,rfl⟩:=e;exact .lF (ag9 H F C l g _ _ k) (λkx W=>by cases W) (CE s d k _ _) (λI w=>by cases w) lG
    .simp at e
   .rename_i t x y ok g;unfold V8 at e;split at e
    .rename_i M N J q m X L Q;split at e
     .rename_i O xs S c;split at e
      .rename_i aV B hr;split at e
       .rename_i v D;simp only[au,bG]at e;obtain⟨rfl,rfl,rfl⟩:=e;obtain⟨ti,kt,vt,T,V,Z,e4⟩:=V6 X;have B:O=N.agg:=by simpa using B
        subst B;exact .lF (ag' i H F C l g L Q T V Z (V' S) e4 c hr D k) (Wa (xs:=[x,y])) (O6 s d _) (Wb (xs:=[x,y])) lG
       .simp at e
      .simp at e
     .simp at e
    .simp at e
   .split at e
    .rename_i v p D;split at e
     .rename_i U;simp only[au,bG]at e;obtain⟨rfl,rfl,rfl⟩:=e;exact .lF (Vy i H F C l D (Pr.EC U) k) (pZ s _) (O6 s d _) Aa lG
     .simp at e
    .split at e
     .rename_i st1 p JS j;split at e
      .rename_i U;simp only[au,bG]at e;obtain⟨rfl,rfl,rfl⟩:=e;exact .O5 (I3 i H F (by rw[C];exact j)<|Pr.EC U)<|VR _ _ _
      .simp at e
     .simp at e
  .simp at e
end
section
variable{P:bS}{tt:TT}
structure Steps(P:bS)(n:Y)(f:Array aX)(i:Y)(os:V aX)(st g:St)(k o:Y)(ds:V (V (Key×Info)×V (Key×ar Info)))(e:V Y):Prop where
 len:ds.length=os.length
 Wc:e.length=os.length+1
 first:e[0]? =ad k
 last:e[os.length]? =ad o
 mono:∀d a b,e[d]? =ad a->e[d+1]? =ad b->a<=b
 step:∀d(h:d<ds.length) a b,e[d]? =ad a->e[d+1]? =ad b->tT P n f (i+d) ds[d].1 ds[d].2 (λl=>a<=l/\l<b)
 reads:∀d(h:d<ds.length),∀m∈ds[d].1,nR st.kn (ds.take d) m.1=ad m.2
 fin:g.kn=nR st.kn ds
end
inductive Ex where
 |dc
 |fW (a:Y)
 |ret
def Ex.FJ:Ex->Exit
 | .dc=> .normal
 | .fW id=> .exit id
 | .ret=> .ret
def Wd(o:aX):Bool:=match o.op with
 | .defer _=>ah
 |_=>ae
def nB:Code->Bool
 | .region _ ops _=>ops.toList.all Wd
 | .seq x a=>nB x&&nB a
 | .cond _ x a=>nB x&&nB a
 | .block _ x=>nB x
 | .loop x=>nB x
 | .skip=>ae
 | .exit _=>ae
 | .ret=>ae
 |_=>ah
def mh(a:ar Y)(d:Code):Prop:=a=none\/nB d=ae
def mh.seq{d}{x e}(a:mh d (.seq x e)):mh d x/\mh d e:=by
 rcases a with a|a
 .exact⟨.inl a,.inl a⟩
 .simp only[nB,cw]at a;exact⟨.inr a.1,.inr a.2⟩
def mh.cond{d}{f}{x e}(a:mh d (.cond f x e)):mh d x/\mh d e:=by
 rcases a with a|a
 .exact⟨.inl a,.inl a⟩
 .simp only[nB,cw]at a;exact⟨.inr a.1,.inr a.2⟩
def mh.block{a}{d}{x}(e:mh a (.block d x)):mh a x:=e
def mh.loop{a}{x}(d:mh a (.loop x)):mh a x:=d
def mh.region{f}{k}{e}{d}(a:mh f (.region k e d)):zs f e:=by
 intro i o g;rcases a with a|a
 .exact .inl a
 .refine .inr<|λc l=>?_;simp only[nB,l6]at a;have:=a o (by rw[<-E3]at g;exact JT g);simp[Wd,l]at this
def FK(P:bS)(n:Y)(f:Code)(l:St)(k:Y)(e:Ex)(d:St)(i:Y):Prop:=
 k<=i/\∀F:eK,F.n=n->mh F.rd f->∀g W a,br F (·<k) l.kn g W a->f.wpIn (fC F.rd) 0 P (λm o p=>m=e.FJ/\∃q,br F (·<i) d.kn q p o) a W
section
variable{P:bS}{tt:TT}
def We{F}{d:Y->Prop}{i}{g}{W}{a}(k:br F d i.kn g W a){x}{v}(hv:nT tt i x=ad v):∀e∈v.ak,d e:=by
 cases x with
 |tmp t=>
  simp only[nT]at hv
  exact λe f=>k.ak (.s t) (.v v) zM e f
 |cell b t=>
  simp only[nT]at hv
  split at hv
  .rename_i e l B;split at hv
   .rename_i E n o sz C p q;intro j u;exact k.ak (.m e) (.b<|.box E n o) (by simp[St.kn,p]) j<|xA hv j u
   .simp at hv
  .simp at hv
def Wf{F:eK}{e:Y->Prop}{l:St}{g:Gh}{W:World}{a:Act}(m:br F e l.kn g W a):∀(n:V ResultVar)(k:V (Bool×V C)),nU tt l n=ad k->∀i∈eo k,e i
 |[],k,f,i,d=>by simp only[nU,au]at f;subst f;cases d
 |x::xs,k,f,i,d=>by
  simp only[nU]at f;split at f
  .rename_i v o;split at f
   .rename_i s p q t;simp only[au]at f;subst f;simp only[eo,aY]at d;rcases d with d|d
    .rw[JF q]at d;exact We (tt:=tt) m o i d
    .exact Wf m xs p t i d
   .simp at f
  .simp at f
def Wg{F}{d:Y->Prop}{k}{g}{W}{a}(l:br F d k.kn g W a){m}{v}(e:kF tt k m=ad v):∀n∈v.ak,d n:=by
 match m,e with
 |[],e=>
  simp only[kF,nU,uh,au]at e
  subst e
  intro n f;cases f
 |[x],e=>exact We (tt:=tt) l e
 |x::y::r,e=>
  simp only[kF,cu]at e
  obtain⟨o,i,rfl⟩:=e
  exact Wf (tt:=tt) l _ o i
def ahi(bW:b8 P tt=ae){f}{d}{df}(hf:P.funcs[f]? =ad d)(hb:d.body=ad df)(sF:(d.name != "runtime.NumGoroutine")=ae){vs}(hle:Z vs<=d.ntmps){fm}{k}{e:Ex}{L}{k'}(o:e= .dc\/e= .ret)
  (Q:FK P d.ntmps df ⟨dr 0 vs,fm,0,[]⟩ k e L k') {aV}(hr:kF tt L d.results.toList=ad aV) {jw}(H:∀p U,S p jw=ad U->S p L.mem=ad U):CX P f vs fm k aV jw k':=by
 refine⟨zS,Q.1,?_⟩
 intro F g W K hn mb q
 refine calls_of_wp hf hb ?_
 have I:(K.toArray++rI (d.ntmps-K.toArray.size) undef).size=d.ntmps:=bV
 have h0:br {F with n:=d.ntmps,rd:=none} (·<k) (St.kn ⟨dr 0 vs,fm,0,[]⟩) g W {tmps:=K.toArray++rI (d.ntmps-K.toArray.size) undef,defers:=[]}:=by
  refine⟨I,q.defers,?_,q.cL,q.inj,q.ak,q.dQ,q.sub,q.below,q.le,q.fresh,q.fS⟩;intro t v M;have N:=q.eE t v M;have gN:t<Z K:=by
   have w:S t (dr 0 vs)=ad v:=by simp only[St.kn,cu]at M;let ⟨x,a,o⟩:=M;cases o;exact a
   have z:∀(l:V AV)(i:Y)(v:AV),S t (dr i l)=ad v->t<i+Z l:=by
    intro l;induction l with
    |nil=>intro i v Q;simp[dr,S]at Q
    |cons x l ih=>
     intro i v Q
     simp only[dr,S]at Q
     split at Q
     .simp;omega
     .have:=ih (i+1) v Q;simp;omega
   have:=z vs 0 v w;omega
  have:(K.toArray++rI (d.ntmps-K.toArray.size) undef).getD t undef=K.toArray.getD t undef:=by rw[nQ,nQ,xN zT]
  show bA g v ((K.toArray++rI (d.ntmps-K.toArray.size) undef).getD t undef);rw[this];exact N
 refine(Uz (r:=none) J).1<|wpIn_mono (Q.2 {F with n:=d.ntmps,rd:=none} rfl (.inl J) g W _ h0) ?_
 rintro e' a' W' ⟨rfl,g',B⟩
 let ⟨u,hu,A⟩:=zR (P:=P) (tt:=tt) (st:=L) bW B (fn:=d) (rs:=d.results.toList) ax hr
 have X:∃v O,ahj u= .returned v/\br {F with n:=1} (·<k') (St.kn ⟨[(0,aV)],jw,0,[]⟩) O W' (me [v]):=by
  have R:=Wg (tt:=tt) B hr;refine⟨u,g',J,⟨J,q.defers,?_,?_,?_,?_,?_,B.sub,B.below,B.le,B.fresh,B.fS⟩⟩
  .intro t x a;simp only[St.kn,S,cu]at a;let ⟨y,C,o⟩:=a;cases o;split at C
   .rename_i e;subst e;cases C;simpa[me]using A
   .cases C
  .intro p U hb;simp only[St.kn,cu]at hb;let ⟨x,a,o⟩:=hb;cases o;exact B.cL p U (by simp[St.kn,H p U a])
  .intro p D U b' kk hb E N h2;simp only[St.kn,cu]at hb E;let ⟨x,a,o⟩:=hb;let ⟨x',T,Fz⟩:=E;cases o;cases Fz;exact B.inj p D U b' kk (by simp[St.kn,H p U a]) (by simp[St.kn,H D b' T]) N h2
  .intro z x a p G;cases z with
   |s t=>
    simp only[St.kn,S,cu]at a
    let ⟨y,C,o⟩:=a
    subst o
    split at C
    .cases C;exact R p G
    .cases C
   |m j=>
    simp only[St.kn,cu]at a
    let ⟨y,C,o⟩:=a
    subst o
    exact B.ak (.m j) (.b y) (by simp[St.kn,H j y C]) p G
  .intro p x a;simp only[St.kn,cu]at a;let ⟨y,C,o⟩:=a;exact B.dQ p (.b y) (by simp[St.kn,H p y C])
 rcases o with rfl|rfl
 .exact⟨B.defers.trans q.defers.symm,u,hu,X⟩
 .exact⟨B.defers.trans q.defers.symm,u,hu,X⟩
end
def dG:TT:=[
 (2,⟨.int .i64,1,8,[],[.i .i64]⟩),
 (3,⟨.int .i64,1,8,[],[.i .i64]⟩),
 (4,⟨.bool,1,1,[],[.b]⟩),
 (5,⟨.int .u8,1,1,[],[.i .u8]⟩),
 (6,⟨.int .u8,1,1,[],[.i .u8]⟩),
 (9,⟨.str,1,16,[],[.t]⟩),
 (10,⟨.str,1,16,[],[.t]⟩),
 (11,⟨.str,1,16,[],[.t]⟩),
 (12,⟨.int .u64,1,8,[],[.i .u64]⟩),
 (21,⟨.int .i32,1,4,[],[.i .i32]⟩),
 (22,⟨.sl 53,1,24,[],[.s]⟩),
 (23,⟨.st,2,32,[(0,1,ah),(1,1,ah)],[.i .u8,.s]⟩),
 (24,⟨.st,2,32,[(0,1,ah),(1,1,ah)],[.i .u8,.s]⟩),
 (25,⟨.sl 57,1,24,[],[.s]⟩),
 (26,⟨.sl 57,1,24,[],[.s]⟩),
 (28,⟨.sl 44,1,24,[],[.s]⟩),
 (29,⟨.sl 44,1,24,[],[.s]⟩),
 (33,⟨.int .i64,1,8,[],[.i .i64]⟩),
 (40,⟨.sl 142,1,24,[],[.s]⟩),
 (41,⟨.st,2,32,[(0,1,ah),(1,1,ah)],[.b,.s]⟩),
 (42,⟨.st,2,32,[(0,1,ah),(1,1,ah)],[.b,.s]⟩),
 (43,⟨.st,4,64,[(0,2,ae),(2,2,ae)],[.b,.s,.b,.s]⟩),
 (44,⟨.st,4,64,[(0,2,ae),(2,2,ae)],[.b,.s,.b,.s]⟩),
 (51,⟨.arr 3 26,3,72,[],[.s,.s,.s]⟩),
 (53,⟨.int .i8,1,1,[],[.i .i8]⟩),
 (55,⟨.arr 2 26,2,48,[],[.s,.s]⟩),
 (56,⟨.st,3,3,[(0,1,ah),(1,1,ah),(2,1,ah)],[.i .i8,.i .i8,.i .u8]⟩),
 (57,⟨.st,3,3,[(0,1,ah),(1,1,ah),(2,1,ah)],[.i .i8,.i .i8,.i .u8]⟩),
 (68,⟨.sl 26,1,24,[],[.s]⟩),
 (69,⟨.arr 3 68,3,72,[],[.s,.s,.s]⟩),
 (70,⟨.sl 29,1,24,[],[.s]⟩),
 (77,⟨.sl 129,1,24,[],[.s]⟩),
 (78,⟨.st,1,24,[(0,1,ah)],[.s]⟩),
 (79,⟨.st,1,24,[(0,1,ah)],[.s]⟩),
 (80,⟨.arr 2 79,2,48,[],[.s,.s]⟩),
 (81,⟨.arr 8 29,8,192,[],[.s,.s,.s,.s,.s,.s,.s,.s]⟩),
 (82,⟨.sl 132,1,24,[],[.s]⟩),
 (83,⟨.sl 132,1,24,[],[.s]⟩),
 (90,⟨.sl 22,1,24,[],[.s]⟩),
 (101,⟨.map 3 104,1,8,[],[.m]⟩),
 (103,⟨.st,2,48,[(0,1,ah),(1,1,ah)],[.s,.s]⟩),
 (104,⟨.st,2,48,[(0,1,ah),(1,1,ah)],[.s,.s]⟩),
 (110,⟨.sl 114,1,24,[],[.s]⟩),
 (113,⟨.st,2,32,[(0,1,ah),(1,1,ah)],[.s,.i .i64]⟩),
 (114,⟨.st,2,32,[(0,1,ah),(1,1,ah)],[.s,.i .i64]⟩),
 (126,⟨.arr 8 3,8,64,[],[.i .i64,.i .i64,.i .i64,.i .i64,.i .i64,.i .i64,.i .i64,.i .i64]⟩),
 (127,⟨.arr 8 3,8,64,[],[.i .i64,.i .i64,.i .i64,.i .i64,.i .i64,.i .i64,.i .i64,.i .i64]⟩),
 (129,⟨.arr 5 53,5,5,[],[.i .i8,.i .i8,.i .i8,.i .i8,.i .i8]⟩),
 (131,⟨.st,12,128,[(0,4,ae),(4,8,ae)],[.b,.s,.b,.s,.i .i64,.i .i64,.i .i64,.i .i64,.i .i64,.i .i64,.i .i64,.i .i64]⟩),
 (132,⟨.st,12,128,[(0,4,ae),(4,8,ae)],[.b,.s,.b,.s,.i .i64,.i .i64,.i .i64,.i .i64,.i .i64,.i .i64,.i .i64,.i .i64]⟩),
 (142,⟨.int .u32,1,4,[],[.i .u32]⟩),
 (150,⟨.int .u64,1,8,[],[.i .u64]⟩),
 (161,⟨.sl 42,1,24,[],[.s]⟩),
 (167,⟨.sl 150,1,24,[],[.s]⟩),
 (173,⟨.sl 178,1,24,[],[.s]⟩),
 (176,⟨.sl 167,1,24,[],[.s]⟩),
 (177,⟨.st,2,32,[(0,1,ah),(1,1,ah)],[.s,.i .i64]⟩),
 (178,⟨.st,2,32,[(0,1,ah),(1,1,ah)],[.s,.i .i64]⟩),
 (181,⟨.sl 161,1,24,[],[.s]⟩),
 (192,⟨.int .u64,1,8,[],[.i .u64]⟩),
 (200,⟨.st,2,48,[(0,1,ah),(1,1,ah)],[.s,.s]⟩),
 (201,⟨.st,2,48,[(0,1,ah),(1,1,ah)],[.s,.s]⟩),
 (207,⟨.st,2,48,[(0,1,ah),(1,1,ah)],[.s,.s]⟩),
 (208,⟨.st,2,48,[(0,1,ah),(1,1,ah)],[.s,.s]⟩),
 (220,⟨.st,2,32,[(0,1,ah),(1,1,ah)],[.s,.i .u64]⟩),
 (221,⟨.st,2,32,[(0,1,ah),(1,1,ah)],[.s,.i .u64]⟩),
 (226,⟨.sl 221,1,24,[],[.s]⟩),
 (230,⟨.int .i64,1,8,[],[.i .i64]⟩),
 (264,⟨.int .u64,1,8,[],[.i .u64]⟩),
 (274,⟨.arr 4 150,4,32,[],[.i .u64,.i .u64,.i .u64,.i .u64]⟩),
 (277,⟨.sl 3,1,24,[],[.s]⟩),
 (286,⟨.st,4,40,[(0,1,ah),(1,1,ah),(2,1,ah),(3,1,ah)],[.p,.p,.p,.t]⟩),
 (287,⟨.st,4,40,[(0,1,ah),(1,1,ah),(2,1,ah),(3,1,ah)],[.p,.p,.p,.t]⟩),
 (288,⟨.arr 0 16,0,0,[],[]⟩),
 (291,⟨.int .u8,1,1,[],[.i .u8]⟩),
 (292,⟨.int .u8,1,1,[],[.i .u8]⟩),
 (295,⟨.int .i32,1,4,[],[.i .i32]⟩),
 (296,⟨.int .i32,1,4,[],[.i .i32]⟩),
 (297,⟨.st,11,48,[(0,1,ah),(1,1,ah),(2,1,ah),(3,1,ah),(4,1,ah),(5,1,ah),(6,1,ah),(7,1,ah),(8,1,ah),(9,1,ah),(10,1,ah)],[.i .u64,.i .u64,.i .u32,.i .u8,.i .u8,.i .u8,.i .u8,.f,.p,.i .i32,.i .i32]⟩)]
def cj:b8 z dG=ae:=dN
def MX:Tryz.prog.follows .mixedOrders=ae:=dN
abbrev al:ET:= .int .u32
abbrev aq:ET:= .int .u64
abbrev mi:ET:= .int .i64
abbrev I8:ET:= .int .i8
abbrev cI(n:G):AV:= .c<|.I .i64 n
abbrev cU(n:G):AV:= .c<|.I .u64 n
abbrev cW(n:G):AV:= .c<|.I .u32 n
abbrev cB(a:Bool):AV:= .c<|.B a
abbrev cS(a:ET)(xs:V a.den):AV:= .c<|.S a xs
abbrev aZ(d:G):AV:= .a<|av .z d
abbrev aQ(q:Rat):AV:= .a<|av .q q
section
variable{n:Y}{Q:k7}{sl cc:V (Y×AV)}{mem b9:V (Y×aE)}{nx:Y}{gd cr:V (Y×Bool)}{id:Y}{ops:Array aX}{draw:Bool}{y:Code}{p:Pr}{ks dx:V Ks}{i i' n0 cx:Y}
def rr(d:runs dG n nx draw ops.toList ops.toList 0 ⟨sl,mem,nx,gd⟩ .t []=([],i',⟨cc,b9,n0,cr⟩,p,ks))(e:TR z n y ⟨cc,b9,nx+1,[]⟩ Q)
  (hp:p:=by exact k9) (f:(!draw||ry ops.toList ks)=ae:=by kernel_rfl) (a:dT ops.size 1000=ae:=by rfl):TR z n (.seq (.region id ops draw) y) ⟨sl,mem,nx,gd⟩ Q:=
 M (I' MX<|jX cj d hp<|Ov e f a)
def rt(d:runs dG n nx draw ops.toList ops.toList 0 ⟨sl,mem,nx,gd⟩ .t []=([],i',⟨cc,b9,n0,cr⟩,p,ks))(e:eR n .normal ⟨cc,b9,nx+1,[]⟩ Q)
  (hp:p:=by exact k9) (f:(!draw||ry ops.toList ks)=ae:=by kernel_rfl) (a:dT ops.size 1000=ae:=by rfl):TR z n (.region id ops draw) ⟨sl,mem,nx,gd⟩ Q:=
 I' MX (jX cj d hp<|Ov e f a)
def rb(d:RG z n ops draw nx 0 ops.toList ⟨sl,mem,nx,gd⟩ [] (λa=>TR z n y a Q)):TR z n (.seq (.region id ops draw) y) ⟨sl,mem,nx,gd⟩ Q:=M<|I' MX d
def cA(d:RG z n ops draw nx 0 ops.toList ⟨sl,mem,nx,gd⟩ [] (λa=>eR n .normal a Q)):TR z n (.region id ops draw) ⟨sl,mem,nx,gd⟩ Q:=I' MX d
variable{R:St->Prop}{os:V aX}{d f:Y}{args:Array dS}{k6:Array dM}{ty:dM}{pos:String}{ig:Array Edge}{dH:V aX}{vs:V AV}{r:AV}
def rc(e:runs dG n nx draw ops.toList os i ⟨sl,mem,n0,gd⟩ .t ks=(⟨ad d,.call ⟨.value<|.func f,args,k6⟩,ty,pos,ig,none⟩::dH,i',⟨cc,b9,cx,cr⟩,p,dx))(g:jv ⟨cc,b9,cx,cr⟩ args.toList=ad vs)(k:vK z f vs r)
  (l:RG z n ops draw nx (i'+1) dH ⟨(d,r)::cc,b9,cx,cr⟩ (gU draw dx (bD args.toList,[.s d])) R)
  (hp:p:=by exact k9) (m:cF vs=[]:=by rfl) (a:dj d n=ae:=by rfl):RG z n ops draw nx i os ⟨sl,mem,n0,gd⟩ ks R:=
 jX cj e hp (af8 g k l m a)
def fX{l e}{a m}(o:runs dG n nx draw ops.toList os i ⟨sl,mem,n0,gd⟩ .t ks=(⟨ad d,.call ⟨.value<|.func f,args,k6⟩,ty,pos,ig,ad (l,a)⟩::dH,i',⟨cc,b9,cx,cr⟩,p,dx))(q:p7 ops.toList l=ad e)(u:S e cc=ad (.c<|.B m))(g:m=a)(v:jv ⟨cc,b9,cx,cr⟩ args.toList=ad vs)(x:vK z f vs r)
  (F:RG z n ops draw nx (i'+1) dH ⟨(d,r)::cc,b9,cx,cr⟩ (gU draw dx (.s e::bD args.toList,[.s d])) R)
  (hp:p:=by exact k9) (H:cF vs=[]:=by rfl) (k:dj d n=ae:=by rfl):RG z n ops draw nx i os ⟨sl,mem,n0,gd⟩ ks R:=
 jX cj o hp (af9 q u g v x F H k)
def re(e:runs dG n nx draw ops.toList os i ⟨sl,mem,n0,gd⟩ .t ks=([],i',⟨cc,b9,cx,cr⟩,p,dx))(g:R ⟨cc,b9,nx+1,[]⟩)
  (hp:p:=by exact k9) (ho:(!draw||ry ops.toList dx)=ae:=by kernel_rfl) (a:dT ops.size 1000=ae:=by rfl):RG z n ops draw nx i os ⟨sl,mem,n0,gd⟩ ks R:=
 jX cj e hp (Ov g ho a)
def rg t{a}{o}(e:runs dG n nx draw ops.toList os i ⟨sl,mem,n0,gd⟩ .t ks=(o::dH,i',⟨cc,b9,cx,cr⟩,p,dx))(g:S t cc=ad (.c<|.B a))
  (k:a=ae->RG z n ops draw nx i' (o::dH) ⟨(t,.c<|.B ae)::cc,b9,cx,(t,ae)::cr⟩ dx R) (l:a=ah->RG z n ops draw nx i' (o::dH) ⟨(t,.c<|.B ah)::cc,b9,cx,(t,ah)::cr⟩ dx R)
  (m:p:=by exact k9):RG z n ops draw nx i os ⟨sl,mem,n0,gd⟩ ks R:=
 jX cj e m (af' t g k l)
def rm{t:Y}{x}a(m:Y)(P:runs dG n nx draw ops.toList os i ⟨sl,mem,n0,gd⟩ .t ks=(⟨ad d,.makeSlice t x x,ty,pos,ig,none⟩::dH,i',⟨cc,b9,cx,cr⟩,p,dx)){k}{v}(U:St.ev ⟨cc,b9,cx,cr⟩ x=ad (.c<|.I k v)){l}{L e}(o:S t dG=ad L)(q:L.kind= .sl l)(u:S l dG=ad e)(B:e.size=a.n)
  (W:∀g:Gh,aR g (av a a.dA) (e.zero.map ZV.eG)) (hv:v=(m:G)) (hb:m*e.bytes<=281474976710656) (F:m*a.n<=140737488355328)
  (hk:RG z n ops draw nx (i'+1) dH ⟨(d,.c<|.X<|1000000*nx+1000*i')::cc,(1000000*nx+1000*i',.vec l a<|bg m a.dA)::b9,cx,cr⟩ (gU draw dx (bD [x,x],[.s d,.m<|1000000*nx+1000*i'])) R)
  (hp:p:=by exact k9) (H:dj d n=ae:=by rfl):RG z n ops draw nx i os ⟨sl,mem,n0,gd⟩ ks R:=
 jX cj P hp (agf cj a m U hv o q u B W hb F hk H)
end
def lH k g:aR g (av (.int k)<|ET.dA<|.int k) ([ZV.i k].map ZV.eG):=⟨_,_,J,J,J⟩
def Wh H:BB H [] (.slice none 0 0):=⟨none,0,J,aW _,ax,.inl J⟩
def JU g:aR g (av .z (0:G)) ([ZV.b,ZV.s].map ZV.eG):=Ir ⟨_,J,Wh _⟩
def Pg g:aR g (av (.pr .z .z) ((0,0):G×G)) ([ZV.b,ZV.s,ZV.b,ZV.s].map ZV.eG):=aR.append (JU g)<|JU g
section
variable{n:Y}{Q:k7}{sl cc:V (Y×AV)}{mem b9:V (Y×aE)}{nx:Y}{gd cr:V (Y×Bool)}{id:Y}{ops:Array aX}{draw:Bool}{y y0:Code}{p q:Pr}{ks dx JS:V Ks}{i i' n0 cx:Y}{st:St}{fn:Func}{rs:V ResultVar}{r r':AV}
variable{R:St->Prop}{os:V aX}{d f:Y}{args:Array dS}{k6:Array dM}{ty:dM}{pos:String}{ig:Array Edge}{dH:V aX}{vs:V AV}
def atR(e:kF dG st rs=ad r)(a:fn.results=rs.toArray:=by rfl)(g:r.ak=[]:=by rfl):eR n .ret st (zN z fn r):=g7 cj e (bm.refl _) a g
def eB(g:kF dG st rs=ad r')(e:r'=r)(a:fn.results=rs.toArray:=by rfl)(k:r.ak=[]:=by rfl):eR n .ret st (zN z fn r):=g7 cj g (bm.of_eq e) a k
def cJ(e:kF dG st rs=ad r)(a:fn.results=rs.toArray:=by rfl)(g:r.ak=[]:=by rfl):TR z n .ret st (zN z fn r):=bI<|atR e a g
def bO(g:kF dG st rs=ad r')(e:r'=r)(a:fn.results=rs.toArray:=by rfl)(k:r.ak=[]:=by rfl):TR z n .ret st (zN z fn r):=bI<|eB g e a k
def bh{a:Type}{e:a->St}{g:a->Prop}{k:a->Y}{x}(l:eR n .normal st Q):TR z n (.exit id) st (sD z y0<|E6 e g k x<|vL id Q):=mU<|qe<|nv<|mV l
def aD(a:TR z n y st Q):TR z n .skip st (sD z y Q):=c7<|aI a
def bH(a:TR z n y st Q):eR n .normal st (vL id<|sD z y Q):=eL<|aI a
def bw(m:runs dG n nx draw ops.toList ops.toList 0 ⟨sl,mem,nx,gd⟩ .t []=(⟨ad d,.call ⟨.value<|.func f,args,k6⟩,ty,pos,ig,none⟩::dH,i',⟨cc,b9,cx,cr⟩,p,dx))(o:jv ⟨cc,b9,cx,cr⟩ args.toList=ad vs)(u:vK z f vs r)
 {e}{a}{v x}{g}(B:runs dG n nx draw ops.toList dH (i'+1) ⟨(d,r)::cc,b9,cx,cr⟩ .t (gU draw dx (bD args.toList,[.s d]))=([],x,⟨e,a,v,g⟩,q,JS)) (F:TR z n y ⟨e,a,nx+1,[]⟩ Q)
  (H:p:=by exact k9) (L:cF vs=[]:=by rfl) (k:dj d n=ae:=by rfl) (P:q:=by first|trivial| (simp only[Pr.an,Pr.h,num,gf,true_and,and_true];first|done|omega)| (simp[Pr.an,Pr.h,num,gf];done)| (simp[Pr.an,Pr.h,num,gf];omega)) (U:(!draw||ry ops.toList JS)=ae:=by kernel_rfl) (l:dT ops.size 1000=ae:=by rfl):TR z n (.seq (.region id ops draw) y) ⟨sl,mem,nx,gd⟩ Q:=
 rb (rc m o u (re B F P U l) H L k)
def aJ{f}{fn}{l}{args}{r}(m:Tryz.prog.funcs[f]? =ad fn)(o:TR z n l ⟨dr 0 args,[],0,[]⟩ (zN z fn r))(s:fn.body=ad l:=by exact FM)(t:fn.ntmps=n:=by exact FM)(e:dT args.length n=ae:=by exact FM)(g:cF args=[]:=by exact FM)(k:r.ak=[]:=by exact FM)(a:(fn.name != "runtime.NumGoroutine")=ae:=by decide):vK z f args r:=Cf m s t e g k a o
end
section
variable{n:Y}{sl cc:V (Y×AV)}{mem b9:V (Y×aE)}{nx:Y}{gd cr:V (Y×Bool)}{ops:Array aX}{draw:Bool}{p:Pr}{ks dx:V Ks}{i i' n0 cx:Y}
variable{R:St->Prop}{os:V aX}{d:Y}{ty:dM}{pos:String}{ig:Array Edge}{dH:V aX}
def rl g xs{t e:Y}{a}(o:runs dG n nx draw ops.toList os i ⟨sl,mem,n0,gd⟩ .t ks=(⟨ad d,.buildSlice t e a,ty,pos,ig,none⟩::dH,i',⟨cc,b9,cx,cr⟩,p,dx)){q}{m}(u:sJ dG ⟨cc,b9,cx,cr⟩ t e a.toList=ad (q,m,xs.flatMap<|av g))
  (v:RG z n ops draw nx (i'+1) dH ⟨(d,.c<|.S g xs)::cc,b9,cx,cr⟩ (gU draw dx (bD (V4 t e a).operands.toList,[.s d])) R) (x:m.size=g.n:=by rfl) (k:Z xs=e:=by rfl) (f:dT (e*g.n) 16777216=ae:=by rfl)
  (hp:p:=by exact k9) (l:dj d n=ae:=by rfl):RG z n ops draw nx i os ⟨sl,mem,n0,gd⟩ ks R:=
 jX cj o hp (agi cj g xs u x k f v l)
def fM g xs{t e:Y}{a}(u:runs dG n nx draw ops.toList os i ⟨sl,mem,n0,gd⟩ .t ks=(⟨ad d,.buildSlice t e a,ty,pos,ig,none⟩::dH,i',⟨cc,b9,cx,cr⟩,p,dx)){o}{q}(v:sJ dG ⟨cc,b9,cx,cr⟩ t e a.toList=ad (o,q,xs.flatMap<|av g))
  (x:RG z n ops draw nx (i'+1) dH ⟨(d,.c<|.X<|1000000*nx+1000*i')::cc,(1000000*nx+1000*i',.vec o g xs)::b9,cx,cr⟩ (gU draw dx (bD (V4 t e a).operands.toList,[.s d,.m<|1000000*nx+1000*i'])) R) (B:q.size=g.n:=by rfl) (k:Z xs=e:=by rfl) (f:dT (e*g.n) 16777216=ae:=by rfl)
  (F:p:=by exact k9) (l:dj d n=ae:=by rfl):RG z n ops draw nx i os ⟨sl,mem,n0,gd⟩ ks R:=
 jX cj u F (agj cj g xs v B k f x l)
def x5{t:Y}{x f}{a m k}{o}{T}{xs}{q}{s}(e:T.den)(u:runs dG n nx draw ops.toList os i ⟨sl,mem,n0,gd⟩ .t ks=(⟨none,.store t x f,ty,pos,ig,none⟩::dH,i',⟨cc,b9,cx,cr⟩,p,dx))
  (v:St.ev ⟨cc,b9,cx,cr⟩ x=ad (.c<|.Y a m k 0)) (B:S a b9=ad (.vec o T xs)) (F:St.ev ⟨cc,b9,cx,cr⟩ f=ad q) (g:jU q=ad (av T e)) (H:k<Z xs)
  (L:RG z n ops draw nx (i'+1) dH ⟨cc,(a,.vec o T<|xs.set k e)::b9,cx,cr⟩ (gU draw dx (bD [x,f]++cX [a],[.m a])) R) (P:T.n=m:=by rfl) (l:oK dG t=ad (m,s):=by rfl)
  (hp:p:=by exact k9):RG z n ops draw nx i os ⟨sl,mem,n0,gd⟩ ks R:=
 jX cj u hp (agh cj v B F P l e g H L)
def ra{x q}{Q U}{e}{l E2:dM}{a}{xs f}{W g o}(cq:runs dG n nx draw ops.toList os i ⟨sl,mem,n0,gd⟩ .t ks=(⟨ad d,.call ⟨.builtin .append,#[x,q],#[Q,U]⟩,ty,pos,ig,none⟩::dH,i',⟨cc,b9,cx,cr⟩,p,dx))
  (hx:St.ev ⟨cc,b9,cx,cr⟩ x=ad (.c<|.X e)) (hl:S e b9=ad (.vec l a xs)) (hy:St.ev ⟨cc,b9,cx,cr⟩ q=ad (.c<|.S a f)) (u:S Q dG=ad W) (hk:W.kind= .sl l) (k:S U dG=ad g) (v:g.kind= .sl E2) (B:S l dG=ad o)
  (hb:((Z xs+Z f)+(Z xs+Z f)/4+192)*o.bytes<=281474976710656) (F:(Z xs+Z f)*a.n<=140737488355328)
  (hr:RG z n ops draw nx (i'+1) dH ⟨(d,.c<|.X<|1000000*nx+1000*i')::cc,(1000000*nx+1000*i',.vec l a<|xs++f)::rv e b9,cx,cr⟩ (gU draw dx (bD [x,q]++cX [e],[.s d,.m<|1000000*nx+1000*i',.m e])) R) (H:o.size=a.n:=by rfl) (L:Z o.zero=a.n:=by rfl)
  (hp:p:=by exact k9) (P:dj d n=ae:=by rfl):RG z n ops draw nx i os ⟨sl,mem,n0,gd⟩ ks R:=
 jX cj cq hp (agt cj hx hl hy u hk k v B H L hb F hr P)
def ran{x l}{P Q}{o W:dM}{a}{e}{U f k}(cq:runs dG n nx draw ops.toList os i ⟨sl,mem,n0,gd⟩ .t ks=(⟨ad d,.call ⟨.builtin .append,#[x,l],#[P,Q]⟩,ty,pos,ig,none⟩::dH,i',⟨cc,b9,cx,cr⟩,p,dx))
  (hx:St.ev ⟨cc,b9,cx,cr⟩ x=ad (.c<|.V<|.slice none 0 0)) (hy:St.ev ⟨cc,b9,cx,cr⟩ l=ad (.c<|.S a e)) (q:S P dG=ad U) (hk:U.kind= .sl o) (g:S Q dG=ad f) (u:f.kind= .sl W) (v:S o dG=ad k)
  (hb:(Z e+Z e/4+192)*k.bytes<=281474976710656) (B:Z e*a.n<=140737488355328)
  (hr:RG z n ops draw nx (i'+1) dH ⟨(d,.c<|.X<|1000000*nx+1000*i')::cc,(1000000*nx+1000*i',.vec o a e)::b9,cx,cr⟩ (gU draw dx (bD [x,l],[.s d,.m<|1000000*nx+1000*i'])) R) (F:k.size=a.n:=by rfl) (H:Z k.zero=a.n:=by rfl)
  (hp:p:=by exact k9) (L:dj d n=ae:=by rfl):RG z n ops draw nx i os ⟨sl,mem,n0,gd⟩ ks R:=
 jX cj cq hp (agu cj hx hy q hk g u v F H hb B hr L)
end
def JV:AV->ar Bool
 | .c (.V<|.slice none 0 0)=>ad ae
 | .c (.L _ _ _ _)=>ad ah
 | .c (.S _<|_::_)=>ad ah
 |_=>none
def Ph(a:TT)(t:Y):Bool:=match S t a with
 |some d=>(match d.kind with| .sl _=>ae|_=>ah)
 |none=>ah
def FN(s:ByteArray)(i:G):ar G:=match s[i.toNat]? with
 |some b=>ad b.toNat
 |none=>none
def Pj(a:TT)(op:BinOp)(t:Y)(v d:AV):ar AV:=match d with
 | .c (.V<|.slice none 0 0)=>(match Ph a t,JV v with
  |true,ad b=>(match op with
   | .eql=>ad<|.c<|.B b
   | .neq=>ad<|.c<|.B<|!b
   |_=>none)
  |_,_=>none)
 |_=>none
def uu(d:TT)(g:St):Op->ar (AV×Pr)
 | .build t parts=>(match S t d with
  |some e=>(match e.kind with
   | .arr len k=>(match S k d with
    |some l=>(match zH (uj l.size 0 len) g (e.zero.map ZV.oJ) parts.toList with
     |some cs=>ad (.a cs,.t)
     |none=>none)
    |none=>none)
   |_=>none)
  |none=>none)
 | .index t x i=>(match g.ev x,g.ev i with
  |some (.a cs),ad (.c<|.I _ f)=>(match S t d with
   |some e=>(match e.kind with
    | .arr len k=>(match oK d k with
     |some (sz,m)=>(match mM cs (af f*sz) sz m with
      |some u=>ad (u,.and (.le 0 f)<|.lt f len)
      |none=>none)
     |none=>none)
    |_=>none)
   |none=>none)
  |some (.c<|.V<|.string s),ad (.c<|.I _ f)=>(match S t d with
   |some e=>(match e.kind,FN s f with
    | .str,ad n=>ad (.c<|.I .u8 n,.le 0 f)
    |_,_=>none)
   |none=>none)
  |_,_=>none)
 | .binOp op t x o _=>(match g.ev x,g.ev o with
  |some v,ad p=>(match Pj d op t v p with
   |some u=>ad (u,.t)
   |none=>none)
  |_,_=>none)
 |_=>none
section
variable{P:bS}{tt:TT}{g:Gh}{W:World}
def ahl{v}{e}(d:JV v=ad e){u}(i:bA g v u):∃a l k,u= .slice a l k/\a.isNone=e:=by
 unfold JV at d;split at d
 .cases d;have m:u= .slice none 0 0:=i;exact⟨none,0,0,m,J⟩
 .rename_i q n p f;cases d;cases f with
  |some k=>obtain⟨e,_,rfl⟩:=i;exact⟨_,_,_,J,J⟩
  |none=>obtain⟨_,e,k,_,rfl,_⟩:=i;exact⟨_,_,_,J,J⟩
 .rename_i T x xs;cases d;obtain⟨a,f,rfl,_,_,o⟩:=i;rcases o with o|⟨e,n,rfl,_⟩
  .cases o
  .exact⟨_,_,_,J,J⟩
 .cases d
def ahm{t e}(d:P.underlying t=ad (.slice e)) a l f:(Op.equal t (.slice a l f)<|.slice none 0 0).run P W= .ok a.isNone W:=by rw[Op.equal,show Op.maxDepth=9999+1 from J,Op.equalIn];cases a<;>simp[run_underlying d]
def ahn(L:b8 P tt=ae){F}{d:Y->Prop}{σ}{g}{W}{a}(U:br F d σ g W a){o}{n:BinOp}{t:dM}{p q}{ty}(bU:o.op= .binOp n t p q ty){v:AV}{s:Bool}(f:Ph tt t=ae)(hn:JV v=ad s){x:AV}
  (he:(n= .eql/\x=AV.c (.B s))\/(n= .neq/\x=AV.c (.B<|!s))) (h1:bA g v (a.eval p)/\∀u∈v.ak,d u) (H:a.eval q= .slice none 0 0):
  (∀u∈x.ak,d u)/\∃v,(execOp a.eval o).run P W= .ok (.value v) W/\bA g x v:=by
 let ⟨j,l,c,K,X⟩:=ahl hn h1.1
 have i:∃e,P.underlying t=ad (.slice e):=by
  unfold Ph at f;split at f
  .rename_i w Q;split at f
   .rename_i e r;have h:=(dZ L Q).kind;rw[r]at h;exact⟨e,h⟩
   .cases f
  .cases f
 let ⟨e,i⟩:=i
 have k:execOp a.eval o=(do pure (.value<|<-(do eqGuard n t p q (a.eval p) (a.eval q);binOp n t (a.eval p) (a.eval q):Go.Sem aO))):=ua
 have heq:=ahm (P:=P) (W:=W) i j l c
 rcases he with⟨rfl,rfl⟩|⟨rfl,rfl⟩
 .refine⟨λu m=>by simp[AV.ak,C.ak]at m,.bool s,?_,J⟩;rw[k,K,H];simp[eqGuard,binOp,heq,de,X]
 .refine⟨λu m=>by simp[AV.ak,C.ak]at m,.bool (!s),?_,J⟩;rw[k,K,H];simp[eqGuard,binOp,heq,de,X]
def Pk(L:b8 P tt=ae){ops}{i}{o:aX}{d:Y}(ho:ops[i]? =ad o)(hg:o.guard=none)(hd:o.dst=ad d){n}(di:d<n)
 {st}{x}{p}(e:uu tt st o.op=ad (x,p)) (hp:p) new:g6 P n ops i (nr st o.op) [(.s d,ad<|.v x)] new:=by
 refine ri ho hg hd di _ x new ?_
 intro F N σ g W a K O
 have R:∀y∈o.op.operands,∀kx∈cC st y,σ kx.1=ad kx.2:=by intro y U kx S;exact O kx<|iw.2 ⟨y,by simpa using U,S⟩
 have H:∀y∈o.op.operands,∀u,st.ev y=ad u->bA g u (a.eval y)/\∀id∈u.ak,N id:=by intro y U u T;exact⟨du K st y u T<|R y U,rh K st y u T<|R y U⟩
 generalize bU:o.op=op at e H R O
 unfold uu at e
 split at e
 .rename_i t f;split at e
  .rename_i ti X;split at e
   .rename_i r E hk;split at e
    .rename_i ei ny;split at e
     .rename_i cs Ol;cases e;have M:=(dZ L X).kind;rw[hk]at M;have T:P.underlying t=ad (.array r E):=M;let ⟨inf,Q,V,_,z,hz,vH⟩:=(dZ L X).info;let ⟨ie,hie,Pl,_⟩:=(dZ L ny).info;have hzr:aR g (ti.zero.map ZV.oJ) (ti.zero.map ZV.eG):=xI g ti.zero;let ⟨us,Z,A,hlen,ahq⟩:=EX K st (uj ei.size 0 r) (λi=>ad (i*ei.size,ei.size)) (λi y U=>by have:=Jn ei.size r 0 i y U;rw[this,eH]) f.toList _ cs _ Ol hzr (λq hq kx S=>O kx<|iw.2 ⟨q.2,by simp only[Op.operands];simp only[je];exact⟨q,hq,J⟩,S⟩) (by rw[I2];intro _ h;cases h);refine⟨ahq,.agg us.toArray,?_,us,J,A⟩;have CJ:(zeroValue t).run P W= .ok z W:=by simp[zeroValue,typeInfo,Q,hz]
      have ahr:z.cells=(ti.zero.map ZV.eG).toArray:=B6;have l:execOp a.eval o=(do pure (.value<|<-EZ t (f.map λ(i,x)=>(i,a.eval x)))):=ua;have JW:(f.map λ(i,x)=>(i,a.eval x)).toList=f.toList.map λp=>(p.1,a.eval p.2):=ax
      have hb:(EZ t<|f.map λ(i,x)=>(i,a.eval x)).run P W= .ok (.agg us.toArray) W:=by unfold EZ;rw[cZ,CJ];simp only[de];rw[cZ,run_underlying T];simp only[de];rw[cZ,run_sizeOf hie];simp only[de,JW,ahr,Pl,Z];rfl
      rw[l,cZ,hb];rfl
     .cases e
    .cases e
   .cases e
  .cases e
 .rename_i t y j;have l:execOp a.eval o=(do pure (.value<|<-JX t (a.eval y) (a.eval j))):=ua;split at e
  .rename_i cs k jj U hj;split at e
   .rename_i ti X;split at e
    .rename_i r E hk;split at e
     .rename_i sz ag IV;split at e
      .rename_i u T;cases e;obtain⟨rH,lE⟩:0<=jj/\jj<(r:G):=hp;have M:=(dZ L X).kind;rw[hk]at M;have D:P.underlying t=ad (.array r E):=M;let ⟨vs,uv,A⟩:=(H y gh _ U).1;have Pm:a.eval j= .int k jj:=(H j gh _ hj).1;let ⟨hag,⟨inf,Q,V⟩,_⟩:=IS L IV;let ⟨v,hv,JP⟩:=UJ (P:=P) A T hag Q V W;refine⟨λid eF=>(H y gh _ U).2 id<|xA T id eF,v,?_,JP⟩;have I:(JX t (a.eval y)<|a.eval j).run P W= .ok v W:=by rw[uv,Pm];unfold JX;simp only[asIntOf,cZ,xG,de,run_underlying D,rH,lE,and_self,b7,run_sizeOf Q,V];exact hv
       rw[l,cZ,I];rfl
      .cases e
     .cases e
    .cases e
   .cases e
  .rename_i s k jj U hj;split at e
   .rename_i ti X;split at e
    .rename_i b hk hb;cases e;have rH:0<=jj:=hp;have M:=(dZ L X).kind;rw[hk]at M;have D:P.underlying t=ad .string:=M;have hyv:a.eval y= .string s:=(H y gh _ U).1;have Pm:a.eval j= .int k jj:=(H j gh _ hj).1;refine⟨λid eF=>by simp[AV.ak,C.ak]at eF,.int .u8 b,?_,J⟩;have I:(JX t (a.eval y)<|a.eval j).run P W= .ok (.int .u8 b) W:=by
      rw[hyv,Pm];unfold FN at hb;unfold JX;simp only[asIntOf,cZ,xG,de,run_underlying D,rH,b7];split at hb
      .rename_i bb FO;cases hb;rw[FO];rfl
      .cases hb
     rw[l,cZ,I];rfl
    .cases e
   .cases e
  .cases e
 .rename_i bo t y z ty;split at e
  .rename_i v w U hz;split at e
   .rename_i u0 m;cases e;unfold Pj at m;split at m
    .split at m
     .rename_i b hsk hn;have ahv:(bo= .eql/\x=AV.c (.B b))\/(bo= .neq/\x=AV.c (.B<|!b)):=by
       split at m
       .cases m;exact .inl ⟨J,J⟩
       .cases m;exact .inr ⟨J,J⟩
       .cases m
      exact ahn L K bU hsk hn ahv (H y gh _ U) (H z gh _ hz).1
     .cases m
    .cases m
   .cases e
  .cases e
 .cases e
end
def Wi(W:World)(H:FH)(g:dM)(f:ET)(xs:V f.den)(e:Ending)(d:World):Prop:=
 ∃v a,e= .returned v/\fB (λb=>W.heap.size<=b) ⟨a,λ_=>v⟩ d 0 (.vec g f xs)/\cD H a/\(∀b o,b<W.heap.size->a b o=H b o)/\Sub a d/\Below W.heap.size W d
structure nC(P:bS)(f:FuncId)(args:V AV)(E:dM)(a:ET)(xs:V a.den):Prop where
 call:nS P f=ae
 spec:∀H W vs,Sub H W->eQ ⟨H,jI⟩ args vs->Calls P f vs.toArray W (Wi W H E a xs)
def Wj(P:bS)(f:Func)(g:dM)(d:ET)(xs:V d.den):k7:=λF e a W=>(∀b,¬F.own b)->bodyPost P f (Wi F.w0 F.H0 g d xs) e a W
section
variable{P:bS}{tt:TT}{n:Y}{st:St}
def FP(m:b8 P tt=ae){L}{t id}{p}{q}{xs}(Q:S t st.sl=ad (.c<|.X id))(U:S id st.mem=ad (.vec p q xs))(s:L.results= #[.tmp t]:=by rfl):eR n .ret st (Wj P L p q xs):=by
 intro F K g W a h d;let ⟨u,hu,e⟩:=zR (rs:=[.tmp t]) (v:= .c<|.X id) m h s (by simp[kF,nT,Q]);have f:=h.cL id (.vec p q xs) (by simp[St.kn,U]);have i:u=g.γ id:=e;refine⟨h.defers.trans K.ds,u,hu,u,g.H,J,?_,h.le,λb o j=>h.fresh b o j<|d b,h.sub,⟨h.below.os,h.below.tape,h.below.output,h.below.size,λk r=>h.below.block k r<|d k⟩⟩;rcases f with⟨x,B⟩|⟨b,C,vs,x,B,w,y,z,A,l,D⟩
 .exact .inl ⟨by rw[i];exact x,B⟩
 .refine .inr ⟨b,C,vs,by rw[i];exact x,B,w,y,z,A,?_,D⟩;rcases l with l|l
  .exact l
  .exact(d b l).elim
def FQ{f}{g}{F}{args}{L}{Q}{xs}(hf:P.funcs[f]? =ad g)(hb:g.body=ad F)(hN:g.ntmps=n)(i:dT args.length n=ae)(B:cF args=[])(sF:(g.name != "runtime.NumGoroutine")=ae)
  (l:TR P n F ⟨dr 0 args,[],0,[]⟩ (Wj P g L Q xs)):nC P f args L Q xs:=by
 refine⟨zS,?_⟩
 intro H W vs o d
 refine calls_of_wp hf hb ?_
 have K:=xM d
 have i:=c9 i
 refine wp_mono (l {w0:=W,H0:=H,n:=n} ⟨J,a8 _,J,J⟩ ⟨H,jI⟩ W _ ⟨?_,J,?_,?_,?_,?_,?_,o,⟨J,J,J,aW _,λ_ _ _=>rfl⟩,cD.refl _,λ_ _ _ _=>rfl,λ_ l=>absurd l<|Ch _⟩)<|λe a D X=>X<|λ_ l=>l
 .simp[hN];omega
 .intro t v U;simp only[St.kn,cu]at U;let ⟨x,hx,he⟩:=U;cases he;let ⟨_,u,hu,r,_⟩:=mW args vs 0 d t v hx;have p:vs[t]? =ad u:=vN;have gN:t<Z vs:=(rj.1 p).1;have:(vs.toArray++rI (g.ntmps-vs.toArray.size) undef).getD t undef=u:=by rw[nQ,xN zT];simp[p]
  rw[this];exact r
 .intro q b e;simp[St.kn,S]at e
 .intro q w b G k e;simp[St.kn,S]at e
 .intro k x e q C;cases k with
  |m j=>simp[St.kn,S]at e
  |s t=>
   simp only[St.kn,cu]at e
   let ⟨y,z,he⟩:=e
   subst he
   let ⟨_,u,_,_,A⟩:=mW args vs 0 d t y z
   have:=A q C
   rw[B]at this
   cases this
 .intro q x e;simp[St.kn,S]at e
def ahw{n l}{ops}{i}{o:aX}(ho:ops[i]? =ad o)(hg:o.guard=none){d:Y}(hd:o.dst=ad d)(di:d<n){f}{args}{k6}(bU:o.op= .call ⟨.value<|.func f,args,k6⟩)
 {st}{vs}{be:dM} {jh:ET} {xs:V jh.den} (hv:jv st args.toList=ad vs) (hm:cF vs=[]) (hf:nC P f vs be jh xs):k5 P n ops i st ((st.pm l<|.vec be jh xs).put d<|.c<|.X l) l (bD args.toList,[.s d,.m l]):=by
 refine⟨args.toList.flatMap<|cC st,[(.s d,ad<|.v<|.c<|.X l),(.m l,ad<|.b<|.vec be jh xs)],?_,?_,B7 st d l _ _,ew st _,λk hk=>ju⟩
 .intro F kC Q w σ g W a K j aN R hK;have z:=(Cb aN st _ _ hv R).iy (γ:=jI) hm;have hc:=hf.spec g.H W _ aN.sub z;unfold wpOp;simp only[ho,hZ,hg,b7];refine .inl ?_;unfold mO;have S:(execOp a.eval o).run P W= .ok (.enter f<|args.map a.eval) W:=by
   have p:=hf.call;unfold nS at p;rw[execOp,bU];cases A:P.funcs[f]? with
   |none=>rw[A]at p;simp at p
   |some fn=>
    rw[A]at p
    simp only[cw,bne_iff_ne,ne_eq]at p
    have h2:fn.body≠none:=by intro hb;rw[hb]at p;simp at p
    simp[resolve,Act.eval,FC,invoke,callFunc,A,p.1,h2]
  rw[S];simp only[mP];have D:(args.map a.eval)=(args.toList.map a.eval).toArray:=zL;rw[D];refine hc.mono ?_;rintro e W' ⟨v,H',rfl,G,hle,xQ,I,B⟩;simp only[hd];have jS:d<a.tmps.size:=l0;let L:Gh:=⟨H',λr=>if r=l then v else g.γ r⟩;have M:fP w g L:=⟨hle,λr q=>by
   have:r≠l:=λe=>j<|e▸q
   simp[L,this]⟩
  refine hK L W' _<|aN.step (chg:=λ_=>False) (g':=L) ⟨M,xQ,I,B.size,λk hk _=>B.block k hk,B.os,B.tape,B.output⟩ _ l j mL aN.defers ?_ (λ_ h=>h.elim) ?_ ?_ ?_ ?_
  .intro t ht;have fe:d≠t:=rq;simp[gT,lC fe]
  .intro t u ht;simp only[aC]at ht;split at ht
   .rename_i e;simp only[Key.s.injEq]at e;simp only[au,Info.v.injEq]at ht;subst e;subst ht;simp[gT,jS,bA,cQ,L]
   .split at ht
    .simp at ht
    .simp at ht
  .intro r b ht;simp only[aC,reduceCtorEq,bL]at ht;split at ht
   .rename_i e;simp only[Key.m.injEq]at e;simp only[au,Info.b.injEq]at ht;subst e;subst ht;have hs0:=aN.below.size;rcases G with⟨U,e2⟩|⟨b,N,ws,U,e2,e3,e4,e5,e6,e7,e8⟩
    .refine⟨.inl ⟨by simpa[L]using U,e2⟩,.inr ⟨J,λk hk=>?_⟩⟩;have U:v= .slice none 0 0:=U;simp[L,U,cz]at hk
    .have U:v= .slice (ad ⟨b,0,none⟩) (Z xs) N:=U;refine⟨.inr ⟨b,N,ws,by simpa[L]using U,e2,e3,e4,e5,e6,.inl O,e8⟩,.inr ⟨J,λk hk=>?_⟩⟩;simp[L,U,cz]at hk;exact .inl O
   .simp at ht
  .intro k y ht;simp only[aC]at ht;split at ht
   .simp only[au]at ht;subst ht;intro r q;simp[Info.ak,AV.ak,C.ak]at q;exact .inr q
   .split at ht
    .simp only[au]at ht;subst ht;intro r q;simp[Info.ak,aE.ak]at q
    .simp at ht
  .intro r y ht;simp only[aC,reduceCtorEq,bL]at ht;split at ht
   .rename_i e;simp only[Key.m.injEq]at e;exact .inr e.symm
   .simp at ht
 .intro kx bZ;let ⟨x,_,h⟩:=iw.1 bZ;exact dV st x kx h
def ahx{n}{e}{a}{g i}{d f:Y}{args}{k}{F}{pos}{l}{u}{o}{mem}{p}{q}{v}{Q:St->Prop}{vs}{x}{B}{xs}
  (H:jv ⟨o,mem,p,q⟩ args.toList=ad vs) (L:nC P f vs x B xs) (U:RG P n e a g (i+1) u ⟨(d,.c<|.X<|1000000*g+1000*i)::o,(1000000*g+1000*i,.vec x B xs)::mem,p,q⟩ (gU a v (bD args.toList,[.s d,.m<|1000000*g+1000*i])) Q) (W:cF vs=[]:=by rfl) (t:dj d n=ae:=by rfl):
  RG P n e a g i (⟨ad d,.call ⟨.value<|.func f,args,k⟩,F,pos,l,none⟩::u) ⟨o,mem,p,q⟩ v Q:=
 mR (λC=>ahw C J J (c9 t) J H W L) (mT U)
end
section
variable{P:bS}{tt:TT}
def ahy(g:b8 P tt=ae){n e}{f}{i}{o:aX}(q:f[i]? =ad o)(t:o.guard=none){d:Y}(u:o.dst=ad d)(l:d<n){a}{x}{p}(B:uu tt a o.op=ad (x,p))(F:p):k5 P n f i a (a.put d x) e (bD o.op.operands.toList,[.s d]):=by refine⟨nr a o.op,[(.s d,ad<|.v x)],Pk g q t u l B F e,?_,oL a d x,ew a _,λk hk=>ju⟩;intro C m;let ⟨x,_,h⟩:=iw.1 m;exact dV a x C h
def ahz{n}{e}{a}{q i}{d}{op:Op}{v}{pos}{f}{t}{g}{mem}{k}{l}{u}{Q:St->Prop}(m:b8 P tt=ae){x}{p}(B:uu tt ⟨g,mem,k,l⟩ op=ad (x,p))(F:p)
  (H:RG P n e a q (i+1) t ⟨(d,x)::g,mem,k,l⟩ (gU a u (bD op.operands.toList,[.s d])) Q) (o:dj d n=ae:=by rfl):
  RG P n e a q i (⟨ad d,op,v,pos,f,none⟩::t) ⟨g,mem,k,l⟩ u Q:=
 mR (λC=>ahy m C J J (c9 o) B F) (mT H)
end
section
variable{n:Y}{Q:k7}{sl cc:V (Y×AV)}{mem b9:V (Y×aE)}{nx:Y}{gd cr:V (Y×Bool)}{ops:Array aX}{draw:Bool}{p:Pr}{ks dx:V Ks}{i i' n0 cx:Y}{os dH:V aX}{d:Y}{ty:dM}{pos:String}{ig:Array Edge}{R:St->Prop}
def rx{op:Op}{x}{pm}(f:runs dG n nx draw ops.toList os i ⟨sl,mem,n0,gd⟩ .t ks=(⟨ad d,op,ty,pos,ig,none⟩::dH,i',⟨cc,b9,cx,cr⟩,p,dx))(g:uu dG ⟨cc,b9,cx,cr⟩ op=ad (x,pm))(a:pm)
  (k:RG z n ops draw nx (i'+1) dH ⟨(d,x)::cc,b9,cx,cr⟩ (gU draw dx (bD op.operands.toList,[.s d])) R)
  (hp:p:=by exact k9) (e:dj d n=ae:=by rfl):RG z n ops draw nx i os ⟨sl,mem,n0,gd⟩ ks R:=
 jX cj f hp (ahz cj g a k e)
def Ab{f}{args}{a}{vs}{g}{k}{xs}(l:runs dG n nx draw ops.toList os i ⟨sl,mem,n0,gd⟩ .t ks=(⟨ad d,.call ⟨.value<|.func f,args,a⟩,ty,pos,ig,none⟩::dH,i',⟨cc,b9,cx,cr⟩,p,dx))(o:jv ⟨cc,b9,cx,cr⟩ args.toList=ad vs)(q:nC z f vs g k xs)
  (u:RG z n ops draw nx (i'+1) dH ⟨(d,.c<|.X<|1000000*nx+1000*i')::cc,(1000000*nx+1000*i',.vec g k xs)::b9,cx,cr⟩ (gU draw dx (bD args.toList,[.s d,.m<|1000000*nx+1000*i'])) R)
  (hp:p:=by exact k9) (v:cF vs=[]:=by rfl) (e:dj d n=ae:=by rfl):RG z n ops draw nx i os ⟨sl,mem,n0,gd⟩ ks R:=
 jX cj l hp (ahx o q u v e)
end
def CL(i a:Y):AV->AV
 | .c (.X k)=>if k=a then .c (.X i)else .c (.X k)
 |v=>v
def CM(i a:Y):V (Y×AV)->V (Y×AV)
 |[]=>[]
 | (t,v)::d=>(t,CL i a v)::CM i a d
def Ac(i a:Y):V (Y×aE)->V (Y×aE)
 |[]=>[]
 | (k,d)::e=>(if k=a then i else k,d)::Ac i a e
def JY(i a:Y):AV->Bool
 | .c (.X k)=> !(k==i)
 |v=>v.ak.all λk=> !(k==i)&& !(k==a)
def JZ(i a:Y):V (Y×AV)->Bool
 |[]=>ae
 | (_,v)::d=>JY i a v&&JZ i a d
def CN(i a:Y):V (Y×aE)->Bool
 |[]=>ae
 | (k,d)::e=> !(k==i)&&(d.ak.all λk=> !(k==i)&& !(k==a))&&CN i a e
def Wl(i a t:Y):∀l:V (Y×AV),S t (CM i a l)=(S t l).map (CL i a)
 |[]=>rfl
 | (k,v)::d=>by simp only[CM,S,Wl i a t d];split<;>rfl
def Wm{i d t:Y}{v:AV}:∀{l:V (Y×AV)},JZ i d l=ae->S t l=ad v->JY i d v=ae
 |[],_,a=>by simp[S]at a
 | (k,x)::e,a,hl=>by
  simp only[JZ,cw]at a;simp only[S]at hl;split at hl
  .cases hl;exact a.1
  .exact Wm a.2 hl
def Wn{i d t:Y}{f:aE}:∀{l:V (Y×aE)},CN i d l=ae->S t l=ad f->t≠i/\∀k∈f.ak,k≠i/\k≠d
 |[],_,a=>by simp[S]at a
 | (k,x)::m,a,hl=>by
  simp only[CN,cw,l6]at a;simp only[S]at hl;split at hl
  .rename_i e;cases hl;subst e;exact⟨by simpa using a.1.1,λk g=>by simpa using a.1.2 k g⟩
  .exact Wn a.2 hl
def Pn{i m:Y}(t:Y){n:aE}:∀{l:V (Y×aE)},CN i m l=ae->S t (Ac i m l)=ad n->(t=i/\S m l=ad n)\/(t≠i/\t≠m/\S t l=ad n)
 |[],_,f=>by simp[Ac,S]at f
 | (k,x)::s,f,hl=>by
  simp only[CN,cw]at f;have o:k≠i:=by simpa using f.1.1
  simp only[Ac,S]at hl;by_cases a:k=m
  .rw[ao a]at hl;subst a;split at hl
   .rename_i e;cases hl;exact .inl ⟨e.symm,by simp[S]⟩
   .rename_i d;rcases Pn t f.2 hl with⟨rfl,_⟩|⟨p,g,q⟩
    .exact absurd J d
    .exact .inr ⟨p,g,by simp only[S];rw[w (λ(e:k=t)=>g e.symm)];exact q⟩
  .rw[w a]at hl;split at hl
   .rename_i e;cases hl;subst e;exact .inr ⟨o,a,by simp[S]⟩
   .rename_i d;rcases Pn t f.2 hl with⟨rfl,g⟩|⟨p,g,q⟩
    .exact .inl ⟨J,by simp only[S,w a];exact g⟩
    .exact .inr ⟨p,g,by simp only[S,w d];exact q⟩
def gw i p{sl}{mem}{nx}{gd}(hi:dj i (1000000*nx)=ae)(hs:JZ i p sl=ae)(hm:CN i p mem=ae)(NZ:dT 1 i=ae:=by rfl):Wk ⟨sl,mem,nx,gd⟩ ⟨CM i p sl,Ac i p mem,nx,gd⟩:=by
 intro F rA g W a h;have hi:i<1000000*nx:=by simpa[rJ]using hi
 let D:Gh:=⟨g.H,λl=>if l=i then g.γ p else g.γ l⟩;have K:fP (λl=>l≠i) g D:=⟨cD.refl _,λl d=>w d⟩;have c:D.γ i=g.γ p:=ao J;have L:∀l,l≠i->D.γ l=g.γ l:=λl d=>w d
 have hS:∀t r,St.kn ⟨CM i p sl,Ac i p mem,nx,gd⟩ (.s t)=ad (.v r)->∃v,S t sl=ad v/\r=CL i p v:=by intro t r e;simp only[St.kn,Wl,Option.map_map,cu]at e;let ⟨v,hv,he⟩:=e;cases he;exact⟨v,hv,J⟩
 have R:∀t b,St.kn ⟨CM i p sl,Ac i p mem,nx,gd⟩ (.m t)=ad (.b b)->(t=i/\S p mem=ad b)\/(t≠i/\t≠p/\S t mem=ad b):=by intro t b e;simp only[St.kn,cu]at e;let ⟨v,hv,he⟩:=e;cases he;exact Pn t hm hv
 have X:∀t u b,S t mem=ad b->fB F.N g W t b->D.γ u=g.γ t->fB F.N D W u b:=by
  intro t u b q y hγ;have B:=(Wn hm q).2;cases b with
  |box E bz cs=>
   let ⟨k,vs,rest,e1,Q,G,V,e5,e6⟩:=y
   exact⟨k,vs,rest,oP,Q,aR.mono K (λl d=>(B l d).1) G,V,e5,by rw[hγ];exact e6⟩
  |vec E T ys=>
   rcases y with⟨e1,Q⟩|⟨k,cap,vs,e1,Q⟩
   .exact .inl ⟨oP,Q⟩
   .exact .inr ⟨k,cap,vs,oP,Q⟩
  |gM f first zX=>
   let ⟨us,ws,e1,Q,G⟩:=y
   exact⟨us,ws,oP,fa.mono K (λl d=>(B l<|dY _ d).1) Q,fa.mono K (λl d=>(B l<|fU _ d).1) G⟩
  |fz E cs=>
   let ⟨k,vs,rest,e1,Q,G,V,e5⟩:=y
   exact⟨k,vs,rest,oP,Q,aR.mono K (λl d=>(B l d).1) G,V,e5⟩
  |mp ka va ys=>
   let ⟨k,es,e1,Q,G,V⟩:=y
   exact⟨k,es,oP,Q,g5.mono K (λl d=>(B l d).1) G,V⟩
  |it m n seen=>
   let ⟨k,b,e1,e0,Q⟩:=y
   exact⟨k,b,oP,by rw[K.γ m (B m<|by simp[aE.ak]).1];exact e0,Q⟩
 have o:∀t b,S t mem=ad b->St.kn ⟨sl,mem,nx,gd⟩ (.m t)=ad (.b b):=λt b q=>by simp[St.kn,q]
 refine⟨D,h.size,h.defers,?_,?_,?_,?_,?_,h.sub,h.below,h.le,h.fresh,λl d=>⟨(h.fS l d).1,by have:=c9 NZ;rw[L l O];exact(h.fS l d).2⟩⟩
 .intro t r e;obtain⟨v,hv,rfl⟩:=hS t r e;have y:=h.eE t v zM;have z:=Wm hs hv;unfold CL;split
  .rename_i k;have z8:k≠i:=by simpa[JY]using z
   have Y:a.tmps.getD t undef=g.γ k:=y;split
   .rename_i e';subst e';show _=D.γ i;rw[c];exact Y
   .show _=D.γ k;rw[L k z8];exact Y
  .rename_i fe;refine bA.mono K (λl d=>?_) y;unfold JY at z;split at z
   .rename_i k;exact absurd J<|fe k
   .have:=(l6.1 z) l d;simp at this;exact this.1
 .intro t b e;rcases R t b e with⟨rfl,q⟩|⟨I,h2,q⟩
  .exact X p t b q (h.cL p b<|o p b q) c
  .exact X t t b q (h.cL t b<|o t b q)<|L t I
 .intro t u b P k e e' M U;rcases R t b e with⟨rfl,q⟩|⟨I,h2,q⟩<;>rcases R u P e' with⟨rfl,A⟩|⟨Z,CA,A⟩
  .rfl
  .rw[c]at M;rw[L u Z]at U;exact absurd (h.inj p u b P k (o _ _ q) (o _ _ A) M U)<|λe=>CA e.symm
  .rw[c]at U;rw[L t I]at M;exact absurd (h.inj t p b P k (o _ _ q) (o _ _ A) M U) h2
  .rw[L t I]at M;rw[L u Z]at U;exact h.inj t u b P k (o _ _ q) (o _ _ A) M U
 .intro key x e l d;cases key with
  |s t=>
   cases x with
   |b P=>simp only[St.kn,cu]at e;let ⟨_,_,he⟩:=e;cases he
   |v r=>
    obtain⟨v,hv,rfl⟩:=hS t r e
    have FR:=h.ak (.s t) (.v v) zM
    have d:l∈(CL i p v).ak:=d
    unfold CL at d
    split at d
    .split at d
     .simp only[AV.ak,C.ak,iU]at d;subst d;exact hi
     .exact FR l d
    .exact FR l d
  |m t=>
   cases x with
   |v r=>simp only[St.kn,cu]at e;let ⟨_,_,he⟩:=e;cases he
   |b P=>
    rcases R t P e with⟨rfl,q⟩|⟨I,h2,q⟩
    .exact h.ak (.m p) (.b P) (o p P q) l d
    .exact h.ak (.m t) (.b P) (o t P q) l d
 .intro t x e;cases x with
  |v r=>simp only[St.kn,cu]at e;let ⟨_,_,he⟩:=e;cases he
  |b P=>
   rcases R t P e with⟨rfl,q⟩|⟨I,h2,q⟩
   .exact hi
   .exact h.dQ t _<|o t P q
def Wk.trans{a d e}(i:Wk a d)(k:Wk d e):Wk a e:=λF f g W ac l=>by let ⟨m,n⟩:=i F f g W ac l;exact k F f m W ac n
def Wo(g:Gh)(W:World)(k:dM)(i:ET)(l:AV)(d:V i.den)(e:Ending)(f:World):Prop:=
 ∃v a,e= .returned v/\bA ⟨a.H,jI⟩ l v/\fB (λ_=>True) a f 0 (.vec k i d)/\a.γ 0=g.γ 0/\cD g.H a.H/\(∀b o,b<W.heap.size->¬cz (g.γ 0)=ad b->a.H b o=g.H b o)/\Sub a.H f/\BK (λb=>cz (g.γ 0)=ad b) W f
structure sV(P:bS)(f:FuncId)(args:V AV)(E:dM)(a:ET)(xs:V a.den)(r:AV)(d:V a.den):Prop where
 call:nS P f=ae
 iy:r.ak=[]
 spec:∀g W vs,Sub g.H W->eQ g args vs->fB (λ_=>True) g W 0 (.vec E a xs)->Calls P f vs.toArray W (Wo g W E a r d)
def Po(P:bS)(k:Func)(l:dM)(i:ET)(m:AV)(f:V i.den):k7:=λF e a W=>F.k0=1->bodyPost P k (λe g=>∃v d,e= .returned v/\bA ⟨d.H,jI⟩ m v/\fB F.N d g 0 (.vec l i f)/\d.γ 0=F.γ0 0/\cD F.H0 d.H/\(∀b o,b<F.w0.heap.size->¬F.own b->d.H b o=F.H0 b o)/\Sub d.H g/\BK F.own F.w0 g) e a W
section
variable{P:bS}{tt:TT}{n:Y}{st:St}
def x6(f:b8 P tt=ae){o}{p}{q i}{s}{t}{d}(v:kF tt st p=ad q)(k:bm q i)(l:S 0 st.mem=ad (.vec s t d))(m:o.results=p.toArray:=by rfl)(x:i.ak=[]:=by rfl):eR n .ret st (Po P o s t i d):=by intro F B g W a h C;let ⟨u,hu,e⟩:=zR f h m v;exact⟨h.defers.trans B.ds,u,hu,u,g,J,(k.1 _ _ e).iy x (cD.refl _) jI,h.cL 0 _ (by simp[St.kn,l]),(h.fS 0 O).2,h.le,h.fresh,h.sub,h.below⟩
def Wp(e:b8 P tt=ae){m}{o}{p f}{q}{s}{d}(t:kF tt st o=ad p)(i:bm p f)(k:S 0 st.mem=ad (.vec q s d))(l:m.results=o.toArray:=by rfl)(u:f.ak=[]:=by rfl):eR n .normal st (Po P m q s f d):=
 λF v g W a h=>x6 e t i k l u F v g W a h
def J0:V Y->Bool
 |[]=>ae
 |id::a=>Nat.beq id 0&&J0 a
def Wq:∀{l:V Y},J0 l=ae->∀d∈l,d=0
 |[],_,_,a=>by cases a
 |f::g,e,d,a=>by
  simp only[J0,cw]at e;rcases bX.1 a with rfl|a
  .exact kI e.1
  .exact Wq e.2 d a
def FT{f}{fn}{df}{args}{L}{Q}{xs p}{aV}(hf:P.funcs[f]? =ad fn)(hb:fn.body=ad df)(hN:fn.ntmps=n)(hle:dT args.length n=ae)(x7:J0 (cF args)=ae)(x8:aV.ak=[])(sF:(fn.name != "runtime.NumGoroutine")=ae)
  (cq:TR P n df ⟨dr 0 args,[(0,.vec L Q xs)],1,[]⟩ (Po P fn L Q aV p)):sV P f args L Q xs aV p:=by
 refine⟨zS,x8,?_⟩
 intro g W vs z l A
 refine calls_of_wp hf hb ?_
 have I:=xM l
 have hle:=c9 hle
 have d:∀i b,St.kn ⟨dr 0 args,[(0,.vec L Q xs)],1,[]⟩ (.m i)=ad (.b b)->i=0/\b= .vec L Q xs:=by
  intro i b e;simp only[St.kn,S,cu]at e;let ⟨x,hx,he⟩:=e;cases he;split at hx
  .rename_i O;cases hx;exact⟨O.symm,J⟩
  .cases hx
 let F:eK:={w0:=W,H0:=g.H,n:=n,own:=λb=>cz (g.γ 0)=ad b,k0:=1,γ0:=g.γ}
 refine wp_mono (cq F ⟨J,aW _,J,J⟩ g W _ ⟨?_,J,?_,?_,?_,?_,?_,z,⟨J,J,J,aW _,λ_ _ _=>rfl⟩,cD.refl _,λ_ _ _ _=>rfl,?_⟩) ?_
 .simp[hN,F];omega
 .intro t v M;simp only[St.kn,cu]at M;let ⟨x,hx,he⟩:=M;cases he;let ⟨_,u,hu,R,_⟩:=mW args vs 0 l t v hx;have D:vs[t]? =ad u:=vN;have gN:t<Z vs:=(rj.1 D).1;have:(vs.toArray++rI (fn.ntmps-vs.toArray.size) undef).getD t undef=u:=by rw[nQ,xN zT];simp[D]
  rw[this];exact R
 .intro i b e;obtain⟨rfl,rfl⟩:=d i b e;exact A.xY (λk V=> .inr V) J J ⟨cD.refl _,λ_ _=>rfl⟩
 .intro i G b Y k e e' _ _;rw[(d i b e).1,(d G Y e').1]
 .intro k x e i q;cases k with
  |m j=>
   cases x with
   |v y=>simp only[St.kn,cu]at e;let ⟨_,_,he⟩:=e;cases he
   |b b=>obtain⟨_,rfl⟩:=d j b e;simp[Info.ak,aE.ak]at q
  |s t=>
   simp only[St.kn,cu]at e
   let ⟨y,hy,he⟩:=e
   subst he
   let ⟨_,u,_,_,h6⟩:=mW args vs 0 l t y hy
   have:=Wq x7 i<|h6 i q
   subst this
   show 0<1000000*1
   decide
 .intro i x e;cases x with
  |v y=>simp only[St.kn,cu]at e;let ⟨_,_,he⟩:=e;cases he
  |b b=>rw[(d i b e).1];show 0<1000000*1;decide
 .intro i q;have:i=0:=by have:i<1:=q;omega
  subst this;exact⟨(T:0<1000000*1),J⟩
 .intro e a w C;have C:=C J;have B:∀e w,(∃v K,e=ahj v/\bA ⟨K.H,jI⟩ aV v/\fB F.N K w 0 (.vec L Q p)/\K.γ 0=F.γ0 0/\cD F.H0 K.H/\(∀b o,b<F.w0.heap.size->¬F.own b->K.H b o=F.H0 b o)/\Sub K.H w/\BK F.own F.w0 w)->Wo g W L Q aV p e w:=by rintro e w ⟨v,K,U,h2,X,h4⟩;exact⟨v,K,U,h2,X.xY (λ_ _=>trivial) J J ⟨cD.refl _,λ_ _=>rfl⟩,h4⟩
  cases e with
  |normal=>let ⟨U,v,h2,X⟩:=C;exact⟨U,v,h2,B _ _ X⟩
  |ret=>let ⟨U,v,h2,X⟩:=C;exact⟨U,v,h2,B _ _ X⟩
  |panic df=>let ⟨U,X⟩:=C;exact⟨U,B _ _ X⟩
  |outgrown=>exact B _ _ C
  |exit _=>exact C
  |goto _=>exact C
def CO(a:Y):C->C
 | .P _ o=> .P a o
 | .X _=> .X a
 | .Y _ n i o=> .Y a n i o
 | .L _ o l d=> .L a o l d
 | .W _ o l=> .W a o l
 |d=>d
def FU(d:Y):AV->AV
 | .c x=> .c<|CO d x
 | .a cs=> .a<|cs.map<|CO d
 | .t e=> .t<|e.map λs=>(s.1,s.2.map<|CO d)
def Pp{g:Gh}{d:Y}:∀{e:C}{v:aO},cQ g (CO d e) v->cQ ⟨g.H,λ_=>g.γ d⟩ e v
 | .any,_,a=>a
 | .B _,_,a=>a
 | .I _ _,_,a=>a
 | .V _,_,a=>a
 | .S _ _,_,a=>a
 | .P _ _,_,a=>a
 | .X _,_,a=>a
 | .Y _ _ _ _,_,a=>a
 | .E _ _ _,_,a=>a
 | .M _,_,a=>a
 | .L _ _ _ (ad _),_,a=>a
 | .L _ _ _ none,_,a=>a
 | .W _ _ _,_,a=>a
def Pq{g:Gh}{d:Y}:∀{f:V C}{vs:V aO},aR g (f.map<|CO d) vs->aR ⟨g.H,λ_=>g.γ d⟩ f vs
 |[],_,a=>a
 |_::_,_,a=>by let ⟨v,i,e,k,h2⟩:=a;exact⟨v,i,e,Pp k,Pq h2⟩
def Wr{g:Gh}{i:Y}:∀{k:V (Bool×V C)}{vs:V aO},fa g (k.map λs=>(s.1,s.2.map<|CO i)) vs->fa ⟨g.H,λ_=>g.γ i⟩ k vs
 |[],_,d=>d
 | (l,f)::_,_,d=>by
  let ⟨v,m,e,a,h2⟩:=d;refine⟨v,m,e,?_,Wr h2⟩;match l,f,a with
  |true,f,a=>let ⟨vs,e,d⟩:=a;exact⟨vs,e,Pq d⟩
  |false,[f],a=>exact Pp a
  |false,[],a=>exact a.elim
  |false,_::_::_,a=>exact a.elim
def ahA{g}{f}{x}{v}(d:bA g (FU f x) v):bA ⟨g.H,λ_=>g.γ f⟩ x v:=by
 cases x with
 |c y=>exact Pp d
 |a cs=>let ⟨vs,e,d⟩:=d;exact⟨vs,e,Pq d⟩
 |t i=>let ⟨vs,e,d⟩:=d;exact⟨vs,e,Wr d⟩
def Ws{g:Gh}{d:Y}:∀{xs:V AV}{vs:V aO},eQ g (xs.map<|FU d) vs->eQ ⟨g.H,λ_=>g.γ d⟩ xs vs
 |[],_,a=>a
 |_::_,_,a=>by let ⟨v,f,e,i,h2⟩:=a;exact⟨v,f,e,ahA i,Ws h2⟩
def ahB{n new}{ops}{i}{o:aX}(ho:ops[i]? =ad o)(hg:o.guard=none){d:Y}(hd:o.dst=ad d)(di:d<n){f}{args}{k6}(bU:o.op= .call ⟨.value<|.func f,args,k6⟩)
 {st}{vs}{l:Y} {be:dM} {jh:ET} {xs wb:V jh.den} {aV:AV} (hv:jv st args.toList=ad (vs.map<|FU l)) (hl:S l st.mem=ad (.vec be jh xs)) (hf:sV P f vs be jh xs aV wb):k5 P n ops i st ((st.pm l<|.vec be jh wb).put d aV) new (bD args.toList++cX [l],[.s d,.m l]):=by
 refine⟨args.toList.flatMap (cC st)++ff st [l],[(.s d,ad<|.v aV),(.m l,ad<|.b<|.vec be jh wb)],?_,?_,B7 st d l _ _,?_,λk hk=>ju⟩
 .intro F kC Q M σ g W a K zr aN fc hK;have N:=Cb aN st _ _ hv<|λkx C=>fc kx<|dY _ C;have U:σ (.m l)=ad (.b<|.vec be jh xs):=fc (.m l,.b<|.vec be jh xs) pY;have X:=aN.cL l _ U;have O:fB (λ_=>True) ⟨g.H,λ_=>g.γ l⟩ W 0 (.vec be jh xs):=by
   rcases X with⟨G,e2⟩|⟨b,cap,ws,G,e2,e3,e4,e5,e6,e7,e8⟩
   .exact .inl ⟨G,e2⟩
   .exact .inr ⟨b,cap,ws,G,e2,e3,e4,e5,e6,A,e8⟩
  have hc:=hf.spec ⟨g.H,λ_=>g.γ l⟩ W _ aN.sub (Ws N) O;unfold wpOp;simp only[ho,hZ,hg,b7];refine .inl ?_;unfold mO;have hex:(execOp a.eval o).run P W= .ok (.enter f<|args.map a.eval) W:=by
   have B:=hf.call;unfold nS at B;rw[execOp,bU];cases R:P.funcs[f]? with
   |none=>rw[R]at B;simp at B
   |some fn=>
    rw[R]at B
    simp only[cw,bne_iff_ne,ne_eq]at B
    have h2:fn.body≠none:=by intro hb;rw[hb]at B;simp at B
    simp[resolve,Act.eval,FC,invoke,callFunc,R,B.1,h2]
  rw[hex];simp only[mP];have ahC:(args.map a.eval)=(args.toList.map a.eval).toArray:=zL;rw[ahC];refine hc.mono ?_;rintro e W' ⟨v,g',rfl,Ps,c,p,hle,xQ,vU,w⟩;simp only[hd];have jS:d<a.tmps.size:=l0;let g2:Gh:=⟨g'.H,g.γ⟩;have Ct:fP M g g2:=⟨hle,λ_ _=>rfl⟩;have p:g'.γ 0=g.γ l:=p;have ahD:∀b o,b<W.heap.size->g2.H b o=g.H b o:=by
   intro b o hb;by_cases L:cz (g.γ l)=ad b
   .rcases X with⟨G,_⟩|⟨b1,cap,ws,G,e2,e3,e4,e5,e6,e7,e8⟩
    .rw[G]at L;simp[cz]at L
    .rcases c with⟨q,_⟩|⟨b2,I,Wt,q,D,Wu,Jj,Wv,Ww,e7',Z⟩
     .rw[p,G]at q;simp at q
     .have h1:b1=b:=by rw[G]at L;simpa[cz]using L
      have h2:b2=b:=by rw[<-p,q]at L;simpa[cz]using L
      subst h1;rw[e8 o];subst h2;exact Z o
   .exact xQ b o hb L
  refine hK g2 W' _<|aN.step (chg:=λj=>j=l) (g':=g2) ⟨Ct,ahD,vU,w.size,?_,w.os,w.tape,w.output⟩ _ new zr mL aN.defers ?_ ?_ ?_ ?_ ?_ ?_
  .intro k hk fe;exact w.block k hk<|fe l J
  .intro t ht;have fe:d≠t:=rq;simp[gT,lC fe]
  .intro j hj;subst hj;exact⟨xH,_,U⟩
  .intro t u ht;simp only[aC]at ht;split at ht
   .rename_i e;simp only[Key.s.injEq]at e;simp only[au,Info.v.injEq]at ht;subst e;subst ht;have:=Ps.iy hf.iy (cD.refl _) g.γ;simpa[gT,jS,g2]using this
   .split at ht
    .simp at ht
    .simp at ht
  .intro j b ht;simp only[aC,reduceCtorEq,bL]at ht;split at ht
   .rename_i e;simp only[Key.m.injEq]at e;simp only[au,Info.b.injEq]at ht;subst e;subst ht;refine⟨?_,.inl ⟨aN.dQ _ _ U,_,U⟩⟩;rcases c with⟨q,D⟩|⟨b2,I,Wt,q,D,Wu,Jj,Wv,Ww,e7',Z⟩
    .exact .inl ⟨by show g.γ l=_;rw[<-p,q],D⟩
    .refine .inr ⟨b2,I,Wt,by show g.γ l=_;rw[<-p,q],D,Wu,Jj,Wv,Ww,?_,Z⟩;exact(X.block (k:=b2)<|by rw[<-p,q];rfl).1
   .simp at ht
  .intro k y ht;simp only[aC]at ht;split at ht
   .simp only[au]at ht;subst ht;intro l z;simp only[Info.ak]at z;rw[hf.iy]at z;cases z
   .split at ht
    .simp only[au]at ht;subst ht;intro l z;simp[Info.ak,aE.ak]at z
    .simp at ht
  .intro j y ht;simp only[aC,reduceCtorEq,bL]at ht;split at ht
   .rename_i e;simp only[Key.m.injEq]at e;exact .inl<|e▸aN.dQ _ _ U
   .simp at ht
 .intro kx C;rcases aY.1 C with C|C
  .let ⟨x,_,h⟩:=iw.1 C;exact dV st x kx h
  .exact jV st [l] kx C
 .intro k hk;simp only[dq,fo,aY]at hk;rcases hk with h|h
  .exact dY _<|ew st _ k h
  .exact fU _<|jW st [l] k h
def ahF{n}{e}{a}{B i}{d f:Y}{args}{l}{U}{pos}{o}{F}{p}{mem}{q}{t}{H}{Q:St->Prop}{vs}{g}{u}{v}{xs k}{L}
  (W:jv ⟨p,mem,q,t⟩ args.toList=ad (vs.map<|FU g)) (hl:S g mem=ad (.vec u v xs)) (hf:sV P f vs u v xs L k) (cq:RG P n e a B (i+1) F ⟨(d,L)::p,(g,.vec u v k)::mem,q,t⟩ (gU a H (bD args.toList++cX [g],[.s d,.m g])) Q) (x:dj d n=ae:=by rfl):
  RG P n e a B i (⟨ad d,.call ⟨.value<|.func f,args,l⟩,U,pos,o,none⟩::F) ⟨p,mem,q,t⟩ H Q:=
 mR (λC=>ahB C J J (c9 x) J W hl hf) (mT cq)
def ahG(bW:b8 P tt=ae){n U}{ops}{i}{o:aX}(ho:ops[i]? =ad o)(hg:o.guard=none){d:Y}(hd:o.dst=ad d)(di:d<n){t}{x B H}(bU:o.op= .slice t x (ad B) (ad H) none)
 {st}{p}{be}{jh:ET} {xs:V jh.den} {k1 k2:lX} {a J1:G} (hx:st.ev x=ad (.c<|.X p)) (hl:S p st.mem=ad (.vec be jh xs)) (hlo:st.ev B=ad (.c<|.I k1 a)) (hhi:st.ev H=ad (.c<|.I k2 J1)) (hT:jh.n=1) (sS:vD tt t 1=ae)
  {u v:Y} (ea:a=(u:G)) (eb:J1=(v:G)) (huv:u<v) (hv:v<=Z xs):k5 P n ops i st (st.put d<|.c<|.W p u<|v-u) U (bD [x,B,H]++cX [p],[.s d]):=by
 refine⟨(cC st x++(cC st B++cC st H))++ff st [p],[(.s d,ad<|.v<|.c<|.W p u<|v-u)],?_,?_,oL st d _,?_,λk hk=>ju⟩
 .refine ri ho hg hd di _ _ U ?_;intro F w σ g W L f K;have y:L.eval x=g.γ p:=du f st x _ hx<|λq bZ=>K q dR;have z:L.eval B= .int k1 a:=du f st B _ hlo<|λq bZ=>K q dR;have A:L.eval H= .int k2 J1:=du f st H _ hhi<|λq bZ=>K q dR;have D:=rh f st x _ hx<|λq bZ=>K q dR;have M:σ (.m p)=ad (.b<|.vec be jh xs):=K (.m p,.b<|.vec be jh xs) pY;let ⟨e,i',N,R,hs⟩:=BU bW sS;rcases f.cL p _ M with⟨_,h0⟩|⟨bb,l,vs,r,_,_,sy,_⟩
  .subst h0;simp at hv;omega
  .refine⟨λj hj=>D j Oi,.slice (ad ⟨bb,u,none⟩) (v-u) (l-u),?_,bb,l-u,by rw[r];rfl,J,O⟩;have Q:execOp L.eval o=(do pure (.value<|<-Instr.sliceAt t (L.eval x) ((ad B).map L.eval) ((ad H).map L.eval) (none.map L.eval))):=ua;have FV:(vE ae (Z xs) l (ad<|.int k1 a) (ad<|.int k2 J1) none).run P W= .ok (u,v,l) W:=by have c1:v<=l:=O;have c2:u<=v:=O;subst ea eb;simp[vE,Instr.sliceBound,asIntOf,c1,c2,Sem.run,pure]
   have fe:¬l=u:=O;rw[Q];simp only[uh,Option.map_none,y,z,A,r,Instr.sliceAt,cZ,run_underlying N,de,Instr.slice,FV,run_sizeOf R,hs];simp[fe,k4,Sem.run,pure]
 .intro q bZ;rcases aY.1 bZ with h|h
  .rcases aY.1 h with h|h
   .exact dV _ x q h
   .rcases aY.1 h with h|h
    .exact dV _ B q h
    .exact dV _ H q h
  .exact jV _ [p] q h
 .intro k hk;simp only[dq,fo,aY]at hk;rcases hk with(h|h|h)|h
  .exact dY _<|ew st [x,B,H] k uf
  .exact dY _<|ew st [x,B,H] k vI
  .exact dY _ (ew st [x,B,H] k (by simp only[dq,kD,fo,aY];exact .inr<|.inr<|.inl h))
  .exact fU _<|jW st [p] k h
def Wx{g:Gh}(d:ET):∀(xs:V d.den)(vs:V aO),aR g (xs.flatMap<|av d) vs->Z vs=Z xs*d.n/\∀i(e:i<Z xs),cV g.H d xs[i] ((az (i*d.n) vs).take d.n)
 |[],vs,e=>by have e:vs=[]:=e;subst e;exact⟨ax,λi e=>by simp at e⟩
 |x::xs,vs,e=>by
  rw[kD]at e;obtain⟨a,b,rfl,l,m⟩:=Et e;have k:=zk d x a l;have f:=cV.length d _ _ k;let ⟨hl,hc⟩:=Wx d xs b m;refine⟨by simp[f,hl,gk];omega,λi o=>?_⟩;cases i with
  |zero=>
   simp only[rB,oQ,tX]
   rw[<-f,List.take_left']
   .exact k
   .rfl
  |succ i=>
   simp only[zB]
   have:=hc i (by simpa using o)
   rw[show(i+1)*d.n=Z a+i*d.n by rw[gk,f];omega,<-oN,List.drop_left']
   .exact this
   .rfl
def ahJ(bW:b8 P tt=ae){n new}{ops}{i}{o:aX}(ho:ops[i]? =ad o)(hg:o.guard=none){d:Y}(hd:o.dst=ad d)(di:d<n){x q}{t1 t2}(bU:o.op= .call ⟨.builtin .copy,#[x,q],#[t1,t2]⟩)
 {st}{p}{be E1:dM} {f}{xs l:V f.den} {ei:TI} (hx:st.ev x=ad (.c<|.X p)) (hl:S p st.mem=ad (.vec be f xs)) (hy:st.ev q=ad (.c<|.S f l)) (hT:x4 tt t1 t2=ad (E1,ei)) (rk:ei.size=f.n) (hle:Z l<=Z xs) (B:xs≠[]):
  k5 P n ops i st ((st.pm p<|.vec be f<|l++az (Z l) xs).put d<|.c<|.I .i64<|Z l) new (bD [x,q]++cX [p],[.s d,.m p]):=by
 refine⟨(cC st x++cC st q)++ff st [p],[(.s d,ad<|.v<|.c<|.I .i64<|Z l),(.m p,ad<|.b<|.vec be f<|l++az (Z l) xs)],?_,?_,B7 st d p _ _,?_,λk hk=>ju⟩
 .intro F kC Q known σ g W a K N aN w hK;have hT:=JK bW hT;rw[rk]at hT;have vS:a.eval x=g.γ p:=du aN st x _ hx<|λA bZ=>w A dR;have sO:=du aN st q _ hy<|λA bZ=>w A dR;have H:σ (.m p)=ad (.b<|.vec be f xs):=w (.m p,.b<|.vec be f xs) pY;let ⟨e2,iv⟩:=hT.u2;let ⟨inf,z,R,rC,Cs,vT,sL⟩:=hT.info;let ⟨us,U,v3,qi,v5⟩:=z4 (P:=P) (st:=st) (sz:=f.n) (y:= .c<|.S f l) (m:=Z l) (cs:=l.flatMap<|av f) (ids:=[]) aN (by simp[sQ]) sO (λp L=>by cases L) iv<|l6.2<|Vz l;let ⟨D,huc⟩:=Wx f l us v3;rcases aN.cL p _ H with⟨_,h0⟩|⟨b,cap,vs,G,hh,sH,sy,hlen,hr,hN,hz⟩
  .exact absurd h0 B
  have JB:Z us<=Z vs:=by rw[D,sH];exact ef _ O
  have sS:=zC (P:=P) b us W vs 0 0 hh O v5;simp only[iR]at sS;have iS:(Builtin.copy_ #[t1,t2] o.type #[a.eval x,a.eval q]).run P W= .ok (.int .i64<|Z l) (iH W b (cM vs us 0) be):=by rw[vS,G];have OT:Nat.min (Z l) (Z xs)=Z l:=q7 hle;have hc:=U.cells;simp[Builtin.copy_,run_underlying hT.u1,sizeOf,typeInfo,R,U.len,OT,rC,hc,sS,goInt,Sem.run,pure]
  have hex:(execOp a.eval o).run P W= .ok (.value<|.int .i64<|Z l) (iH W b (cM vs us 0) be):=by refine Cq bU<|λcs=>?_;have e:(#[x,q]:Array dS).map a.eval= #[a.eval x,a.eval q]:=ax;rw[e];simp only[Go.builtin,cZ,iS,de];rfl
  unfold wpOp;simp only[ho,hZ,hg,b7];refine .inl ?_;unfold mO;rw[hex];simp only[mP,hd];have jS:d<a.tmps.size:=l0;have hb:b<W.heap.size:=(fT.1 hh).1;have M:Z (l++az (Z l) xs)=Z xs:=bV;refine hK g _ _<|aN.step (chg:=λj=>j=p) (g':=g) ⟨⟨cD.refl _,λ_ _=>rfl⟩,λ_ _ _=>rfl,zD aN.sub hz,zF,?_,J,J,J⟩ _ new N mL aN.defers ?_ ?_ ?_ ?_ ?_ ?_
  .intro k' xJ B;have:b≠k':=λe=>B p J (by rw[G,e];rfl)
   exact xE this
  .intro t ht;have B:d≠t:=rq;simp[gT,lC B]
  .intro j r;subst r;exact⟨xH,_,H⟩
  .intro t u ht;simp only[aC]at ht;split at ht
   .rename_i e;simp only[Key.s.injEq]at e;simp only[au,Info.v.injEq]at ht;subst e;subst ht;simp[gT,jS,bA,cQ]
   .split at ht
    .simp at ht
    .simp at ht
  .intro j bk r;simp only[aC,reduceCtorEq,bL]at r;split at r
   .rename_i e';simp only[Key.m.injEq]at e';subst e';simp only[au,Info.b.injEq]at r;subst r;refine⟨.inr ⟨b,cap,cM vs us 0,by rw[M];exact G,xD hb,?_,by rw[M];exact sy,by rw[M];exact hlen,λj r=>?_,hN,hz⟩,.inl ⟨aN.dQ _ _ H,_,H⟩⟩
    .rw[xF _ _ _ O];exact sH
    .have z5:cM vs us 0=us++az (Z us) vs:=by simp[cM]
     rw[z5];by_cases tU:j<Z l
     .rw[vF tU];have h1:=huc j tU;have h2:j*f.n+f.n<=Z us:=by rw[D,(EI:j*f.n+f.n=(j+1)*f.n)];exact ef _ O
      rw[zE O,vG bV];exact h1
     .have Fp:j<Z xs:=by omega
      rw[List.getElem_append_right O,sx];have h1:=hr j Fp;have e1:Z l+(j-Z l)=j:=O;have h3:Z us<=j*f.n:=by rw[D];exact ef _ O
      have e2:az (j*f.n) (us++az (Z us) vs)=az (j*f.n) vs:=by rw[List.drop_append,sB h3,sA,oN,(O:Z us+(j*f.n-Z us)=j*f.n)]
      rw[e2];simp only[e1];exact h1
   .simp at r
  .intro k q ht;simp only[aC]at ht;split at ht
   .simp only[au]at ht;subst ht;intro p L;simp[Info.ak,AV.ak,C.ak]at L
   .split at ht
    .simp only[au]at ht;subst ht;intro p L;simp[Info.ak,aE.ak]at L
    .simp at ht
  .intro j q ht;simp only[aC,reduceCtorEq,bL]at ht;split at ht
   .rename_i e;simp only[Key.m.injEq]at e;exact .inl<|e▸aN.dQ _ _ H
   .simp at ht
 .intro A bZ;rcases aY.1 bZ with h|h
  .rcases aY.1 h with h|h
   .exact dV _ x A h
   .exact dV _ q A h
  .exact jV _ [p] A h
 .intro k hk;simp only[dq,fo,aY]at hk;rcases hk with(h|h)|h
  .exact dY _<|ew st [x,q] k uf
  .exact dY _<|ew st [x,q] k vI
  .exact fU _<|jW st [p] k h
end
section
variable{n:Y}{sl cc:V (Y×AV)}{mem b9:V (Y×aE)}{nx:Y}{gd cr:V (Y×Bool)}{ops:Array aX}{draw:Bool}{p:Pr}{ks dx:V Ks}{i i' n0 cx:Y}{os dH:V aX}{d:Y}{ty:dM}{pos:String}{ig:Array Edge}{R:St->Prop}
def x9 id{f}{args}{e}{vs}{g}{k}{xs a}{o}(q:runs dG n nx draw ops.toList os i ⟨sl,mem,n0,gd⟩ .t ks=(⟨ad d,.call ⟨.value<|.func f,args,e⟩,ty,pos,ig,none⟩::dH,i',⟨cc,b9,cx,cr⟩,p,dx))(u:sV z f vs g k xs o a)(v:jv ⟨cc,b9,cx,cr⟩ args.toList=ad (vs.map<|FU id))(x:S id b9=ad (.vec g k xs))
  (B:RG z n ops draw nx (i'+1) dH ⟨(d,o)::cc,(id,.vec g k a)::b9,cx,cr⟩ (gU draw dx (bD args.toList++cX [id],[.s d,.m id])) R)
  (hp:p:=by exact k9) (l:dj d n=ae:=by rfl):RG z n ops draw nx i os ⟨sl,mem,n0,gd⟩ ks R:=
 jX cj q hp (ahF v x u B l)
def Wy(u v:Y){t}{x f g}{e}{H}{B}{xs}{L P}{a F}(Q:runs dG n nx draw ops.toList os i ⟨sl,mem,n0,gd⟩ .t ks=(⟨ad d,.slice t x (ad f) (ad g) none,ty,pos,ig,none⟩::dH,i',⟨cc,b9,cx,cr⟩,p,dx))
  (U:St.ev ⟨cc,b9,cx,cr⟩ x=ad (.c<|.X e)) (hl:S e b9=ad (.vec H B xs)) (k:St.ev ⟨cc,b9,cx,cr⟩ f=ad (.c<|.I L a)) (l:St.ev ⟨cc,b9,cx,cr⟩ g=ad (.c<|.I P F)) (ea:a=(u:G)) (eb:F=(v:G)) (m:u<v) (hv:v<=Z xs)
  (hk:RG z n ops draw nx (i'+1) dH ⟨(d,.c<|.W e u<|v-u)::cc,b9,cx,cr⟩ (gU draw dx (bD [x,f,g]++cX [e],[.s d])) R) (hT:B.n=1:=by rfl) (o:vD dG t 1=ae:=by rfl)
  (hp:p:=by exact k9) (q:dj d n=ae:=by rfl):RG z n ops draw nx i os ⟨sl,mem,n0,gd⟩ ks R:=
 jX cj Q hp (mR (λC=>ahG cj C J J (c9 q) J U hl k l hT o ea eb m hv)<|mT hk)
def J2{x g}{u v}{a}{B H:dM}{f}{xs e}{F}(L:runs dG n nx draw ops.toList os i ⟨sl,mem,n0,gd⟩ .t ks=(⟨ad d,.call ⟨.builtin .copy,#[x,g],#[u,v]⟩,ty,pos,ig,none⟩::dH,i',⟨cc,b9,cx,cr⟩,p,dx))
  (P:St.ev ⟨cc,b9,cx,cr⟩ x=ad (.c<|.X a)) (Q:S a b9=ad (.vec B f xs)) (U:St.ev ⟨cc,b9,cx,cr⟩ g=ad (.c<|.S f e)) (W:x4 dG u v=ad (H,F)) (k:Z e<=Z xs) (l:xs≠[])
  (hk:RG z n ops draw nx (i'+1) dH ⟨(d,.c<|.I .i64<|Z e)::cc,(a,.vec B f<|e++az (Z e) xs)::b9,cx,cr⟩ (gU draw dx (bD [x,g]++cX [a],[.s d,.m a])) R) (o:F.size=f.n:=by rfl)
  (hp:p:=by exact k9) (q:dj d n=ae:=by rfl):RG z n ops draw nx i os ⟨sl,mem,n0,gd⟩ ks R:=
 jX cj L hp (mR (λC=>ahJ cj C J J (c9 q) J P Q U W o k l)<|mT hk)
end
def uw(a:V G):r z 188 [cS al a] (cS al<|aK a):=by
 refine aJ Tryz.func188<|ui 0 J λl=>?_;simp only[ET.n,qj]at l;refine rr J<|rr J ?_;refine M<|ay<|bf (α:=Y) (λk=>⟨[(0,cS al a),(3,cI k)],[],2,[]⟩) (λk=>k<=Z a/\fA a k=fA a (Z a)) (λk=>k) (Z a) ⟨aW _,J⟩ aU ?_;rintro k ⟨o,d⟩;have f:∀v,k=0\/E a (k-1) 0≠0->v=h k a->bm (cS al v) (cS al<|aK a):=by
  intro v g e;refine bm.of_eq ?_;subst e;unfold aK;rw[<-d];cases k with
  |zero=>rfl
  |succ k=>
   rcases g with g|g
   .omega
   .simp only[eh]at g;simp only[fA,g,bL]
 refine M<|rb ?_;refine rg 8 J J (λi=>?_)<|λi=>?_
 .simp at i;refine re J (c J (λe=>?_)<|λe=>?_)
  .refine aD (ay<|rt J<|eL<|aS (k-1) ⟨O,?_⟩ (O:k-1<k)<|wk ⟨sR J,sE J ?_,A⟩ A)
   .rw[<-d];obtain⟨j,rfl⟩:∃j,k=j+1:=⟨k-1,O⟩;have m:E a j 0=0:=by have:af (((j+1:Y):G)-1)=j:=O;simpa[this]using e
    simp only[eh,fA,m,b7]
   .congr 2;omega
  .refine bh (aI<|rr J<|bI<|g7 cj J<|f _ (.inr ?_) ?_)
   .have:af ((k:G)-1)=k-1:=by omega
    simpa[this]using e
   .simp
 .simp at i;subst i;refine re J<|c J (λe=>by simp at e)<|λ_=>?_;exact bh<|aI<|rr J<|bI<|g7 cj J<|f _ (.inl J) J
def ya(a:V G):r z 163 [cS al a] (cS al<|aK a):=by
 refine aJ Tryz.func163<|ui 0 J λl=>?_;simp only[ET.n,qj]at l;refine rr J<|rr J ?_;refine M<|ay<|bf (α:=Y) (λk=>⟨[(0,cS al a),(3,cI k)],[],2,[]⟩) (λk=>k<=Z a/\fA a k=fA a (Z a)) (λk=>k) (Z a) ⟨aW _,J⟩ aU ?_;rintro k ⟨o,d⟩;have f:∀v,k=0\/E a (k-1) 0≠0->v=h k a->bm (cS al v) (cS al<|aK a):=by
  intro v g e;refine bm.of_eq ?_;subst e;unfold aK;rw[<-d];cases k with
  |zero=>rfl
  |succ k=>
   rcases g with g|g
   .omega
   .simp only[eh]at g;simp only[fA,g,bL]
 refine M<|rb ?_;refine rg 8 J J (λi=>?_)<|λi=>?_
 .simp at i;refine re J (c J (λe=>?_)<|λe=>?_)
  .refine aD (ay<|rt J<|eL<|aS (k-1) ⟨O,?_⟩ (O:k-1<k)<|wk ⟨sR J,sE J ?_,A⟩ A)
   .rw[<-d];obtain⟨j,rfl⟩:∃j,k=j+1:=⟨k-1,O⟩;have m:E a j 0=0:=by have:af (((j+1:Y):G)-1)=j:=O;simpa[this]using e
    simp only[eh,fA,m,b7]
   .congr 2;omega
  .refine bh (aI<|rr J<|bI<|g7 cj J<|f _ (.inr ?_) ?_)
   .have:af ((k:G)-1)=k-1:=by omega
    simpa[this]using e
   .simp
 .simp at i;subst i;refine re J<|c J (λe=>by simp at e)<|λ_=>?_;exact bh<|aI<|rr J<|bI<|g7 cj J<|f _ (.inl J) J
def wrap_u32 n(a:0<=n)(d:n<4294967296):aw .u32 n=n:=by simp[aw,IntKind.bits,CP];omega
def wrap_u64 n(a:0<=n)(d:n<18446744073709551616):aw .u64 n=n:=by simp[aw,IntKind.bits,CP];omega
def Wz m(d:m<18446744073709551616):aK [((m%4294967296:Y):G),((m/4294967296:Y):G)]=b m:=by have a:bN [((m%4294967296:Y):G),((m/4294967296:Y):G)]:=xt.mpr ⟨O,xt.mpr ⟨O,NK⟩⟩;rw[nM a];congr 1;simp only[val];omega
def CQ(m:Y)(a:m<18446744073709551616):r z 136 [cU m] (cS al<|b m):=by
 refine aJ Tryz.func136 ?_;refine rr J<|rb ?_;have d:aw .u32 ((m:G).tmod 4294967296)=((m%4294967296:Y):G):=by rw[wrap_u32]<;>(rw[lj O];omega)
 have e:aw .u32 (aw .u64<|(m:G).tdiv 4294967296)=((m/4294967296:Y):G):=by
  have:(m:G).tdiv 4294967296=((m/4294967296:Y):G):=by rw[sW O];omega
  rw[this,wrap_u64 _ O O,wrap_u32 _ O O]
 refine rl al [_,_] J J ?_;refine rc J J (ya _) ?_;refine re J<|bO J ?_;rw[d,e,Wz m a]
def ahL neg(d:V G):r z 135 [cB neg,cS al d] (.a [.B (neg&&decide (0<Z (aK d))),.S al<|aK d]):=by
 refine aJ Tryz.func135 ?_;refine rr J<|rb ?_;refine rc J J (ya _) ?_;refine re J<|rb ?_;refine rg 9 J J (λh=>?_)<|λh=>?_
 .refine re J<|bO J ?_;subst h;have e:decide ((Z (aK d):G)>0)=(ae&&decide (0<Z (aK d))):=ax;exact a6 (λb=>AV.a [C.B b,C.S al<|aK d]) e
 .refine re J<|bO J ?_;subst h;rfl
def Ad ws(i:Y)(a:bN ws):r z 182 [cS al ws,cI i] (cU<|E ws i 0):=by
 refine aJ Tryz.func182 ?_;refine rr J<|M<|rr J ?_;have:=db a i;refine c J (λh=>?_)<|λh=>?_
 .simp at h;refine rr J<|bI<|cG<|eB J ?_;have e:aw .u64 (E ws (af (i:G)) 0)=E ws i 0:=by rw[b6,wrap_u64 _ this.1 O]
  exact bK e
 .simp at h;refine aD<|rr J<|bO J ?_;have e:E ws i 0=0:=by simp[aM,jP h]
  rw[e];rfl
def dz(a d:G):G:=if a<d then-1 else if d<a then 1 else 0
def ahM a d(o:bN a)(p:bN d)(x:can a)(B:can d):r z 144 [cS al a,cS al d] (cI<|dz (val a)<|val d):=by
 refine aJ Tryz.func144<|ui 0 J λs=>ui 1 J λt=>?_;simp only[ET.n,qj]at s t;refine rr J<|M<|rr J ?_;refine c J (λh=>?_)<|λh=>?_
 .simp at h;refine rr J<|bI<|cG<|eB J ?_;rw[dz,ao<|Iu o p B h];rfl
 .simp at h;refine aD<|M<|rr J ?_;refine c J (λq=>?_) (λq=>?_)
  .simp at q;refine rr J<|bI<|cG<|eB J ?_;have:=Iu p o x q;rw[dz,w O,ao this];rfl
  .simp at q;have u:Z a=Z d:=O;refine aD<|M<|rr J ?_;refine ay<|bf (α:=Y) (λk=>⟨[(0,cS al a),(1,cS al d),(5,cI<|(k:G)-1)],[],4,[]⟩) (λk=>k<=Z a/\az k a=az k d) (λk=>k) (Z a) ⟨aW _,by simp[u]⟩ aU ?_;rintro k ⟨F,i⟩;refine M<|rr J ?_;refine c J (λv=>?_) (λv=>?_)
   .simp at v;obtain⟨j,rfl⟩:∃j,k=j+1:=⟨k-1,O⟩;have C:(((j+1:Y):G)-1)=j:=O;have g:j<Z a:=O;rw[C];refine aD<|M<|ay<|M<|rr J ?_;refine c J (λl=>?_) (λl=>?_)
    .simp at l;refine rr J<|bI ?_;repeat(first|refine cG ?_|refine kE ?_|refine k8 ?_)
     refine eB J ?_;rw[dz,ao<|Iv o p j i u g l];rfl
    .have l:¬(E a j 0<E d j 0):=by simpa using l
     refine aD<|rr J ?_;refine c J (λm=>?_)<|λm=>?_
     .simp at m;refine rr J<|bI ?_;repeat(first|refine cG ?_|refine kE ?_|refine k8 ?_)
      refine eB J ?_;have:=Iv p o j i.symm u.symm O m;rw[dz,w O,ao this];rfl
     .have m:¬(E a j 0>E d j 0):=by simpa using m
      refine c7<|bH<|rt J<|aS j ⟨O,?_⟩ rK aU;have e:E a j 0=E d j 0:=O;have f:j<Z d:=O;rw[qk g,qk f,i];simp only[aM,cK g,cK f,pS]at e;rw[e]
   .simp at v;have:k=0:=O;subst this;refine bh<|aI<|rr J<|bI ?_;repeat(first|refine cG ?_|refine kE ?_|refine k8 ?_)
    refine eB J ?_;simp only[oQ]at i;rw[i,dz,w O,w O];rfl
def sX o i a(d:G)(f:i<Z o):(o.set i d).getD a 0=if i=a then d else E o a 0:=by
 simp only[aM,Pt];by_cases e:i=a
 .subst e;simp[f]
 .simp[e]
def FW o i a(d:i<Z o)(e:E o i 0=0):val (o.set i a)=val o+a*4294967296^i:=by rw[NM o i a d,e];simp
structure CR(a b:V G)(m:Y)(x:Y×V G×G):Prop where
 i:x.1<=m
 len:x.2.1.length=m
 r:bN x.2.1
 z:∀d,x.1<=d->x.2.1.getD d 0=0
 c0:0<=x.2.2
 c1:x.2.2<=1
 v:val x.2.1+x.2.2*4294967296^x.1=val (a.take x.1)+val (b.take x.1)
def CR.next{a f}{m}{x}(d:CR a f m x)(g:x.1<m)(k:bN a)(l:bN f):CR a f m (x.1+1,x.2.1.set x.1<|(E a x.1 0+E f x.1 0+x.2.2)%4294967296,(E a x.1 0+E f x.1 0+x.2.2)/4294967296):=by
 have p:=db k x.1;have t:=db l x.1;have u:=d.c0;have B:=d.c1;refine⟨g,by simp[d.len],xv d.r _ ⟨O,O⟩,?_,(by show 0<=_/_;omega),(by show _/_<=1;omega),?_⟩
 .intro j i;simp only at i;rw[sX _ _ _ _ (by rw[d.len];exact g),w O];exact d.z j O
 .simp only;rw[FW _ _ _ (by rw[d.len];exact g) (d.z _<|aW _),jE,jE,fb];have n:=d.v;generalize (4294967296:G)^x.1=q at n⊢;generalize ht:E a x.1 0+E f x.1 0+x.2.2=s;have o:s%4294967296+s/4294967296*4294967296=s:=O;have:val x.2.1=val (h x.1 a)+val (h x.1 f)-x.2.2*q:=O;rw[this];have e:s%4294967296*q+s/4294967296*(q*4294967296)=s*q:=by rw[show s/4294967296*(q*4294967296)=s/4294967296*4294967296*q by grind,<-mJ,o]
  have C:s*q=E a x.1 0*q+E f x.1 0*q+x.2.2*q:=by rw[<-ht];grind
  omega
def WA(x a:Y):(if(a:G)>x then(a:G)else x)=((max x a:Y):G):=by
 by_cases h:(a:G)>x
 .rw[ao h];omega
 .rw[w h];omega
def ahN a d(n:bN a)(p:bN d)(la:Z a<=1099511627776)(lb:Z d<=1099511627776):r z 143 [cS al a,cS al d] (cS al<|b<|af<|val a+val d):=by
 refine aJ Tryz.func143 ?_;refine rr J<|rr J<|rb ?_;refine rm al (max (Z a) (Z d)+1) J J J J J J (lH .u32) ?_ ?_ ?_ ?_
 .rw[WA];rfl
 .show _*4<=_;omega
 .show _*1<=_;omega
 refine re J<|rr J<|jg<|rr J ?_;generalize hM:max (Z a) (Z d)+1=M;refine ay<|bf (α:=Y×V G×G) (λx=>⟨[(0,cS al a),(1,cS al d),(5,cI M),(6,.c<|.X 2001000),(7,cU x.2.2),(8,cI x.1)],[(2001000,.vec 142 al x.2.1)],5,[]⟩) (CR a d M) (λx=>M-x.1) (0,bg M 0,0) ?_ ?_ ?_
 .refine⟨a8 _,ax,pR M,?_,gK _,FX,Ae⟩;intro j _;simp only[aM,ll];split<;>rfl
 .refine wk ⟨sR J,sR J,sE J ?_,sR J,sR J,sR J,A⟩ ⟨bR J,A⟩;rw[WA,<-hM];congr 2
 .rintro⟨i,o,e⟩ f;have t:Z o=M:=f.len;have C:0<=e:=f.c0;have F:e<=1:=f.c1;have R:=db n i;have S:=db p i;refine jg<|rr J ?_;refine c J (λg=>?_) (λg=>?_)
  .have g:i<M:=by simpa using g
   refine aD<|jg<|ay<|rb ?_;refine rc J J (Ad a i n)<|rc J J (Ad d i p)<|re J ?_;have H:aw .u64 (aw .u64 (E a i 0+E d i 0)+e)=E a i 0+E d i 0+e:=by rw[wrap_u64 (E a i 0+E d i 0) O O,wrap_u64 _ O O]
   rw[H];generalize ht:E a i 0+E d i 0+e=s;have K:aw .u32 (s.tmod 4294967296)=s%4294967296:=by rw[lj O,wrap_u32 _ O O]
   have L:aw .u64 (s.tdiv 4294967296)=s/4294967296:=by rw[sW O,wrap_u64 _ O O]
   have u:=f.next g n p;simp only[ht]at u;refine rr J<|rt J<|bH<|rt J<|aS (i+1,o.set i<|s%4294967296,s/4294967296) u wc<|wk ⟨sR J,sR J,sR J,sR J,sE J ?_,sE J ?_,A⟩ ⟨bE J ?_,A⟩
   .exact bK L
   .rfl
   .rw[K,b6]
  .have g:¬i<M:=by simpa using g
   have P:i=M:=by have:=f.i;simp only at this;omega
   refine bh<|aI<|c8 2001000 J J J<|rb ?_;refine rc J J (ya _)<|re J<|bO J ?_;have k:=f.v;simp only at k;have q:bN o:=f.r;have Q:=lZ q;have U:=kY q;have l:val (h i a)=val a:=lz a i O;have m:val (h i d)=val d:=lz d i O;have W:=lZ n;have w:=lZ p;have T:(4294967296:G)^Z a<=4294967296^(M-1):=sk O;have pb:(4294967296:G)^Z d<=4294967296^(M-1):=sk O;have y:(4294967296:G)^M=4294967296^(M-1)*4294967296:=by rw[<-fb];congr 1;omega
   have B:=jd<|M-1;have D:e=0:=by
    rw[l,m,P,y]at k;rcases Int.lt_or_le e 1 with I|N
    .omega
    .have:e=1:=by omega
     subst this;omega
   rw[nM q];subst D;rw[l,m]at k;simp only[mj,qm]at k;rw[k]
structure FY(a b:V G)(m:Y)(x:Y×V G×G):Prop where
 i:x.1<=m
 len:x.2.1.length=m
 r:bN x.2.1
 z:∀d,x.1<=d->x.2.1.getD d 0=0
 c0:0<=x.2.2
 c1:x.2.2<=1
 v:val x.2.1-x.2.2*4294967296^x.1=val (a.take x.1)-val (b.take x.1)
def FY.next{a f}{m}{x}(d:FY a f m x)(g:x.1<m)(k:bN a)(l:bN f):FY a f m (x.1+1,x.2.1.set x.1<|(4294967296+E a x.1 0-E f x.1 0-x.2.2)%4294967296,1-(4294967296+E a x.1 0-E f x.1 0-x.2.2)/4294967296):=by
 have p:=db k x.1;have t:=db l x.1;have u:=d.c0;have B:=d.c1;refine⟨g,by simp[d.len],xv d.r _ ⟨O,O⟩,?_,(by show 0<=1-_/_;omega),(by show 1-_/_<=1;omega),?_⟩
 .intro j i;simp only at i;rw[sX _ _ _ _ (by rw[d.len];exact g),w O];exact d.z j O
 .simp only;rw[FW _ _ _ (by rw[d.len];exact g) (d.z _<|aW _),jE,jE,fb];have n:=d.v;generalize (4294967296:G)^x.1=q at n⊢;generalize ht:4294967296+E a x.1 0-E f x.1 0-x.2.2=s;have o:s%4294967296+s/4294967296*4294967296=s:=O;have:val x.2.1=val (h x.1 a)-val (h x.1 f)+x.2.2*q:=O;rw[this];have e:s%4294967296*q+s/4294967296*(q*4294967296)=s*q:=by rw[show s/4294967296*(q*4294967296)=s/4294967296*4294967296*q by grind,<-mJ,o]
  have C:s*q=4294967296*q+E a x.1 0*q-E f x.1 0*q-x.2.2*q:=by rw[<-ht];grind
  have F:(1-s/4294967296)*(q*4294967296)=4294967296*q-s/4294967296*(q*4294967296):=by grind
  omega
def ahO a d(u:bN a)(p:bN d)(hl:Z d<=Z a)(F:val d<=val a)(la:Z a<=1099511627776):r z 145 [cS al a,cS al d] (cS al<|b<|af<|val a-val d):=by
 refine aJ Tryz.func145 ?_;refine rr J<|rb ?_;refine rm al (Z a) J J J J J J (lH .u32) J ?_ ?_ ?_
 .show _*4<=_;omega
 .show _*1<=_;omega
 refine re J<|rr J<|jg<|rr J ?_;generalize hM:Z a=M;refine ay<|bf (α:=Y×V G×G) (λx=>⟨[(0,cS al a),(1,cS al d),(5,.c<|.X 1002000),(6,cU x.2.2),(7,cI x.1)],[(1002000,.vec 142 al x.2.1)],4,[]⟩) (FY a d M) (λx=>M-x.1) (0,bg M 0,0) ?_ ?_ ?_
 .refine⟨a8 _,ax,pR M,?_,gK _,FX,Ae⟩;intro j _;simp only[aM,ll];split<;>rfl
 .exact wk (bJ J) ⟨bR J,A⟩
 .rintro⟨i,o,e⟩ f;have k:Z o=M:=f.len;have H:0<=e:=f.c0;have K:e<=1:=f.c1;have I:=db u i;have N:=db p i;refine jg<|rr J ?_;refine c J (λg=>?_) (λg=>?_)
  .have g:i<M:=by simpa[hM]using g
   refine aD<|jg<|ay<|rb ?_;refine rc J J (Ad d i p)<|re J ?_;have L:aw .u64 (aw .u64 (aw .u64 (4294967296+aw .u64 (E a (af (i:G)) 0))-E d i 0)-e)=4294967296+E a i 0-E d i 0-e:=by rw[b6,wrap_u64 (E a i 0) O O,wrap_u64 (4294967296+E a i 0) O O,wrap_u64 (4294967296+E a i 0-E d i 0) O O,wrap_u64 _ O O]
   simp only[L];generalize ht:4294967296+E a i 0-E d i 0-e=s;have P:aw .u32 (s.tmod 4294967296)=s%4294967296:=by rw[lj O,wrap_u32 _ O O]
   have Q:aw .u64 (1-aw .u64 (s.tdiv 4294967296))=1-s/4294967296:=by rw[sW O,wrap_u64 (s/4294967296) O O,wrap_u64 _ O O]
   have B:=f.next g u p;simp only[ht]at B;refine rr J<|rt J<|bH<|rt J<|aS (i+1,o.set i<|s%4294967296,1-s/4294967296) B wc<|wk ⟨sR J,sR J,sR J,sE J ?_,sE J ?_,A⟩ ⟨bE J ?_,A⟩
   .exact bK Q
   .rfl
   .rw[P,b6]
  .have g:¬i<M:=by simpa[hM]using g
   have U:i=M:=by have:=f.i;simp only at this;omega
   refine bh<|aI<|c8 1002000 J J J<|rb ?_;refine rc J J (ya _)<|re J<|bO J ?_;have l:=f.v;simp only at l;have q:bN o:=f.r;have t:=lZ q;have W:=kY q;have m:val (h i a)=val a:=lz a i O;have n:val (h i d)=val d:=lz d i O;have C:=jd M;rw[k]at t;have w:e=0:=by
    rw[m,n,U]at l;rcases Int.lt_or_le e 1 with y|D
    .omega
    .have:e=1:=by omega
     subst this;omega
   rw[nM q];subst w;rw[m,n]at l;simp only[mj,Af]at l;rw[l]
end Go.El
