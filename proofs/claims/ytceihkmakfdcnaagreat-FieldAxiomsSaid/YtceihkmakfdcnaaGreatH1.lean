/- The engine, part 1: data, abstract values, what it means that they describe memory. Own work; no condition. -/
import Derived.WalkKit
import Derived.OrdersIn
import Derived.Test.YtceihkmakfdcnaaGreatH0
set_option linter.all false
set_option maxHeartbeats 16000000
set_option maxRecDepth 100000
open Array renaming ext_getElem?->afK,getElem?_setIfInBounds->afL
open BitVec renaming ofInt->iG
open Bool renaming false->ah,true->ae
open Go renaming Value->aO,IntKind->lX,TypeId->dM,World->cE,Oper->aX,Program->bS
open Go.Instr renaming fieldAt->UL,sureAddr->BT,extract->UN,indexAt->zz,sliceBound->N',sliceBounds->vE,loadAt->UR
open Go.Op renaming intArith->N4
open Go.Region renaming binds->so,ready->UD
open Go.Result renaming andThen->de
open Go.Sem renaming run_bind->cZ,run->jG
open Go.Value.slice renaming injEq->afF
open Int renaming toNat->af,lt_of_mul_lt_mul_right->ae8,le_ediv_of_mul_le->ae'
open List renaming length->Z,take->h,drop->az,getD->E,filter_cons_of_pos->afd,filter_cons_of_neg->afe,range->cd
open Nat renaming one_pos->BA,strongRecOn->Eu
open Option renaming some->ad
open _root_ renaming Nat->Y,Option->ar,Int->G,List->V
namespace Go.El
open Go Go.RowKit
abbrev FH:=Y->Y->ar aO
inductive ET where
 |int (k:lX)|bool|z|q|sl (a:ET)|pr (d B:ET)
@[reducible] def ET.den : ET -> Type
 | .int _=>G
 | .bool=>Bool
 | .z=>G
 | .q=>Rat
 | .sl a=>V a.den
 | .pr d B=>d.den×B.den
@[reducible] def ET.dA : (a : ET) -> a.den
 | .int _=>(0:G)
 | .bool=>ah
 | .z=>(0:G)
 | .q=>(0:Rat)
 | .sl _=>[]
 | .pr d B=>(d.dA,B.dA)
@[reducible] def ET.n : ET -> Y
 | .int _=>1
 | .bool=>1
 | .z=>2
 | .q=>4
 | .sl _=>1
 | .pr a B=>a.n+B.n
def ET.zh:∀a:ET,0<a.n
 | .int _=>BA
 | .bool=>BA
 | .z=>Nat.two_pos
 | .q=>by decide
 | .sl _=>BA
 | .pr d B=>by have:=d.zh;simp only[ET.n];omega
def xr:Y->Y->V G
 |0,_=>[]
 |f+1,n=>if n=0 then[]else((n%4294967296:Y):G)::xr f (n/4294967296)
def mH(n:Y):V G:=xr n n
def bY(a:G):Bool:=decide<|a<0
def dP(a:G):V G:=mH<|Int.natAbs a
def kX{g:Type}(k:g->V aO->Prop)(n:Y)(H:FH)(xs:V g)(v:aO):Prop:=
 ∃a d,v= .slice a (Z xs) d/\Z xs<=d/\Z xs*n<=140737488355328/\
  (xs=[]\/∃b e,a=ad ⟨b,e,none⟩/\∀i(h:i<Z xs),∃f,Z f=n/\k xs[i] f/\
   ∀j(l:j<Z f),H b (e+i*n+j)=ad f[j])
def BB(H:FH)(a:V G)(v:aO):Prop:=kX (λn d=>d=[.int .u32 n]) 1 H a v
def pQ(H:FH)(a:G)(vs:V aO):Prop:=∃m,vs=[.bool (bY a),m]/\BB H (dP a) m
def cV(H:FH):(e:ET)->e.den->V aO->Prop
 | .int k,n,vs=>vs=[.int k n]
 | .bool,d,vs=>vs=[.bool d]
 | .z,g,vs=>pQ H g vs
 | .q,f,vs=>∃a d,vs=a++d/\pQ H f.num a/\pQ H (f.den:G) d
 | .sl e,xs,vs=>∃v,vs=[v]/\kX (cV H e) e.n H xs v
 | .pr i B,x,vs=>∃a d,vs=a++d/\cV H i x.1 a/\cV H B x.2 d
def cD(H a:FH):Prop:=∀b o v,H b o=ad v->a b o=ad v
def cD.refl H:cD H H:=λ_ _ _ h=>h
def cD.trans{a d f}(g:cD a d)(k:cD d f):cD a f:=λb o v e=>k b o v<|g b o v e
def kX.mono{o:Type}{g k:o->V aO->Prop}{n}{H m}{xs}{v}(p:kX g n H xs v)
  (q:cD H m) (s:∀x d,g x d->k x d):kX k n m xs v:=by
 let ⟨a,cap,e,t,h2,f⟩:=p
 refine⟨a,cap,e,t,h2,?_⟩
 rcases f with f|⟨b,off,u,hc⟩
 .exact .inl f
 .refine .inr ⟨b,off,u,λi B=>?_⟩;let ⟨d,l,r,c⟩:=hc i B;exact⟨d,l,s _ _ r,λj C=>q _ _ _<|c j C⟩
def BB.mono{H d:FH}{e v}(a:BB H e v)(f:cD H d):BB d e v:=kX.mono a f λ_ _ a=>a
def pQ.mono{H d:FH}{f vs}(a:pQ H f vs)(g:cD H d):pQ d f vs:=by let ⟨m,e,a⟩:=a;exact⟨m,e,a.mono g⟩
def cV.mono{H l:FH}(f:cD H l):∀(g:ET)(x:g.den)(vs:V aO),cV H g x vs->cV l g x vs
 | .int _,_,_,d=>d
 | .bool,_,_,d=>d
 | .z,_,_,d=>pQ.mono d f
 | .q,_,_,d=>by let ⟨a,k,e,i,h2⟩:=d;exact⟨a,k,e,i.mono f,h2.mono f⟩
 | .sl g,_,_,d=>by let ⟨v,e,i⟩:=d;exact⟨v,e,i.mono f<|λx m=>cV.mono f g x m⟩
 | .pr A B,_,_,d=>by let ⟨a,k,e,i,h2⟩:=d;exact⟨a,k,e,cV.mono f A _ _ i,cV.mono f B _ _ h2⟩
def pQ.length{H a vs}(d:pQ H a vs):Z vs=2:=by obtain⟨m,rfl,_⟩:=d;rfl
def cV.length{H:FH}:∀(e:ET)(x:e.den)(vs:V aO),cV H e x vs->Z vs=e.n
 | .int _,_,_,d=>by simp only[cV]at d;subst d;rfl
 | .bool,_,_,d=>by simp only[cV]at d;subst d;rfl
 | .z,_,_,d=>pQ.length d
 | .q,_,_,d=>by obtain⟨a,i,rfl,f,g⟩:=d;simp[f.length,g.length]
 | .sl e,_,_,d=>by obtain⟨v,rfl,_⟩:=d;rfl
 | .pr A B,_,_,d=>by obtain⟨a,i,rfl,f,g⟩:=d;simp[cV.length A _ _ f,cV.length B _ _ g]
def q5(a:Bool)(vs:V aO):aO:=match a with
 |true=> .agg vs.toArray
 |false=>vs.headD undef
structure MP where
 p:FH->aO->Prop
 mono:∀H a v,cD H a->p H v->p a v
inductive C where
 |any
 |B (b:Bool)
 |I (k:lX) (n:G)
 |V (v:aO)
 |S (e:ET) (xs:List e.den)
 |P (d a:Nat)
 |X (d:Nat)
 |Y (d:Nat) (n i a:Nat)
 |E (e:ET) (x:e.den) (a:Nat)
 |M (m:MP)
 |L (d a len:Nat) (f:ar Nat)
 |W (d a len:Nat)
inductive AV where
 |c (x:C)
 |a (d:V C)
 |t (vs:V (Bool×V C))
def av:(d:ET)->d.den->V C
 | .int k,n=>[.I k n]
 | .bool,f=>[.B f]
 | .z,e=>[.B (bY e),.S (.int .u32)<|dP e]
 | .q,a=>[.B (bY a.num),.S (.int .u32)<|dP a.num,.B<|bY (a.den:G),.S (.int .u32)<|dP (a.den:G)]
 | .sl d,xs=>[.S d xs]
 | .pr g B,x=>av g x.1++av B x.2
structure Gh where
 H:FH
 γ:Y->aO
def cz:aO->ar Y
 | .pointer (ad a)=>ad a.block
 | .slice (ad a) _ _=>ad a.block
 | .map (ad d)=>ad d
 |_=>none
def cQ(g:Gh):C->aO->Prop
 | .any,_=>True
 | .B a,v=>v= .bool a
 | .I k n,v=>v= .int k n
 | .V u,v=>v=u
 | .S f xs,v=>kX (cV g.H f) f.n g.H xs v
 | .P id off,v=>∃a,cz (g.γ id)=ad a/\v= .pointer (ad ⟨a,off,none⟩)
 | .X id,v=>v=g.γ id
 | .Y id n i off,v=>∃a d l,g.γ id= .slice (ad ⟨a,0,none⟩) d l/\v= .pointer (ad ⟨a,i*n+off,none⟩)
 | .E f x off,v=>∃a o q,v= .pointer (ad ⟨a,o+off,none⟩)/\cV g.H f x q/\∀s(t:s<Z q),g.H a (o+s)=ad q[s]
 | .M m,v=>m.p g.H v
 | .L id off d (ad e),v=>∃a,cz (g.γ id)=ad a/\v= .slice (ad ⟨a,off,none⟩) d e
 | .L id off d none,v=>off=0/\∃a e,g.γ id= .slice (ad ⟨a,0,none⟩) 0 e/\v= .slice (ad ⟨a,0,none⟩) d e/\d<=e
 | .W id off d,v=>∃a e,cz (g.γ id)=ad a/\v= .slice (ad ⟨a,off,none⟩) d e/\d<=e
def aR(g:Gh):V C->V aO->Prop
 |[],vs=>vs=[]
 |d::cs,vs=>∃v a,vs=v::a/\cQ g d v/\aR g cs a
def zi(g:Gh):Bool×V C->aO->Prop
 | (ae,cs),v=>∃vs,v= .agg vs.toArray/\aR g cs vs
 | (ah,[a]),v=>cQ g a v
 | (ah,_),_=>False
def fa(g:Gh):V (Bool×V C)->V aO->Prop
 |[],vs=>vs=[]
 |s::d,vs=>∃v a,vs=v::a/\zi g s v/\fa g d a
def bA(g:Gh):AV->aO->Prop
 | .c x,v=>cQ g x v
 | .a cs,v=>∃vs,v= .agg vs.toArray/\aR g cs vs
 | .t d,v=>∃vs,v= .tuple vs.toArray/\fa g d vs
def aR.length{g:Gh}:∀{d:V C}{vs:V aO},aR g d vs->Z vs=Z d
 |[],_,a=>by simp only[aR]at a;subst a;rfl
 |_::d,_,a=>by obtain⟨v,e,rfl,_,a⟩:=a;simp[aR.length a]
def aR.append{g:Gh}:∀{d e:V C}{vs f:V aO},aR g d vs->aR g e f->aR g (d++e) (vs++f)
 |[],_,_,_,a,k=>by simp only[aR]at a;subst a;exact k
 |_::d,_,_,_,a,k=>by obtain⟨v,m,rfl,i,l⟩:=a;exact⟨v,_,J,i,aR.append l k⟩
def aeZ{g:Gh}{a v}(d:BB g.H a v):cQ g (.S (.int .u32) a) v:=d
def Ir{g:Gh}{d vs}(a:pQ g.H d vs):aR g (av .z d) vs:=by obtain⟨m,rfl,a⟩:=a;exact⟨_,_,J,J,_,_,J,aeZ a,J⟩
def zj{g:Gh}:∀(e:ET)(x:e.den)(vs:V aO),cV g.H e x vs->aR g (av e x) vs
 | .int _,_,_,d=>by simp only[cV]at d;subst d;exact⟨_,_,J,J,J⟩
 | .bool,_,_,d=>by simp only[cV]at d;subst d;exact⟨_,_,J,J,J⟩
 | .z,_,_,d=>Ir d
 | .q,l,_,d=>by obtain⟨a,k,rfl,f,i⟩:=d;exact aR.append (Ir f)<|Ir i
 | .sl e,_,_,d=>by obtain⟨v,rfl,d⟩:=d;exact⟨_,_,J,d,J⟩
 | .pr A B,_,_,d=>by obtain⟨a,k,rfl,f,i⟩:=d;exact aR.append (zj A _ _ f)<|zj B _ _ i
def Et{g:Gh}:∀{cs ds:V C}{vs:V aO},aR g (cs++ds) vs->∃a d,vs=a++d/\aR g cs a/\aR g ds d
 |[],_,vs,e=>⟨[],vs,J,J,e⟩
 |_::cs,_,_,e=>by obtain⟨v,m,rfl,f,i⟩:=e;obtain⟨a,d,rfl,k,l⟩:=Et i;exact⟨v::a,d,J,⟨v,a,J,f,k⟩,l⟩
def NJ{g:Gh}{a vs}(f:aR g (av .z a) vs):pQ g.H a vs:=by obtain⟨v,r,rfl,d,m,k,rfl,i,e⟩:=f;simp only[aR]at e;simp only[cQ]at d;subst e d;exact⟨m,J,i⟩
def zk{g:Gh}:∀(k:ET)(x:k.den)(vs:V aO),aR g (av k x) vs->cV g.H k x vs
 | .int _,_,_,e=>by obtain⟨v,i,rfl,f,d⟩:=e;simp only[aR]at d;simp only[cQ]at f;subst f d;rfl
 | .bool,_,_,e=>by obtain⟨v,i,rfl,f,d⟩:=e;simp only[aR]at d;simp only[cQ]at f;subst f d;rfl
 | .z,_,_,e=>NJ e
 | .q,i,vs,e=>by obtain⟨a,b,rfl,f,d⟩:=Et (cs:=av .z i.num) (ds:=av .z (i.den:G)) e;exact⟨a,b,J,NJ f,NJ d⟩
 | .sl k,_,_,e=>by obtain⟨v,i,rfl,f,d⟩:=e;simp only[aR]at d;subst d;exact⟨v,J,f⟩
 | .pr A B,x,vs,e=>by obtain⟨a,b,rfl,f,d⟩:=Et (cs:=av A x.1) (ds:=av B x.2) e;exact⟨a,b,J,zk A _ _ f,zk B _ _ d⟩
def C.ak:C->List Nat
 | .P id _=>[id]
 | .X id=>[id]
 | .Y id _ _ _=>[id]
 | .L id _ _ _=>[id]
 | .W id _ _=>[id]
 |_=>[]
def bP:V C->V Y
 |[]=>[]
 |a::cs=>a.ak++bP cs
def eo:V (Bool×V C)->V Y
 |[]=>[]
 |s::a=>bP s.2++eo a
def AV.ak:AV->V Y
 | .c x=>x.ak
 | .a cs=>bP cs
 | .t d=>eo d
structure fP(a:Y->Prop)(g e:Gh):Prop where
 H:cD g.H e.H
 γ:∀d,a d->e.γ d=g.γ d
def cQ.mono{known:Y->Prop}{g g':Gh}(f:fP known g g'):∀{n:C}{v:aO},(∀d∈n.ak,known d)->cQ g n v->cQ g' n v
 | .any,_,_,_=>trivial
 | .B _,_,_,a=>a
 | .I _ _,_,_,a=>a
 | .V _,_,_,a=>a
 | .S p _,_,_,a=>kX.mono a f.H<|λx q=>cV.mono f.H p x q
 | .P d _,_,i,a=>by let ⟨k,e,a⟩:=a;exact⟨k,by rw[f.γ d (i d BC)];exact e,a⟩
 | .X d,_,i,a=>by simp only[cQ]at a⊢;rw[f.γ d (i d BC)];exact a
 | .Y d _ _ _,_,i,a=>by let ⟨k,l,n,e,a⟩:=a;exact⟨k,l,n,by rw[f.γ d (i d BC)];exact e,a⟩
 | .E p _ _,_,_,a=>by let ⟨k,o,q,e,s,h2⟩:=a;exact⟨k,o,q,e,cV.mono f.H p _ _ s,λj t=>f.H _ _ _<|h2 j t⟩
 | .M m,_,_,a=>m.mono _ _ _ f.H a
 | .L d _ _ (ad _),_,i,a=>by let ⟨k,e,a⟩:=a;exact⟨k,by rw[f.γ d (i d BC)];exact e,a⟩
 | .L d _ _ none,_,i,a=>by let ⟨u,k,n,e,a⟩:=a;exact⟨u,k,n,by rw[f.γ d (i d BC)];exact e,a⟩
 | .W d _ _,_,i,a=>by let ⟨k,n,e,a⟩:=a;exact⟨k,n,by rw[f.γ d (i d BC)];exact e,a⟩
def aR.mono{known:Y->Prop}{g g':Gh}(k:fP known g g'):∀{f:V C}{vs:V aO},(∀d∈bP f,known d)->aR g f vs->aR g' f vs
 |[],_,_,i=>i
 |_::_,_,l,i=>by let ⟨v,m,e,n,h2⟩:=i;exact⟨v,m,e,cQ.mono k (λd a=>l d<|by simp[bP,a]) n,aR.mono k (λd a=>l d<|by simp[bP,a]) h2⟩
def zi.mono{known:Y->Prop}{g g':Gh}(k:fP known g g'):∀{s:Bool×V C}{v:aO},(∀d∈bP s.2,known d)->zi g s v->zi g' s v
 | (ae,_),_,f,a=>by let ⟨vs,e,a⟩:=a;exact⟨vs,e,aR.mono k f a⟩
 | (ah,[c]),_,f,a=>cQ.mono k (λd i=>f d<|by simp[bP,i]) a
 | (ah,[]),_,_,a=>a
 | (ah,_::_::_),_,_,a=>a
def fa.mono{known:Y->Prop}{g g':Gh}(k:fP known g g'):∀{f:V (Bool×V C)}{vs:V aO},(∀d∈eo f,known d)->fa g f vs->fa g' f vs
 |[],_,_,i=>i
 |_::_,_,l,i=>by let ⟨v,m,e,n,h2⟩:=i;exact⟨v,m,e,zi.mono k (λd a=>l d<|by simp[eo,a]) n,fa.mono k (λd a=>l d<|by simp[eo,a]) h2⟩
def bA.mono{known:Y->Prop}{g g':Gh}(i:fP known g g'):∀{x:AV}{v:aO},(∀k∈x.ak,known k)->bA g x v->bA g' x v
 | .c _,_,f,d=>cQ.mono i f d
 | .a _,_,f,d=>by let ⟨vs,e,d⟩:=d;exact⟨vs,e,aR.mono i f d⟩
 | .t _,_,f,d=>by let ⟨vs,e,d⟩:=d;exact⟨vs,e,fa.mono i f d⟩
def val:V G->G
 |[]=>0
 |a::d=>a+4294967296*val d
def bN(a:V G):Prop:=∀w∈a,0<=w/\w<4294967296
def NK:bN []:=λ_ h=>by cases h
def xt{a}{d}:bN (a::d)↔(0<=a/\a<4294967296)/\bN d:=by simp[bN]
def iE{a}(d:bN a) n:bN (h n a):=λw e=>d w<|BD e
def xu{a}(d:bN a) n:bN (az n a):=λw e=>d w<|List.mem_of_mem_drop e
def NL{a d}(e:bN a)(k:bN d):bN (a++d):=λw f=>(aY.mp f).elim (e w)<|k w
def xv{d}(f:bN d) i{a}(g:0<=a/\a<4294967296):bN (d.set i a):=λx k=>(List.mem_or_eq_of_mem_set k).elim (f x)<|λe=>e▸g
def pR n:bN (List.replicate n 0):=λw a=>by have:=List.eq_of_mem_replicate a;subst this;decide
def db{a}(e:bN a) i:0<=E a i 0/\E a i 0<4294967296:=by
 by_cases d:i<Z a
 .simp only[aM,cK d,pS];exact e _<|si d
 .simp[aM,jP<|zl d]
def BE a d:val (a++d)=val a+4294967296^Z a*val d:=by
 induction a with
 |nil=>simp[val]
 |cons w r e=>simp only[lY,val,e,gQ,fb];grind
def ae0 ws i(a:i<Z ws):val (h (i+1) ws)=val (h i ws)+E ws i 0*4294967296^i:=by rw[q6,BE,fQ,q7<|xw a];simp[cK a,val,aM];grind
def lz ws i(a:Z ws<=i):val (h i ws)=val ws:=by rw[iO a]
def jE ws i:val (h (i+1) ws)=val (h i ws)+E ws i 0*4294967296^i:=by
 by_cases a:i<Z ws
 .exact ae0 ws i a
 .rw[lz ws _ O,lz ws i O];simp[aM,jP<|zl a]
def NM ws i a(h:i<Z ws):val (ws.set i a)=val ws+(a-E ws i 0)*4294967296^i:=by
 induction ws generalizing i with
 |nil=>simp at h
 |cons x r d=>
  cases i with
  |zero=>simp[val];omega
  |succ i=>
   have:=d i dL
   simp only[List.set_cons_succ,val,this,NN,fb];grind
def Is n:val (List.replicate n 0)=0:=by
 induction n with
 |zero=>rfl
 |succ n a=>simp[xx,val,a]
def kY{a}(d:bN a):0<=val a:=by
 induction a with
 |nil=>exact gK _
 |cons w r e=>
  let ⟨f,h2⟩:=xt.mp d
  have:=e h2
  simp only[val];omega
def lZ{a}(d:bN a):val a<4294967296^Z a:=by
 induction a with
 |nil=>decide
 |cons w r e=>
  let ⟨f,h2⟩:=xt.mp d
  have:=e h2
  simp only[val,gQ,fb];omega
def ae1:∀(f g n:Y),n<=f->n<=g->xr f n=xr g n:=by
 intro f;induction f with
 |zero=>
  intro g n h _;have:n=0:=by omega
  subst this;cases g<;>simp[xr]
 |succ f a=>
  intro g n d e
  cases g with
  |zero=>
   have:n=0:=by omega
   subst this;simp[xr]
  |succ g=>
   simp only[xr]
   split
   .rfl
   .rw[a g (n/4294967296) O O]
def BF:mH 0=[]:=rfl
def vw{n}(a:n≠0):mH n=((n%4294967296:Y):G)::mH (n/4294967296):=by
 unfold mH;obtain⟨m,rfl⟩:∃m,n=m+1:=⟨n-1,O⟩;conv=>lhs;unfold xr
 rw[w a,ae1 m _ _ O<|aW _]
def dU n:val (mH n)=n:=by
 induction n using Eu with
 |ind n a=>
  by_cases h:n=0
  .subst h;rfl
  .rw[vw h];simp only[val,a (n/4294967296) O];omega
def dE n:bN (mH n):=by
 induction n using Eu with
 |ind n a=>
  by_cases h:n=0
  .subst h;exact NK
  .rw[vw h];exact xt.mpr ⟨O,a _ O⟩
def can(a:V G):Prop:=a=[]\/E a (Z a-1) 0≠0
def ae2{d}(k:bN d)(a:can d):d=mH (af<|val d):=by
 induction d with
 |nil=>rfl
 |cons w r f=>
  let ⟨n,h2⟩:=xt.mp k
  have g:can r:=by
   cases r with
   |nil=>exact .inl J
   |cons x s=>exact .inr (by rcases a with a|a;cases a;simpa using a)
  have o:=kY h2
  have e:af (val<|w::r)≠0:=by
   simp only[val];intro p;have i:w=0/\val r=0:=O;cases r with
   |nil=>rcases a with a|a;cases a;simp at a;exact a i.1
   |cons x s=>
    have:=f h2 g
    rw[i.2]at this
    exact absurd this (by simp[BF])
  rw[vw e]
  have l:af (val<|w::r)/4294967296=af (val r):=by simp only[val];omega
  have m:((af (val<|w::r)%4294967296:Y):G)=w:=by simp only[val];omega
  rw[l,m,<-f h2 g]
def tQ n:can (mH n):=by
 induction n using Eu with
 |ind n d=>
  by_cases h:n=0
  .subst h;exact .inl J
  .rw[vw h];refine .inr ?_;by_cases h2:n/4294967296=0
   .rw[h2,BF];simp;omega
   .have:=d (n/4294967296) O;rcases this with a|a
    .exfalso;have:=dU<|n/4294967296;rw[a]at this;simp[val]at this;omega
    .cases hw:mH (n/4294967296)with
     |nil=>rw[hw]at a;simp at a
     |cons x s=>rw[hw]at a;simpa using a
def fA(a:V G):Y->Y
 |0=>0
 |n+1=>if E a n 0=0 then fA a n else n+1
def aK(a:V G):V G:=h (fA a<|Z a) a
def Ul(a:V G):∀n,fA a n<=n
 |0=>aW _
 |n+1=>by simp only[fA];split;exact Nat.le_succ_of_le<|Ul a n;exact aW _
def Um(a:V G):∀n,val (h (fA a n) a)=val (h n a)
 |0=>rfl
 |n+1=>by
  simp only[fA];split
  .rename_i d;rw[Um a n,jE,d];omega
  .rfl
def Un(a:V G):∀n,fA a n=0\/E a (fA a n-1) 0≠0
 |0=> .inl J
 |n+1=>by
  simp only[fA];split
  .exact Un a n
  .rename_i h;exact .inr dL
def Uo ws:val (aK ws)=val ws:=by unfold aK;rw[Um,fR]
def Up{a}(d:bN a):bN (aK a):=iE d _
def Ev ws:can (aK ws):=by
 unfold aK can;have a:=Ul ws<|Z ws;rcases Un ws (Z ws)with h|h
 .left;rw[h];rfl
 .by_cases d:fA ws (Z ws)=0
  .left;rw[d];rfl
  .right;rw[fQ,q7 a,aM,Ew O,<-aM];exact h
def nM{a}(d:bN a):aK a=mH (af<|val a):=by have:=ae2 (Up d)<|Ev a;rwa[Uo]at this
def NO n:aK (mH n)=mH n:=by rw[nM (dE n),dU];simp
def sj{n:Y}:(n:G)<4294967296^Z (mH n):=by have:=lZ<|dE n;rwa[dU]at this
def jd n:(0:G)<4294967296^n:=mI T
def sk{m n}(a:m<=n):(4294967296:G)^m<=4294967296^n:=by obtain⟨k,rfl⟩:=Nat.exists_eq_add_of_le a;rw[Int.pow_add];have d:=jd m;have e:=jd k;have:(4294967296:G)^m*1<=4294967296^m*4294967296^k:=jQ O O;omega
def It{a}(e:bN a)(f:can a)(d:a≠[]):(4294967296:G)^(Z a-1)<=val a:=by have g:0<Z a:=cv.mpr d;have i:=jE a<|Z a-1;rw[Nat.sub_add_cancel g,fR]at i;have k:E a (Z a-1) 0≠0:=f.resolve_left d;have l:=db e<|Z a-1;have m:=kY<|iE e<|Z a-1;have n:=jd<|Z a-1;have o:1*(4294967296:G)^(Z a-1)<=E a (Z a-1) 0*4294967296^(Z a-1):=gL O O;omega
def zm{n k:Y}(g:(n:G)<4294967296^k):Z (mH n)<=k:=by
 apply Decidable.byContradiction;intro d;have a:mH n≠[]:=by intro e;rw[e]at d;simp at d
 have f:=It (dE n) (tQ n) a;rw[dU]at f;have i:(4294967296:G)^k<=4294967296^(Z (mH n)-1):=sk O;omega
def Iu{a d}(f:bN a)(g:bN d)(i:can d)(e:Z a<Z d):val a<val d:=by have l:=lZ f;have m:=It g i (by intro k;rw[k]at e;simp at e);have n:(4294967296:G)^Z a<=4294967296^(Z d-1):=sk O;omega
def Iv{a d}(f:bN a)(g:bN d) i(k:az (i+1) a=az (i+1) d)(o:Z a=Z d)(p:i<Z a)(q:E a i 0<E d i 0):val a<val d:=by
 have e:val a=val (h (i+1) a)+4294967296^(i+1)*val (az (i+1) a):=by have:=BE (h (i+1) a)<|az (i+1) a;rwa[q8,fQ,q7 O]at this
 have l:val d=val (h (i+1) d)+4294967296^(i+1)*val (az (i+1) d):=by have:=BE (h (i+1) d)<|az (i+1) d;rwa[q8,fQ,q7 O]at this
 rw[k]at e;rw[jE]at e l;have m:=lZ<|iE f i;rw[fQ,q7 O]at m;have s:=kY<|iE g i;have t:=jd i;have n:(E a i 0+1)*(4294967296:G)^i<=E d i 0*4294967296^i:=gL O O;rw[mJ]at n;omega
structure Kn1(M a d e v t u2 f u:G):Prop where
 hM:0<M
 oG:2147483648<=a
 ae3:a<4294967296
 zn:0<=d
 Uq:d<4294967296
 sn:0<=e
 Ur:e<M
 ht:0<=t
 iv:0<=u2
 ae4:u2<4294967296
 vz:0<=f
 ae5:f<M
 ev:v=(a*4294967296+d)*M+e
 eu:u=(t*4294967296+u2)*M+f
 lt:u<v*4294967296
namespace Kn1
variable{M v1 v2 v' v t u2 u' u:G}(h:Kn1 M v1 v2 v' v t u2 u' u)
include h
def BG:0<v:=by have a:=h.ev;have:0<(v1*4294967296+v2)*M:=zo (by have:=h.oG;have:=h.zn;omega) h.hM;have:=h.sn;omega
def vge:4294967296*M<=v:=by have a:=h.ev;have d:4294967296*M<=(v1*4294967296+v2)*M:=gL (by have:=h.oG;have:=h.zn;omega) tR;have:=h.sn;omega
def vlt:v<(v1+1)*4294967296*M:=by have a:=h.ev;have d:(v1*4294967296+v2+1)*M<=(v1+1)*4294967296*M:=gL (by have:=h.Uq;omega) tR;have e:(v1*4294967296+v2+1)*M=(v1*4294967296+v2)*M+M:=Ey;have:=h.Ur;omega
def Us:t*4294967296*M<=u:=by have a:=h.eu;have d:t*4294967296*M<=(t*4294967296+u2)*M:=gL (by have:=h.iv;omega) tR;have:=h.vz;omega
def Ut:u<(t*4294967296+u2+1)*M:=by have a:=h.eu;have d:(t*4294967296+u2+1)*M=(t*4294967296+u2)*M+M:=Ey;have:=h.ae5;omega
def Uu:t<(v1+1)*4294967296:=by
 have f:=h.Us;have g:=h.lt;have i:=h.vlt;have a:t*(4294967296*M)<(v1+1)*4294967296*(4294967296*M):=by
  have d:t*(4294967296*M)=t*4294967296*M:=by rw[iF]
  have e:(v1+1)*4294967296*(4294967296*M)=(v1+1)*4294967296*M*4294967296:=by rw[iF _ M,et M]
  rw[d,e];omega
 exact ae8 a tR
def BH:u/v<4294967296:=BI h.BG (by rw[et];exact h.lt)
def q0:0<=u/v:=by refine xy ?_ (by have:=h.BG;omega);have:=h.Us;have:0<=t*4294967296*M:=iP (by have:=h.ht;omega) tR;omega
def ae9:u/v*v<=u:=Int.ediv_mul_le u (by have:=h.BG;omega)
def first:u/v<=t/v1:=by
 apply ae' (by have:=h.oG;omega);have a:=h.ae9;have i:u/v*(v1*4294967296*M)<=u/v*v:=jQ (by have a:=h.ev;have d:v1*4294967296*M<=(v1*4294967296+v2)*M:=gL (by have:=h.zn;omega) tR;have:=h.sn;omega) h.q0;have d:=h.Ut;have k:(t*4294967296+u2+1)*M<=(t+1)*4294967296*M:=gL (by have:=h.ae4;omega) tR;have e:u/v*v1*(4294967296*M)<(t+1)*(4294967296*M):=by
  have f:u/v*v1*(4294967296*M)=u/v*(v1*4294967296*M):=by simp only[iF]
  have g:(t+1)*(4294967296*M)=(t+1)*4294967296*M:=by simp only[iF]
  rw[f,g];omega
 have:=ae8 e tR;omega
def down{q a:G}(f:t=q*v1+a)(d:0<=q)(g:q*v2>a*4294967296+u2):u/v<q:=by
 apply BI h.BG;have i:=h.Ut;have k:(t*4294967296+u2+1)*M<=q*(v1*4294967296+v2)*M:=gL (by
  have e:q*(v1*4294967296+v2)=q*v1*4294967296+q*v2:=by rw[nq,iF]
  rw[e];generalize q*v1=x at*;generalize q*v2=y at*;omega) tR
 have l:q*v=q*(v1*4294967296+v2)*M+q*v':=by rw[h.ev,nq,iF q]
 have m:0<=q*v':=iP d h.sn;omega
def close{q a:G}(d:t=q*v1+a)(f:0<=q)(g:q<4294967296)(i:q*v2<=a*4294967296+u2):q-1<=u/v:=by
 apply ae' h.BG;have k:q*(v1*4294967296+v2)*M<=(t*4294967296+u2)*M:=gL (by
  have e:q*(v1*4294967296+v2)=q*v1*4294967296+q*v2:=by rw[nq,iF]
  rw[e];generalize q*v1=x at*;generalize q*v2=y at*;omega) tR
 have l:q*v=q*(v1*4294967296+v2)*M+q*v':=by rw[h.ev,nq,iF q]
 have m:q*v'<=4294967296*M:=vA O (by have:=h.Ur;omega) h.sn T;have n:=h.vge;have o:=h.eu;have p:=h.vz;have s:(q-1)*v=q*v-v:=by rw[Ez,jR]
 omega
def afa{q a:G}(g:t=q*v1+a)(i:4294967296<=a):q<4294967296:=by
 have d:=h.Uu;have k:=h.oG;by_cases f:q<4294967296
 .exact f
 .exfalso;have:4294967296*v1<=q*v1:=gL O O;have e:(v1+1)*4294967296=v1*4294967296+4294967296:=Ey;rw[e]at d;omega
def small{q a:G}(i:t=q*v1+a)(k:0<=a):q<=4294967297:=by
 have d:=h.Uu;have l:=h.oG;have f:=h.ae3;by_cases g:q<=4294967297
 .exact g
 .exfalso;have:4294967298*v1<=q*v1:=gL O O;have e:(v1+1)*4294967296=v1*4294967296+4294967296:=Ey;rw[e]at d;omega
end Kn1
section
variable{κ ι:Type}[DecidableEq κ]
def aC(u:V (κ×ar ι))(k:κ):ar (ar ι):=
 match u with
 |[]=>none
 | (a,x)::r=>if a=k then ad x else aC r k
def bq(a:κ->ar ι)(u:V (κ×ar ι)):κ->ar ι:=λk=>
 match aC u k with
 |some x=>x
 |none=>a k
def fold(d:Y->V (κ×ar ι))(a:κ->ar ι)(s:V Y):κ->ar ι:=s.foldl (λa i=>bq a<|d i) a
def nN(u:V (κ×ar ι))(k:κ):Bool:=(aC u k).isSome
def afb{d:κ->ar ι}{u:V (κ×ar ι)}{k:κ}(a:nN u k=ah):bq d u k=d k:=by
 unfold nN at a;unfold bq;cases e:aC u k with
 |none=>rfl
 |some x=>rw[e]at a;simp at a
def afc{d a:κ->ar ι}{u:V (κ×ar ι)}{k:κ}(e:d k=a k):bq d u k=bq a u k:=by unfold bq;rw[e]
def Uv(d:Y->V (κ×ar ι))(k:κ):∀(s:V Y){f a:κ->ar ι},f k=a k->fold d f s k=fold d a s k
 |[],_,_,e=>e
 |i::s,_,_,e=>Uv d k s<|afc e
def fold_filter(a:Y->V (κ×ar ι))(k:κ):∀(s:V Y)(d:κ->ar ι),fold a d s k=fold a d (s.filter λi=>nN (a i) k) k
 |[],_=>rfl
 |i::s,d=>by
  cases h:nN (a i) k with
  |true=>
   rw[afd dL]
   exact fold_filter a k s _
  |false=>
   rw[afe (by simp[h])]
   have e:=fold_filter a k s d
   rw[<-e]
   exact Uv a k s<|afb h
def NP(a:Y->V (κ×ar ι))(d:κ->ar ι)(s:V Y)(i:Y):fold a d (s++[i])=bq (fold a d s) (a i):=by simp[fold]
def NQ:∀{l m:V Y},l.Pairwise (·<·)->m.Pairwise (·<·)->(∀x,x∈l↔x∈m)->l=m
 |[],[],_,_,_=>rfl
 |[],k::m,_,_,d=>absurd ((d k).2<|BJ) ax
 |x::l,[],_,_,d=>absurd ((d x).1<|BJ) ax
 |x::l,k::m,hl,hm,d=>by
  have f:=jr.1 hl;have g:=jr.1 hm;have o:x=k:=by
   have i:=(d x).1<|BJ;have p:=(d k).2<|BJ;rcases bX.1 i with e|i
   .exact e
   .rcases bX.1 p with e|p
    .exact e.symm
    .have a:=g.1 x i;have b:=f.1 k p;omega
  subst o;congr 1;refine NQ f.2 g.2<|λz=>?_;constructor
  .intro n;rcases bX.1 ((d z).1<|jF _ n)with e|i
   .have:=f.1 z n;omega
   .exact i
  .intro n;rcases bX.1 ((d z).2<|jF _ n)with e|i
   .have:=g.1 z n;omega
   .exact i
def aff(n:Y):(cd n).Pairwise (·<·):=Iw
structure pT(n:Y)(a:Y->Y->Prop)(s:V Y):Prop where
 nodup:s.Nodup
 lt:∀i∈s,i<n
 closed:∀p i r,s=p++i::r->∀d,a d i->d∈p
def pT.nil(n:Y)(a:Y->Y->Prop):pT n a []:=⟨List.nodup_nil,ax,λp i r h=>by simp at h⟩
def pT.snoc{n:Y}{f:Y->Y->Prop}{s:V Y}(l:pT n f s){i:Y}(H:i<n)(B:i∉s)(F:∀g,f g i->g∈s):pT n f (s++[i]):=by
 refine⟨?_,?_,?_⟩
 .rw[NR];exact⟨l.nodup,ax,λa m b u=>by simp at u;subst u;exact λe=>B<|e▸m⟩
 .intro g d;rcases aY.1 d with d|d
  .exact l.lt g d
  .simp at d;omega
 .intro p k r v g d;rcases List.eq_nil_or_concat r with rfl|⟨o,x,rfl⟩
  .have q:s=p/\i=k:=by have:=List.append_inj' (s₁:=s) (t₁:=[i]) (s₂:=p) (t₂:=[k]) v J;exact⟨this.1,by simpa using this.2⟩
   obtain⟨rfl,rfl⟩:=q;exact F g d
  .have q:s=p++k::o:=by
    have t:s++[i]=(p++k::o)++[x]:=by rw[v];simp
    exact(List.append_inj' t J).1
   exact l.closed p k o q g d
def pT.Uw{n:Y}{d:Y->Y->Prop}{s:V Y}(l:pT n d s)(q:Y->Bool)
  (v:∀i m,i<m->m<n->q i=ae->q m=ae->d i m):(s.filter q).Pairwise (·<·):=by
 have o:∀p r,s=p++r->(r.filter q).Pairwise (·<·):=by
  intro p r;induction r generalizing p with
  |nil=>intro _;simp
  |cons x r B=>
   intro f
   have g:=B (p++[x]) (by rw[f];simp)
   cases hx:q x with
   |false=>rw[afe lA];exact g
   |true=>
    rw[afd hx,jr]
    refine⟨λy C=>?_,g⟩
    let ⟨k,t⟩:=nO.1 C
    have u:x∈s:=by rw[f];simp
    have F:x≠y:=by intro e;have:=l.nodup;rw[f,NR]at this;have:=this.2.1;rw[zp]at this;exact this.1<|e▸k
    rcases oH x y with a|H
    .exact a
    .have a:y<x:=by omega
     have K:=v y x a (l.lt x u) t hx;have L:=l.closed p x r f y K;have:=l.nodup;rw[f,NR]at this;exact absurd J<|this.2.2 y L y<|jF _ k
 exact o [] s J
def Ux(n:Y)(q:Y->Bool):((cd n).filter q).Pairwise (·<·):=(aff n).filter _
def pT.read{n:Y}{d:Y->Y->Prop}{s:V Y}(m:pT n d s)(f:Y->V (κ×ar ι))(v:κ->ar ι)(k:κ)(i:Y)(W:i<n)(B:i∉s)
  (H:∀F,d F i->F∈s)
  (L:∀a e,a<e->e<n->nN (f a) k=ae->nN (f e) k=ae->d a e)
  (P:∀a,a<i->nN (f a) k=ae->d a i) (Q:∀e,i<e->e<n->nN (f e) k=ae->d i e):
  fold f v s k=fold f v (cd i) k:=by
 rw[fold_filter f k s,fold_filter f k<|cd i]
 congr 1
 refine NQ (m.Uw _<|λa e o q K U=>L a e o q K U) (Ux i _)<|λx=>?_
 rw[nO,nO,oI]
 constructor
 .rintro⟨g,l⟩;refine⟨?_,l⟩;rcases NS x i with t|he|u
  .exact t
  .exact absurd g<|he▸B
  .have q:=Q x u (m.lt x g) l;let ⟨p,r,C⟩:=NT g;have:=m.closed p x r C i q;exact absurd (by rw[C];exact dY _ this) B
 .rintro⟨g,l⟩;exact⟨H x<|P x g l,l⟩
def pT.all{n:Y}{f:Y->Y->Prop}{s:V Y}(o:pT n f s)(d:Y->V (κ×ar ι))(p:κ->ar ι)(g:∀i,i<n->i∈s)
  (t:∀k a e,a<e->e<n->nN (d a) k=ae->nN (d e) k=ae->f a e):fold d p s=fold d p (cd n):=by
 funext k
 rw[fold_filter d k s,fold_filter d k<|cd n]
 congr 1
 refine NQ (o.Uw _<|λa e l u v B=>t k a e l u v B) (Ux n _)<|λx=>?_
 rw[nO,nO,oI]
 exact⟨λ⟨m,q⟩=>⟨o.lt x m,q⟩,λ⟨m,q⟩=>⟨g x m,q⟩⟩
end
inductive aE where
 |box (E:dM) (sz:Y) (e:V C)
 |vec (E:dM) (g:ET) (xs:V g.den)
 |gM (f:FuncId) (first a:V (Bool×V C))
 |fz (E:dM) (e:V C)
 |mp (i k:Bool) (xs:V (V C×V C))
 |it (m n:Y) (d:V Y)
inductive Key where
 |s (t:Y)
 |m (a:Y)
 deriving DecidableEq
inductive Info where
 |v (x:AV)
 |b (x:aE)
def kA:V (V C×V C)->V Y
 |[]=>[]
 |x::xs=>bP x.1++(bP x.2++kA xs)
def aE.ak:aE->V Y
 | .box _ _ cs=>bP cs
 | .vec _ _ _=>[]
 | .gM _ first a=>eo first++eo a
 | .fz _ cs=>bP cs
 | .mp _ _ xs=>kA xs
 | .it m _ _=>[m]
def Info.ak:Info->V Y
 | .v x=>x.ak
 | .b x=>x.ak
abbrev Kn:=Key->ar Info
def g5(g:Gh)(a d:Bool):Y->V (V C×V C)->V MapEntry->Prop
 |_,[],es=>es=[]
 |n,x::xs,es=>∃e f,es=e::f/\e.born=n/\(∃i,e.key=q5 a i/\aR g x.1 i)/\(∃vs,e.val=q5 d vs/\aR g x.2 vs)/\g5 g a d (n+1) xs f
def g5.mono{known:Y->Prop}{g g':Gh}(f:fP known g g'){m o:Bool}:∀{n:Y}{xs:V (V C×V C)}{p:V MapEntry},(∀d∈kA xs,known d)->g5 g m o n xs p->g5 g' m o n xs p
 |_,[],_,_,q=>q
 |_,_::_,_,i,⟨e,s,t,h2,⟨u,v,k⟩,⟨vs,x,l⟩,B⟩=>⟨e,s,t,h2,⟨u,v,aR.mono f (λd a=>i d<|by simp[kA,a]) k⟩,⟨vs,x,aR.mono f (λd a=>i d<|by simp[kA,a]) l⟩,g5.mono f (λd a=>i d<|by simp[kA,a]) B⟩
def Sub(H:FH)(a:cE):Prop:=∀b o v,H b o=ad v->a.cell? ⟨b,o,none⟩=ad v
def fB(l:Y->Prop)(g:Gh)(W:cE)(e:Y):aE->Prop
 | .box p sz cs=>∃a,∃vs rest:V aO,cz (g.γ e)=ad a/\W.heap[a]? =ad (.cells (vs++rest).toArray p (0,0))/\aR g cs vs/\l a/\(∀o,g.H a o=none)/\(sz≠0->∃t,g.γ e= .slice (ad ⟨a,0,none⟩) 0 t/\Z (vs++rest)=t*sz)
 | .vec p q xs=>(g.γ e= .slice none 0 0/\xs=[])\/∃a k,∃vs:V aO,g.γ e= .slice (ad ⟨a,0,none⟩) (Z xs) k/\W.heap[a]? =ad (.cells vs.toArray p (0,0))/\
   Z vs=k*q.n/\Z xs<=k/\Z xs*q.n<=140737488355328/\(∀i(L:i<Z xs),cV g.H q xs[i] ((az (i*q.n) vs).take q.n))/\l a/\∀o,g.H a o=none
 | .gM f first s=>∃u v:V aO,g.γ e= .func (.func f) u.toArray v.toArray/\fa g first u/\fa g s v
 | .fz p cs=>∃a,∃vs rest:V aO,cz (g.γ e)=ad a/\W.heap[a]? =ad (.cells (vs++rest).toArray p (0,0))/\aR g cs vs/\l a/\(∀o,g.H a o=(vs++rest)[o]?)
 | .mp B F xs=>∃d,∃x:Array MapEntry,g.γ e= .map (ad d)/\W.heap[d]? =ad (.map x<|Z xs)/\g5 g B F 0 xs x.toList/\l d/\(∀o,g.H d o=none)
 | .it m n seen=>∃d a,g.γ e= .pointer (ad ⟨d,0,none⟩)/\g.γ m= .map (ad a)/\W.heap[d]? =ad (.mapIter (ad a) n seen.toArray n)/\l d/\(∀o,g.H d o=none)
structure eK where
 w0:cE
 H0:FH
 n:Y
 own:Y->Prop:=λ_=>False
 k0:Y:=0
 γ0:Y->aO:=λ_=>undef
 ds:V Deferred:=[]
 rd:ar Y:=none
def eK.N(F:eK)(a:Y):Prop:=F.w0.heap.size<=a\/F.own a
structure BK(own:Y->Prop)(w a:cE):Prop where
 os:a.os=w.os
 tape:a.tape=w.tape
 output:a.output=w.output
 size:w.heap.size<=a.heap.size
 block:∀k,k<w.heap.size->¬own k->a.heap[k]? =w.heap[k]?
structure br(F:eK)(e:Y->Prop)(i:Kn)(g:Gh)(W:cE)(a:Act):Prop where
 size:a.tmps.size=F.n
 defers:a.defers=F.ds
 eE:∀t v,i (.s t)=ad (.v v)->bA g v (a.tmps.getD t undef)
 cL:∀d b,i (.m d)=ad (.b b)->fB F.N g W d b
 inj:∀d f b l k,i (.m d)=ad (.b b)->i (.m f)=ad (.b l)->cz (g.γ d)=ad k->cz (g.γ f)=ad k->d=f
 ak:∀k x,i k=ad x->∀d∈x.ak,e d
 dQ:∀d x,i (.m d)=ad x->e d
 sub:Sub g.H W
 below:BK F.own F.w0 W
 le:cD F.H0 g.H
 fresh:∀b o,b<F.w0.heap.size->¬F.own b->g.H b o=F.H0 b o
 fS:∀d,d<F.k0->e d/\g.γ d=F.γ0 d
structure Ext(a e:Y->Prop)(g:Gh)(W:cE)(f:Gh)(d:cE):Prop where
 le:fP a g f
 fresh:∀b o,b<W.heap.size->f.H b o=g.H b o
 sub:Sub f.H d
 size:W.heap.size<=d.heap.size
 heap:∀k,k<W.heap.size->(∀i,e i->cz (g.γ i)≠ad k)->d.heap[k]? =W.heap[k]?
 os:d.os=W.os
 tape:d.tape=W.tape
 output:d.output=W.output
def fB.block{p:Y->Prop}{g}{W}{q}{l}(o:fB p g W q l){k}(a:cz (g.γ q)=ad k):p k/\k<W.heap.size:=by
 cases l with
 |box E sz cs=>
  let ⟨l,vs,rest,e,d,_,i,_⟩:=o
  rw[e]at a
  simp only[au]at a
  subst a
  exact⟨i,(fT.1 d).1⟩
 |vec E T xs=>
  rcases o with⟨e,_⟩|⟨l,t,vs,e,d,_,_,_,_,i,_⟩
  .rw[e]at a;simp[cz]at a
  .rw[e]at a;simp only[cz,au]at a;subst a;exact⟨i,(fT.1 d).1⟩
 |gM f first s=>
  let ⟨us,ws,e,_⟩:=o
  rw[e]at a;simp[cz]at a
 |fz E cs=>
  let ⟨l,vs,rest,e,d,_,i,_⟩:=o
  rw[e]at a
  simp only[au]at a
  subst a
  exact⟨i,(fT.1 d).1⟩
 |mp u v xs=>
  let ⟨r,es,e,d,_,i,_⟩:=o
  rw[e]at a
  simp only[cz,au]at a
  subst a
  exact⟨i,(fT.1 d).1⟩
 |it m n seen=>
  let ⟨r,l,e,_,d,i,_⟩:=o
  rw[e]at a
  simp only[cz,au]at a
  subst a
  exact⟨i,(fT.1 d).1⟩
def fB.step{l chg:Y->Prop}{U:Y->Prop}{g g'}{W W'}{id}{a}(x:fB U g W id a)(hx:Ext l chg g W g' W')
  (eF:l id) (B:∀d∈a.ak,l d) (t:∀d k,chg d->cz (g.γ id)=ad k->cz (g.γ d)≠ad k):fB U g' W' id a:=by
 cases a with
 |box E sz cs=>
  let ⟨a,vs,rest,e,p,C,u,v,hc⟩:=x
  have q:a<W.heap.size:=(fT.1 p).1
  refine⟨a,vs,rest,zq,?_,aR.mono hx.le B C,u,λo=>by rw[hx.fresh a o q];exact v o,by rw[hx.le.γ id eF];exact hc⟩
  rw[hx.heap a q (λd s=>t d a s e)];exact p
 |vec E T xs=>
  rcases x with⟨e,F⟩|⟨a,K,vs,e,p,L,P,Q,c,u,v⟩
  .exact .inl ⟨zq,F⟩
  .have q:a<W.heap.size:=(fT.1 p).1;refine .inr ⟨a,K,vs,zq,?_,L,P,Q,λi w=>cV.mono hx.le.H T _ _<|c i w,u,λo=>by rw[hx.fresh a o q];exact v o⟩;rw[hx.heap a q (λd s=>t d a s tS)];exact p
 |gM f first X=>
  let ⟨us,ws,e,L,P⟩:=x
  exact⟨us,ws,zq,fa.mono hx.le (λd s=>B d<|dY _ s) L,fa.mono hx.le (λd s=>B d<|fU _ s) P⟩
 |fz E cs=>
  let ⟨a,vs,rest,e,p,C,u,v⟩:=x
  have q:a<W.heap.size:=(fT.1 p).1
  refine⟨a,vs,rest,zq,?_,aR.mono hx.le B C,u,λo=>by rw[hx.fresh a o q];exact v o⟩
  rw[hx.heap a q (λd s=>t d a s e)];exact p
 |mp z A xs=>
  let ⟨r,es,e,p,C,u,v⟩:=x
  have q:r<W.heap.size:=(fT.1 p).1
  refine⟨r,es,zq,?_,g5.mono hx.le B C,u,λo=>by rw[hx.fresh r o q];exact v o⟩
  rw[hx.heap r q (λd s=>t d r s tS)];exact p
 |it m n seen=>
  let ⟨r,a,e,y,p,u,v⟩:=x
  have q:r<W.heap.size:=(fT.1 p).1
  refine⟨r,a,zq,by rw[hx.le.γ m (B m<|by simp[aE.ak])];exact y,?_,u,λo=>by rw[hx.fresh r o q];exact v o⟩
  rw[hx.heap r q (λd s=>t d r s tS)];exact p
def br.step{F}{e chg:Y->Prop}{P}{g g'}{W W'}{a a'}(i:br F e P g W a)(L:Ext e chg g W g' W')
 wr new (zr:¬e new)
  (jS:a'.tmps.size=a.tmps.size) (hdf:a'.defers=F.ds)
  (afh:∀t,aC wr (.s t)=none->a'.tmps.getD t undef=a.tmps.getD t undef)
  (Uy:∀d,chg d->aC wr (.m d)≠none/\∃n,P (.m d)=ad (.b n))
  (hs:∀t v,aC wr (.s t)=ad (ad<|.v v)->bA g' v (a'.tmps.getD t undef))
  (hb:∀d n,aC wr (.m d)=ad (ad<|.b n)->fB F.N g' W' d n/\((e d/\∃Q,P (.m d)=ad (.b Q))\/(d=new/\∀k,cz (g'.γ d)=ad k->W.heap.size<=k\/∃B Q,P (.m B)=ad (.b Q)/\aC wr (.m B)=ad none/\cz (g.γ B)=ad k)))
  (hm:∀k x,aC wr k=ad (ad x)->∀d∈x.ak,e d\/d=new)
  (nP:∀d x,aC wr (.m d)=ad (ad x)->e d\/d=new):
  br F (λd=>e d\/d=new) (bq P wr) g' W' a':=by
 have u:∀k x,bq P wr k=ad x->(aC wr k=none/\P k=ad x)\/aC wr k=ad (ad x):=by
  intro k x l;unfold bq at l;cases r:aC wr k with
  |none=>rw[r]at l;exact .inl ⟨J,l⟩
  |some y=>rw[r]at l;simp only at l;rw[l];exact .inr J
 refine⟨by rw[jS];exact i.size,hdf,?_,?_,?_,?_,?_,L.sub,?_,i.le.trans L.le.H,?_,λd f=>⟨.inl (i.fS d f).1,by rw[L.le.γ d (i.fS d f).1];exact(i.fS d f).2⟩⟩
 .intro t v ht;rcases u _ _ ht with⟨p,q⟩|p
  .rw[afh t p];exact bA.mono L.le (λd f=>i.ak _ _ q d f)<|i.eE t v q
  .exact hs t v p
 .intro d n f;rcases u _ _ f with⟨p,q⟩|p
  .refine(i.cL d n q).step L (i.dQ _ _ q) (λB R=>i.ak _ _ q B R)<|λB k R l S=>?_;let ⟨C,Q,K⟩:=Uy B R;have:=i.inj d B n Q k q K l S;subst this;exact C p
  .exact(hb d n p).1
 .intro d w n Q k f G l z;have low:∀d n,(aC wr (.m d)=none/\P (.m d)=ad (.b n))\/aC wr (.m d)=ad (ad<|.b n)->cz (g'.γ d)=ad k->
    (∃U,P (.m d)=ad (.b U)/\cz (g.γ d)=ad k/\k<W.heap.size/\aC wr (.m d)≠ad none)\/(d=new/\(W.heap.size<=k\/∃B Q,P (.m B)=ad (.b Q)/\aC wr (.m B)=ad none/\cz (g.γ B)=ad k)):=by
   intro d n A l
   rcases A with⟨p,q⟩|p
   .rw[L.le.γ d (i.dQ _ _ q)]at l;exact .inl ⟨n,q,l,((i.cL d n q).block l).2,by rw[p];simp⟩
   .rcases(hb d n p).2 with⟨T,U,q⟩|⟨rfl,V⟩
    .rw[L.le.γ d T]at l;exact .inl ⟨U,q,l,((i.cL d U q).block l).2,by rw[p];simp⟩
    .exact .inr ⟨J,V k l⟩
  rcases low d n (u _ _ f) l with⟨c,p,q,Z,h4⟩|⟨e1,Z⟩<;>rcases low w Q (u _ _ G) z with⟨c',I,M,D,Ix⟩|⟨e1',D⟩
  .exact i.inj d w c c' k p I q M
  .rcases D with D|⟨B,bj,C,K,E⟩
   .omega
   .have:=i.inj d B c bj k p C q E;subst this;exact absurd K h4
  .rcases Z with Z|⟨B,bj,C,K,E⟩
   .omega
   .have:=i.inj w B c' bj k I C M E;subst this;exact absurd K Ix
  .rw[e1,e1']
 .intro k x l d f;rcases u _ _ l with⟨_,q⟩|p
  .exact .inl<|i.ak _ _ q d f
  .exact hm k x p d f
 .intro d x l;rcases u _ _ l with⟨_,q⟩|p
  .exact .inl<|i.dQ _ _ q
  .exact nP d x p
 .refine⟨L.os.trans i.below.os,L.tape.trans i.below.tape,L.output.trans i.below.output,bQ i.below.size L.size,λk l X=>?_⟩;have z:k<W.heap.size:=hP l i.below.size;rw[<-i.below.block k l X];refine L.heap k z<|λd f EA=>?_;let ⟨_,n,hσ⟩:=Uy d f;rcases((i.cL d n hσ).block EA).1 with p|p
  .omega
  .exact X p
 .intro n o O X;rw[L.fresh n o (hP O i.below.size)];exact i.fresh n o O X
def br.weaken{F}{i d:Y->Prop}{o}{g}{W}{a}(f:br F i o g W a)(n:∀l,i l->d l):br F d o g W a:=
 ⟨f.size,f.defers,f.eE,f.cL,f.inj,λk x e l m=>n _<|f.ak k x e l m,λl x e=>n _<|f.dQ l x e,f.sub,f.below,f.le,f.fresh,λl m=>⟨n _ (f.fS l m).1,(f.fS l m).2⟩⟩
def br.drew{F}{i:Y->Prop}{k}{g}{W}{a}(d:br F i k g W a):br F i k g {W with drawn:=W.drawn+1} a:=by
 refine⟨d.size,d.defers,d.eE,?_,d.inj,d.ak,d.dQ,d.sub,⟨d.below.os,d.below.tape,d.below.output,d.below.size,d.below.block⟩,d.le,d.fresh,d.fS⟩;intro o b e;have:=d.cL o b e;cases b with
 |box E sz cs=>exact this
 |vec E T xs=>exact this
 |gM f first l=>exact this
 |fz E cs=>exact this
 |mp p q xs=>exact this
 |it m n seen=>exact this
def fC(a:ar Y):Fence:={Fence.wide with round:=a}
def zs(d:ar Y)(a:Array aX):Prop:=∀(i:Y)(o:aX),a[i]? =ad o->d=none\/∀c,o.op≠ .defer c
def afj{a}:zs none a:=λ_ _ _=> .inl J
def Uz{P}{d:Code}{Q:Exit->Act->cE->Prop}{a}{e}{r}(f:r=none):d.wpIn (fC r) 0 P Q a e↔d.wp P Q a e:=by subst f;exact wpIn_wide
def NU{P}{f}{i}{K:Act->cE->Prop}{a}{W}{m}{Q:Exit->Act->cE->Prop}(H:∀o,f[i]? =ad o->m=none\/∀p,o.op≠ .defer p)(d:wpOp P f (λ_ _ _=>False) i K a W):
  wpOpIn (fC m) 0 P f Q i K a W:=by
 unfold wpOp at d
 unfold wpOpIn
 cases q:f[i]? with
 |none=>rw[q]at d;exact d
 |some o=>
  rw[q]at d
  simp only at d⊢
  split
  .rename_i s;rw[ao s]at d;have g:o.wp P a W K (λ_ _ _=>False):=by
    rcases d with d|⟨_,_,_,t⟩
    .exact d
    .exact t.elim
   refine⟨λ_ _=>trivial,?_⟩;have k:(o.semAt (fC m).round a.eval)=execOp a.eval o:=by
    rcases H o q with u|u
    .subst u;exact Oper.semAt_none _ _
    .exact Oper.semAt_eq _ _ _ u
   rw[k];unfold Oper.wp at g;generalize (execOp a.eval o).run P W=x at g;cases x with
   |ok y C=>
    cases y<;>simp only[Oper.upon,Oper.uponIn]at g⊢
    all_goals first
     |exact g
     |exact g.elim
     |skip
    .refine⟨λhh=>Iy,?_⟩;have L:=(callsIn_wide (n:=0)).2 g;refine CallsIn.mono (F:=fC m) L<|λe l k=>?_;cases e with
     |returned v=>exact k
     |panicked p=>exact k.elim
     |outgrown=>let ⟨_,_,t⟩:=k;exact t.elim
    .refine⟨λhh=>Iy,?_⟩;intro p U _;let ⟨v,l,X,B⟩:=g p U;exact⟨v,l,X,stepsIn_wide.2 B⟩
   |halt y C=>
    cases y<;>simp only[Oper.upon]at g⊢<;>exact g.elim
  .rename_i s;rw[w s]at d;exact⟨λ_ _=>trivial,d⟩
def g6(P:bS)(n:Y)(f:Array aX)(i:Y)(q:V (Key×Info))(s:V (Key×ar Info))(e:Y):Prop:=
 ∀(F:eK),F.n=n->∀(Q:Exit->Act->cE->Prop)(d:Y->Prop)(k:Kn)(g:Gh)(W:cE)(a:Act)(K:Act->cE->Prop),¬d e->br F d k g W a->
  (∀l∈q,k l.1=ad l.2)->(∀t m o,br F (λp=>d p\/p=e) (bq k s) t m o->K o m)->wpOp P f Q i K a W
def tT(P:bS)(n:Y)(k:Array aX)(i:Y)(q:V (Key×Info))(s:V (Key×ar Info))(e:Y->Prop):Prop:=
 ∀(F:eK),F.n=n->∀(Q:Exit->Act->cE->Prop)(d:Y->Prop)(l:Kn)(g:Gh)(W:cE)(a:Act)(K:Act->cE->Prop),(∀f,e f->¬d f)->br F d l g W a->
  (∀m∈q,l m.1=ad m.2)->(∀t o p,br F (λf=>d f\/e f) (bq l s) t o p->K p o)->wpOp P k Q i K a W
def g6.Iz{P}{n}{e}{i}{p}{q}{m}(l:g6 P n e i p q m){new:Y->Prop}(s:new m):tT P n e i p q new:=by
 intro F t Q d u g W a K f k o v;refine l F t Q d u g W a K (f m s) k o<|λx B C H=>v x B C<|H.weaken ?_;rintro id (l|rfl)
 .exact .inl l
 .exact .inr s
def pU(a:Y->Y)(i:Y):Y->Prop:=λd=>a i<=d/\d<a (i+1)
def EB{a:Y->Y}(e:∀i,a i<=a (i+1)){i d}(f:i<=d):a i<=a d:=by
 induction f with
 |refl=>exact aW _
 |step _ g=>exact bQ g<|e _
section
variable{P:bS}{ops:Array aX}{Q:Exit->Act->cE->Prop}{F:eK}{σ:Kn}{rd:Y->V (Key×Info)}{wr:Y->V (Key×ar Info)}{nx:Y}
def UA{d}{g}{W}{a}{c:Y->Y}(q:∀i,c i<=c (i+1))(s:br F (·<c 0) σ g W a)
  (t:∀i,i<ops.size->tT P F.n ops i (rd i) (wr i) (pU c i))
  (u:∀i,i<ops.size->∀p∈rd i,fold wr σ (cd i) p.1=ad p.2)
  (v:∀g W a,br F (·<c ops.size) (fold wr σ<|cd ops.size) g W a->Q .normal a W) (e:zs F.rd ops):(Code.region d ops ah).wpIn (fC F.rd) 0 P Q a W:=by
 refine wpIn_region ?_
 have f:∀m k,k+m=ops.size->∀g W a,br F (·<c k) (fold wr σ<|cd k) g W a->wpOpsIn (fC F.rd) 0 P ops Q (List.range' k m) a W:=by
  intro m;induction m with
  |zero=>intro k l g W a h;simp only[iR]at l;subst l;exact v g W a h
  |succ m x=>
   intro k l g W a h
   rw[IA,wpOpsIn_cons]
   refine NU (e k) ?_
   refine t k O F J _ (·<c k) _ g W a _ (λd B U=>by simp only[pU]at B;omega) h (u k O)<|λC H K L=>?_
   refine x (k+1) O C H K ?_
   rw[zt,NP]
   exact L.weaken (λd o=>by have:=q k;simp only[pU]at o;omega)
 have:=f ops.size 0 O g W a s
 rwa[<-NV]at this
inductive lB(ops:Array aX):Y->Y->Prop where
 |one {i a:Y} {o:aX} {e:Edge} (d:ops[i]? =ad o) (f:e∈o.after) (g:so .any e=ae) (l:e.on=a):lB ops a i
 |more {i a k:Y} {o:aX} {e:Edge} (d:ops[i]? =ad o) (f:e∈o.after) (g:so .any e=ae) (m:e.on=k) (h:lB ops a k):lB ops a i
def lB.closed{s:V Y}{i}(f:∀k∈s,∀d,lB ops d k->d∈s)(a:∀o,ops[i]? =ad o->∀e∈o.after,so .any e=ae->e.on∈s):∀d,lB ops d i->d∈s:=by
 intro d g;cases g with
 |one l he m g=>subst g;exact a _ l _ he m
 |more l he m n h=>subst n;exact f _ (a _ l _ he m) d h
def fD(u:V (Key×ar Info)):V Key:=u.map (·.1)
def dq(u:V (Key×Info)):V Key:=u.map (·.1)
def zu{u}{k:Key}(a:nN u k=ae):k∈fD u:=by
 induction u with
 |nil=>simp[nN,aC]at a
 |cons p u d=>
  let ⟨f,x⟩:=p
  by_cases e:f=k
  .simp[fD,e]
  .have:nN u k=ae:=by simpa[nN,aC,e]using a
   have:=d this;simp only[fD,gR,bX];exact .inr this
def UB{id}{g}{W}{a}{c:Y->Y}(hc:∀i,c i<=c (i+1))(jT:P.follows .mixedOrders=ae)(gN:∀i o e,ops[i]? =ad o->e∈o.after->so .any e=ae->e.on<i)(h0:br F (·<c 0) σ g W a)
  (hs:∀i,i<ops.size->tT P F.n ops i (rd i) (wr i) (pU c i))
  (ht:∀i,i<ops.size->∀L∈rd i,fold wr σ (cd i) L.1=ad L.2)
  (UC:∀i f,i<f->f<ops.size->∀k,k∈fD (wr i)->k∈fD (wr f)->lB ops i f)
  (NW:∀i f,i<f->f<ops.size->∀k,k∈fD (wr i)->k∈dq (rd f)->lB ops i f)
  (NX:∀i f,i<f->f<ops.size->∀k,k∈dq (rd i)->k∈fD (wr f)->lB ops i f)
  (hQ:∀g W a,br F (·<c ops.size) (fold wr σ<|cd ops.size) g W a->Q .normal a W) (js:zs F.rd ops):(Code.region id ops ae).wpIn (fC F.rd) 0 P Q a W:=by
 refine wpIn_region_any jT ?_
 have key:∀u d s g W a,d.size=ops.size->pT ops.size (lB ops) s->(∀i,i<ops.size->(d.getD i ae=ae↔i∈s))->u+s.length=ops.size->
   br F (λid=>id<c 0\/∃i∈s,pU c i id) (fold wr σ s) g W a->wpAnyIn (fC F.rd) 0 P .any ops Q u d a W:=by
  intro u
  induction u with
  |zero=>
   intro d s g W a M l z A h
   have t:∀i,i<ops.size->i∈s:=by
    intro i B;refine eX λK=>?_
    have js:(i::s).Nodup:=zp.2 ⟨K,l.nodup⟩;have N:i::s⊆cd ops.size:=λx R=>by
     rcases bX.1 R with rfl|R
     .exact oI.2 B
     .exact oI.2<|l.lt x R
    have:=js.length_le_of_subset N;simp at this;omega
   refine⟨?_,?_⟩
   .cases hr:UD .any ops d with
    |nil=>rfl
    |cons x xs=>
     have R:x∈UD .any ops d:=by rw[hr];exact BJ
     let ⟨S,o,ho,_⟩:=mem_ready.1 R
     have T:x<ops.size:=(fT.1 ho).1
     have:=(z x T).2<|t x T
     rw[this]at S
     cases S
   .refine hQ g W a ?_;rw[<-l.all wr σ t (λk i f NY C v D=>UC i f NY C k (zu v)<|zu D)];refine h.weaken<|λid q=>?_;rcases q with q|⟨i,B,hf⟩
    .exact hP q<|EB hc<|a8 _
    .have:=EB hc (show i+1<=ops.size from l.lt i B);simp only[pU]at hf;omega
  |succ u ih=>
   intro d s g W a M l z A h
   refine⟨λhr=>?_,λi B=>?_⟩
   .exfalso;have hex:∃i,i<ops.size/\i∉s:=by
     refine eX λfe=>?_
     have t:∀i∈cd ops.size,i∈s:=λi B=>eX λK=>fe ⟨i,oI.1 B,K⟩
     have:=(List.nodup_range (n:=ops.size)).length_le_of_subset t;simp at this;omega
    have U:∀m,∀i,i<=m->i<ops.size->i∉s->∃i,i<ops.size/\i∉s/\∀f,f<i->f∈s:=by
     intro m;induction m with
     |zero=>intro i H w V;exact⟨i,w,V,λf C=>O⟩
     |succ m ihm=>
      intro i H w V
      by_cases C:∃f,f<i/\f∉s
      .let ⟨f,BL,tU⟩:=C;exact ihm f O O tU
      .exact⟨i,w,V,λf D=>eX λK=>C ⟨f,D,K⟩⟩
    let ⟨i0,NZ,N0⟩:=hex;let ⟨i,B,K,X⟩:=U i0 i0 (aW _) NZ N0;have:i∈UD .any ops d:=by
     rw[mem_ready];refine⟨?_,ops[i],by simp[B],λe he E=>?_⟩
     .cases hg:d.getD i ae with
      |false=>rfl
      |true=>exact absurd ((z i B).1 hg) K
     .have H:=gN i ops[i] e (by simp[B]) he E;have w:=(z e.on O).2<|X e.on H;have V:e.on<d.size:=O;simpa[V]using w
    rw[hr]at this;cases this
   .let ⟨Z,o,ho,t⟩:=mem_ready.1 B;have v:i<ops.size:=(fT.1 ho).1;have K:i∉s:=λvB=>by rw[(z i v).2 vB]at Z;cases Z
    have q9:∀k∈s,∀f,lB ops f k->f∈s:=by intro k hk f C;let ⟨p,r,UE⟩:=NT hk;rw[UE];exact dY _<|l.closed p k r UE f C
    have G:∀o',ops[i]? =ad o'->∀e∈o'.after,so .any e=ae->e.on∈s:=by
     intro o' UF e he E;rw[ho]at UF;cases UF;have H:=t e he E;have gN:e.on<ops.size:=by
      rcases oH e.on d.size with w|w
      .omega
      .simp[Array.getElem?_eq_none w]at H
     refine(z e.on gN).1 ?_;have afl:e.on<d.size:=O;simpa[afl]using H
    have y:=lB.closed q9 G;have fc:∀L∈rd i,fold wr σ s L.1=ad L.2:=by intro L bZ;have hk:L.1∈dq (rd i):=je.2 ⟨L,bZ,J⟩;rw[l.read wr σ L.1 i v K y (λa b N1 E ha' kZ=>UC a b N1 E _ (zu ha')<|zu kZ) (λa ha hwa=>NW a i ha v _ (zu hwa) hk) (λb E hbn hwb=>NX i b E hbn _ hk<|zu hwb)];exact ht i v L bZ
    refine NU (js i) ?_;refine hs i v F J _ _ _ g W a _ (λid hf q'=>?_) h fc<|λg' W' a' h'=>?_
    .rcases q' with q'|⟨f,C,e⟩
     .have:=EB hc<|a8 i;simp only[pU]at hf;omega
     .have:i=f:=by
       simp only[pU]at hf e;rcases NS i f with H|H|H
       .have:=EB hc (show i+1<=f from H);omega
       .exact H
       .have:=EB hc (show f+1<=i from H);omega
      exact K<|this▸C
    .refine ih (d.setIfInBounds i ae) (s++[i]) g' W' a' (by simp[M]) (l.snoc v K y) (λf C=>?_) bV ?_
     .by_cases I:f=i
      .subst I;have:f<d.size:=O;simp[this]
      .rw[getD_set_ne ae (Ne.symm I),z f C];simp[I]
     .rw[NP];refine h'.weaken<|λid q=>?_;rcases q with(q|⟨f,C,e⟩)|q
      .exact .inl q
      .exact .inr ⟨f,dY _ C,e⟩
      .exact .inr ⟨i,ax,q⟩
 refine key ops.size _ [] g _ a ax (pT.nil _ _) (λi B=>?_) ax ?_
 .simp[B]
 .exact h0.drew.weaken<|λid q=> .inl q
end
def jt{a:Type}(t:Y):V (Y×a)->ar a
 |[]=>none
 | (k,x)::d=>if k=t then ad x else jt t d
inductive ZV where
 |b|i (k:lX)|s|f|t|p|m
def ZV.eG:ZV->aO
 | .b=> .bool ah
 | .i k=> .int k 0
 | .s=> .slice none 0 0
 | .f=> .nilFunc
 | .t=> .string ⟨⟨[]⟩⟩
 | .p=> .pointer none
 | .m=> .map none
def ZV.oJ:ZV->C
 | .b=> .B ah
 | .i k=> .I k 0
 | .s=> .V<|.slice none 0 0
 | .f=> .V .nilFunc
 | .t=> .V<|.string ⟨⟨[]⟩⟩
 | .p=> .V<|.pointer none
 | .m=> .V<|.map none
def ZV.ok:ZV->aO->Bool
 | .b,.bool ah=>ae
 | .i k,.int a n=>k=a&&n=0
 | .s,.slice none 0 0=>ae
 | .f,.nilFunc=>ae
 | .t,.string ⟨⟨[]⟩⟩=>ae
 | .p,.pointer none=>ae
 | .m,.map none=>ae
 |_,_=>ah
def ZV.ok_eq:∀{a:ZV}{v:aO},a.ok v=ae->v=a.eG:=by
 intro a v h;unfold ZV.ok at h;split at h
 .rfl
 .simp only[cw,decide_eq_true_eq]at h;obtain⟨rfl,rfl⟩:=h;rfl
 .rfl
 .rfl
 .rfl
 .rfl
 .rfl
 .cases h
inductive TK where
 |int (k:lX)|bool|sl (E:Y)|st|arr (len E:Y)|str|map (K V:Y)|other
structure TI where
 kind:TK
 size:Y
 bytes:Y
 fields:V (Y×Y×Bool)
 zero:V ZV
abbrev TT:=V<|Y×TI
def TI.agg(t:TI):Bool:=match t.kind with| .st=>ae| .arr _ _=>ae|_=>ah
def tV(P:bS)(t:dM):ar Bool:=match P.underlying t with
 |some (.struct _)=>ad ae
 |some (.array _ _)=>ad ae
 |some _=>ad ah
 |none=>none
def BM:V ZV->V aO->Bool
 |[],[]=>ae
 |a::d,v::vs=>a.ok v&&BM d vs
 |_,_=>ah
def N2:∀{d:V ZV}{vs:V aO},BM d vs=ae->vs=d.map ZV.eG
 |[],[],_=>rfl
 |_::_,_::_,a=>by simp only[BM,cw]at a;simp[ZV.ok_eq a.1,N2 a.2]
 |[],_::_,a=>by simp[BM]at a
 |_::_,[],a=>by simp[BM]at a
def IB:aO->Bool
 | .agg _=>ae
 |_=>ah
def afq{v}{l}{d}(h:(IB v==d)=ae)(a:v.cells.toList=l):v=q5 d l:=by
 have e:IB v=d:=dL;subst e;cases v with
 |agg vs=>
  simp only[Value.cells]at a
  subst a
  simp[IB,q5]
 |_=>
  simp only[Value.cells]at a
  subst a
  rfl
def rf(P:bS):V (Y×Y×Bool)->V Field->Bool
 |[],[]=>ae
 | (off,sz,a)::d,f::fs=>f.offset=off&&((P.info? f.type).map (·.size)==ad sz)&&sz≠0&&(tV P f.type==ad a)&&rf P d fs
 |_,_=>ah
def N3(P:bS)(t:Y)(a:TI):Bool:=
 match P.info? t with
 |none=>ah
 |some i=>i.size=a.size&&Z a.zero=a.size&&i.bytes=a.bytes&&(match i.zero with|some z=>BM a.zero z.cells.toList&&(IB z==a.agg)|none=>ah)&&
  match a.kind,P.underlying t with
  | .int k,ad (.int l)=>k=l
  | .bool,ad .bool=>ae
  | .sl E,ad (.slice m)=>E=m
  | .st,ad (.struct fs)=>rf P a.fields fs.toList
  | .arr n e,ad (.array f g)=>n=f&&e=g
  | .str,ad .string=>ae
  | .map n e,ad (.map f g)=>n=f&&e=g
  | .other,ad d=>(match d with| .struct _=>ah| .array _ _=>ah|_=>ae)
  |_,_=>ah
structure UG(P:bS)(t:Y)(a:TI):Prop where
 UH:a.zero.length=a.size
 info:∃i,P.info? t=ad i/\i.size=a.size/\i.bytes=a.bytes/\∃z,i.zero=ad z/\z.cells.toList=a.zero.map ZV.eG
 agg:tV P t=ad a.agg
 zag:∀i z,P.info? t=ad i->i.zero=ad z->z=q5 a.agg (a.zero.map ZV.eG)
 kind:match a.kind with
  | .int k=>P.underlying t=ad (.int k)
  | .bool=>P.underlying t=ad .bool
  | .sl E=>P.underlying t=ad (.slice E)
  | .st=>∃fs,P.underlying t=ad (.struct fs)/\rf P a.fields fs.toList=ae
  | .arr n e=>P.underlying t=ad (.array n e)
  | .str=>P.underlying t=ad .string
  | .map n e=>P.underlying t=ad (.map n e)
  | .other=>True
def afs{P}{t}{g}(f:N3 P t g=ae):UG P t g:=by
 unfold N3 at f;cases l:P.info? t with
 |none=>rw[l]at f;simp at f
 |some i=>
  rw[l]at f
  simp only[cw,decide_eq_true_eq]at f
  let ⟨⟨⟨⟨p,q⟩,h2⟩,e⟩,a⟩:=f
  have m:∃z,i.zero=ad z/\z.cells.toList=g.zero.map ZV.eG:=by
   cases m:i.zero with
   |none=>rw[m]at e;simp at e
   |some z=>rw[m]at e;simp only[cw]at e;exact⟨z,J,N2 e.1⟩
  refine⟨q,⟨i,l,p,h2,m⟩,?_,?_,?_⟩
  rotate_left
  .intro v z k n;rw[l]at k;cases k;rw[n]at e;simp only[cw]at e;exact afq e.2<|N2 e.1
  rotate_right
  .unfold tV TI.agg;cases o:g.kind<;>rw[o]at a<;>cases hu:P.underlying t<;>rw[hu]at a<;>try(simp at a;done)
   all_goals (rename_i d;cases d<;>first|rfl| (simp at a;done))
  .cases o:g.kind<;>rw[o]at a<;>cases hu:P.underlying t<;>rw[hu]at a<;>try(simp at a;done)
   all_goals (rename_i d;cases d<;>first|trivial| (simp at a;done)| (simp at a;subst a;rfl)| (simp at a;let ⟨s,u⟩:=a;subst s u;rfl)|exact⟨_,rfl,a⟩)
def b8(P:bS):TT->Bool
 |[]=>ae
 | (t,a)::d=>N3 P t a&&b8 P d
def dZ{P:bS}:∀{g:TT},b8 P g=ae->∀{t d},jt t g=ad d->UG P t d
 |[],_,_,_,a=>by simp[jt]at a
 | (k,x)::i,f,t,d,a=>by
  simp only[b8,cw]at f;simp only[jt]at a;split at a
  .rename_i e;subst e;cases a;exact afs f.1
  .exact dZ f.2 a
structure St where
 sl:V (Y×AV)
 mem:V (Y×aE)
 nx:Y
 gd:V (Y×Bool):=[]
def St.kn(a:St):Kn
 | .s t=>(jt t a.sl).map .v
 | .m id=>(jt id a.mem).map .b
def BN:aO->AV
 | .bool a=> .c<|.B a
 | .int k n=> .c<|.I k n
 |v=> .c<|.V v
def St.ev(a:St):Operand->ar AV
 | .tmp t=>jt t a.sl
 | .const v=>ad<|BN v
 | .func f=>ad<|.c<|.V<|.func (.func f) #[] #[]
 | .global _=>none
def cC(a:St):Operand->V (Key×Info)
 | .tmp t=>match jt t a.sl with
  |some v=>[(.s t,.v v)]
  |none=>[]
 |_=>[]
def afu g v:bA g (BN v) v:=by cases v<;>exact J
def du{F}{d:Y->Prop}{i}{g}{W}{a}(l:br F d i g W a) st x v(e:st.ev x=ad v)
  (m:∀k∈cC st x,i k.1=ad k.2):bA g v (a.eval x):=by
 cases x with
 |tmp t=>
  simp only[St.ev]at e
  have:=m (.s t,.v v) (by simp[cC,e])
  exact l.eE t v this
 |const u=>simp only[St.ev,au]at e;subst e;exact afu g u
 |func f=>simp only[St.ev,au]at e;subst e;rfl
 |global _=>simp[St.ev]at e
def rh{F}{d:Y->Prop}{l}{g}{W}{a}(n:br F d l g W a) st x v(i:st.ev x=ad v)
  (o:∀m∈cC st x,l m.1=ad m.2):∀k∈v.ak,d k:=by
 cases x with
 |tmp t=>
  simp only[St.ev]at i
  have:=o (.s t,.v v) (by simp[cC,i])
  exact λk e=>n.ak _ _ this k e
 |const u=>simp only[St.ev,au]at i;subst i;intro k e;cases u<;>simp[BN,AV.ak,C.ak]at e
 |func f=>simp only[St.ev,au]at i;subst i;intro k e;simp[AV.ak,C.ak]at e
 |global _=>simp[St.ev]at i
def ri{P}{m}{i}{o:aX}{d:Y}(ho:m[i]? =ad o)(hg:o.guard=none)(hd:o.dst=ad d){n}(di:d<n)
 rd x new
  (L:∀(F:eK)(f:Y->Prop)(H:Kn)(g:Gh)(W:cE)(a:Act),br F f H g W a->(∀kx∈rd,H kx.1=ad kx.2)->
   (∀p∈x.ak,f p)/\∃v,(execOp a.eval o).run P W= .ok (.value v) W/\bA g x v):
  g6 P n m i rd [(.s d,ad<|.v x)] new:=by
 intro F kC Q f H g W a K q aN U r
 let ⟨hm,v,B,C⟩:=L F f H g W a aN U
 unfold wpOp
 simp only[ho,Region.wanted,hg,b7]
 refine .inl ?_
 unfold Oper.wp
 rw[B]
 simp only[Oper.upon,hd]
 have X:d<a.tmps.size:=l0
 refine r g W _<|aN.step (chg:=λ_=>False) (g':=g) (W':=W) ⟨⟨cD.refl _,λ_ _=>rfl⟩,λ_ _ _=>rfl,aN.sub,aW _,λ_ _ _=>rfl,J,J,J⟩ _ new q mL aN.defers ?_ (λ_ L=>L.elim) ?_ ?_ ?_ ?_
 .intro t l;have c:d≠t:=by intro e;subst e;simp[aC]at l
  simp[Act.put,lC c]
 .intro t u l;simp only[aC]at l;split at l
  .rename_i e;simp only[Key.s.injEq]at e;simp only[au,Info.v.injEq]at l;subst e;subst l;simpa[Act.put,X]using C
  .simp at l
 .intro p b l;simp[aC]at l
 .intro k y l;simp only[aC]at l;split at l
  .simp only[au]at l;subst l;exact λp j=> .inl<|hm p j
  .simp at l
 .intro p y l;simp[aC]at l
def gf(n:G):Prop:= -9223372036854775808<=n/\n<=9223372036854775807
inductive Pr where
 |t
 |i64 (n:G)
 |zv (b:G)
 |le (a b:G)
 |lt (a b:G)
 |zw (a b:Y)
 |sp (a b:Bool)
 |and (p q:Pr)
def Pr.h:Pr->Prop
 | .t=>True
 | .i64 n=>gf n
 | .zv d=>d≠0
 | .le a d=>a<=d
 | .lt a d=>a<d
 | .zw a d=>a<d
 | .sp a d=>a=d
 | .and p q=>p.h/\q.h
def Pr.b:Pr->Bool
 | .t=>ae
 | .i64 n=>decide (-9223372036854775808<=n)&&decide (n<=9223372036854775807)
 | .zv d=> !decide (d=0)
 | .le a d=>decide<|a<=d
 | .lt a d=>decide<|a<d
 | .zw a d=>Nat.blt a d
 | .sp a d=>a==d
 | .and p q=>p.b&&q.b
def Pr.EC:∀{p:Pr},p.b=ae->p.h
 | .t,_=>trivial
 | .i64 _,a=>by simpa[Pr.b,Pr.h,gf]using a
 | .zv _,a=>by simpa[Pr.b,Pr.h]using a
 | .le _ _,a=>by simpa[Pr.b,Pr.h]using a
 | .lt _ _,a=>by simpa[Pr.b,Pr.h]using a
 | .zw _ _,a=>c9 a
 | .sp _ _,a=>by simpa[Pr.b,Pr.h]using a
 | .and p q,a=>by simp only[Pr.b,cw]at a;exact⟨Pr.EC a.1,Pr.EC a.2⟩
def Pr.an:Pr->Pr->Pr
 | .t,q=>q
 |p,.t=>p
 |p,q=> .and p q
def Pr.ED{p q:Pr}(a:(p.an q).h):p.h/\q.h:=by
 unfold Pr.an at a;split at a
 .exact⟨A,a⟩
 .exact⟨a,A⟩
 .exact a
instance:CoeSort Pr Prop:=⟨Pr.h⟩
def num(k:lX)(n:G):C×Pr:=match k with
 | .i64=>(.I .i64 n,.i64 n)
 |k=>(.I k<|k.wrap n,.t)
def BO k n(a:(num k n).2.h) g:cQ g (num k n).1 (.int k<|k.wrap n):=by cases k<;>first|exact rfl| (show Value.int .i64 _=_;rw[Go.IntWalk.i64_in n a])
def EE(op:BinOp)(k:lX)(a d:G):ar (C×Pr):=match op with
 | .add=>ad<|num k<|a+d
 | .sub=>ad<|num k<|a-d
 | .mul=>ad<|num k<|a*d
 | .quo=>ad ((num k<|a.tdiv d).1,.and (.zv d) (num k<|a.tdiv d).2)
 | .rem=>ad (.I k<|a.tmod d,.zv d)
 | .and=>ad (.I k<|k.wrap (iG k.bits a&&& iG k.bits d).toNat,.t)
 | .or=>ad (.I k<|k.wrap (iG k.bits a|||iG k.bits d).toNat,.t)
 | .eql=>ad (.B<|a==d,.t)
 | .neq=>ad (.B<|a !=d,.t)
 | .lss=>ad (.B<|decide<|a<d,.t)
 | .leq=>ad (.B<|decide<|a<=d,.t)
 | .gtr=>ad (.B<|decide<|a>d,.t)
 | .geq=>ad (.B<|decide<|a>=d,.t)
 |_=>none
def BP(op:BinOp)(k:lX)(a d:G):ar (C×Pr):=match op with
 | .shl=>ad (.I k<|k.wrap<|a*2^(min (af d) k.bits),.le 0 d)
 | .shr=>ad (.I k<|a.fdiv<|2^(min (af d) k.bits),.le 0 d)
 |_=>none
def IC(op:BinOp):C->C->ar (C×Pr)
 | .I k a,.I e d=>match op with
  | .shl=>BP .shl k a d
  | .shr=>BP .shr k a d
  |op=>if k=e then EE op k a d else none
 | .B a,.B d=>match op with
  | .eql=>ad (.B<|a==d,.t)
  | .neq=>ad (.B<|a !=d,.t)
  |_=>none
 |_,_=>none
def afv{P}{op:BinOp}{k}{a d}{l}{pre}(e:EE op k a d=ad (l,pre))(i:pre) g t W:
  ∃v,(binOp op t (.int k a)<|.int k d).run P W= .ok v W/\cQ g l v:=by
 cases op<;>simp only[EE,au,bG,reduceCtorEq]at e
 case add=>have f:num k (a+d)=(l,pre):=e;refine⟨.int k<|k.wrap<|a+d,by simp[binOp,N4,pure],?_⟩;have:=BO k (a+d) (by rw[f];exact i) g;rw[f]at this;exact this
 case sub=>have f:num k (a-d)=(l,pre):=e;refine⟨.int k<|k.wrap<|a-d,by simp[binOp,N4,pure],?_⟩;have:=BO k (a-d) (by rw[f];exact i) g;rw[f]at this;exact this
 case mul=>have f:num k (a*d)=(l,pre):=e;refine⟨.int k<|k.wrap<|a*d,by simp[binOp,N4,pure],?_⟩;have:=BO k (a*d) (by rw[f];exact i) g;rw[f]at this;exact this
 case quo=>
  obtain⟨rfl,rfl⟩:=e
  exact⟨.int k<|k.wrap<|a.tdiv d,by simp[binOp,Op.intDiv,show d≠0 from(show d≠0/\_ from i).1,pure],BO k _ (show d≠0/\_ from i).2 g⟩
 case rem=>
  obtain⟨rfl,rfl⟩:=e
  exact⟨.int k<|a.tmod d,by simp[binOp,Op.intDiv,show d≠0 from i,pure],J⟩
 case and=>obtain⟨rfl,rfl⟩:=e;exact⟨_,by simp[binOp,Op.intBits,pure],J⟩
 case or=>obtain⟨rfl,rfl⟩:=e;exact⟨_,by simp[binOp,Op.intBits,pure],J⟩
 case eql=>obtain⟨rfl,rfl⟩:=e;exact⟨_,BQ,J⟩
 case neq=>obtain⟨rfl,rfl⟩:=e;exact⟨_,BQ,J⟩
 case lss=>obtain⟨rfl,rfl⟩:=e;exact⟨_,BQ,J⟩
 case leq=>obtain⟨rfl,rfl⟩:=e;exact⟨_,BQ,J⟩
 case gtr=>obtain⟨rfl,rfl⟩:=e;exact⟨_,BQ,J⟩
 case geq=>obtain⟨rfl,rfl⟩:=e;exact⟨_,BQ,J⟩
def run_equal_bool{P}{t}(e:P.underlying t=ad .bool) a d W:(Op.equal t (.bool a)<|.bool d).run P W= .ok (a==d) W:=by rw[Op.equal,show Op.maxDepth=9999+1 from J,Op.equalIn];simp[run_underlying e]
def UI(a:TT)(t:Y):Bool:=match jt t a with
 |some d=>(match d.kind with| .bool=>ae|_=>ah)
 |none=>ah
def BR(e:TT)(op:BinOp)(t:Y)(x d:C):ar (C×Pr):=match x,d with
 | .B a,.B b=>if UI e t then IC op (.B a) (.B b)else none
 |x,d=>IC op x d
def afw{P}{m}(n:b8 P m=ae){op:BinOp}{t:dM}{x o}{F}{pre}(d:BR m op t x o=ad (F,pre))(p:pre) g{q s}(i:cQ g x q)(l:cQ g o s) W
 H L:∃v,(do eqGuard op t H L q s;binOp op t q s:Sem aO).run P W= .ok v W/\cQ g F v:=by
 cases x<;>cases o<;>simp only[BR,IC,reduceCtorEq]at d
 case B.B a b=>
  split at d
  .rename_i f;have C:P.underlying t=ad .bool:=by
    unfold UI at f;cases hl:jt t m with
    |none=>rw[hl]at f;simp at f
    |some K=>
     rw[hl]at f
     have:=(dZ n hl).kind
     cases Q:K.kind<;>simp only[Q]at f this<;>first|exact this| (simp at f)
   simp only[cQ]at i l;subst i l;cases op<;>simp only[au,bG,reduceCtorEq]at d
   .obtain⟨rfl,rfl⟩:=d;exact⟨.bool<|a==b,by simp[eqGuard,binOp,run_equal_bool C],J⟩
   .obtain⟨rfl,rfl⟩:=d;exact⟨.bool<|a !=b,by simp[eqGuard,binOp,run_equal_bool C,bne],J⟩
  .simp at d
 case I.I k a u b=>
  simp only[cQ]at i l
  subst i l
  have U:∀op,(do eqGuard op t H L (.int k a) (.int u b);binOp op t (.int k a) (.int u b):Sem aO).run P W=(binOp op t (.int k a)<|.int u b).run P W:=by intro op;cases op<;>simp[eqGuard]
  rw[U]
  cases op
  case shl=>
   simp only[BP,au,bG]at d
   obtain⟨rfl,rfl⟩:=d
   exact⟨_,by simp[binOp,Op.shift,Int.not_lt.2 (show(0:G)<=_ from p),pure],J⟩
  case shr=>
   simp only[BP,au,bG]at d
   obtain⟨rfl,rfl⟩:=d
   exact⟨_,by simp[binOp,Op.shift,Int.not_lt.2 (show(0:G)<=_ from p),pure],J⟩
  all_goals
   simp only at d
   split at d
   .rename_i e;subst e;exact afv d p g t W
   .simp at d
def ID{P}{t}{e}(a:tV P t=ad e) W:(isAgg t).run P W= .ok e W:=by
 unfold tV at a;cases hu:P.underlying t with
 |none=>rw[hu]at a;simp at a
 |some d=>
  rw[hu]at a
  simp only[isAgg,cZ,run_underlying hu,de]
  cases d<;>simp at a<;>subst a<;>rfl
def run_sizeOf{P}{t}{i:TypeInfo}(a:P.info? t=ad i) W:(sizeOf t).run P W= .ok i.size W:=by simp[sizeOf,typeInfo,a]
def IE{P:bS}:∀{l:V (Y×Y×Bool)}{m:V Field},rf P l m=ae->∀{k:Y}{a sz:Y}{n:Bool},l[k]? =ad (a,sz,n)->
  ∃f,m[k]? =ad f/\f.offset=a/\(∃i,P.info? f.type=ad i/\i.size=sz)/\sz≠0/\tV P f.type=ad n
 |[],_,_,_,_,_,_,d=>by simp at d
 | (o,s,g)::q,[],e,_,_,_,_,_=>by simp[rf]at e
 | (o,s,g)::q,f::m,e,0,a,sz,n,d=>by
  simp only[rf,cw,decide_eq_true_eq,beq_iff_eq]at e;simp only[l3,au,bG]at d;obtain⟨rfl,rfl,rfl⟩:=d;let ⟨⟨⟨⟨p,h2⟩,h3⟩,u⟩,_⟩:=e;refine⟨f,ax,p,?_,zy,u⟩;cases t:P.info? f.type with
  |none=>rw[t]at h2;simp at h2
  |some i=>rw[t]at h2;simp at h2;exact⟨i,J,h2⟩
 | (o,s,g)::q,f::m,e,k+1,a,sz,n,d=>by simp only[rf,cw]at e;simp only[vC]at d;let ⟨v,p,h2⟩:=IE e.2 d;exact⟨v,by simpa using p,h2⟩
def mM(e:V C)(d sz:Y)(f:Bool):ar AV:=
 if f then(if d+sz<=Z e then ad (.a<|(az d e).take sz)else none)else(e[d]?).map .c
def aR.get{g:Gh}:∀{f:V C}{vs:V aO},aR g f vs->∀{k:Y}{d:C},f[k]? =ad d->∃v,vs[k]? =ad v/\cQ g d v
 |[],_,_,_,_,a=>by simp at a
 |_::_,_,e,0,d,a=>by obtain⟨v,r,rfl,i,_⟩:=e;simp at a;subst a;exact⟨v,ax,i⟩
 |_::_,_,e,k+1,d,a=>by obtain⟨v,r,rfl,_,l⟩:=e;simp at a;let ⟨u,h3,m⟩:=aR.get l a;exact⟨u,zy,m⟩
def aR.drop{g:Gh}:∀{d:V C}{vs:V aO},aR g d vs->∀k,aR g (az k d) (az k vs)
 |[],_,a,k=>by simp only[aR]at a;subst a;simp[aR]
 |_::_,_,a,0=>by simpa using a
 |_::_,_,a,k+1=>by obtain⟨v,f,rfl,_,e⟩:=a;simpa using aR.drop e k
def aR.take{g:Gh}:∀{d:V C}{vs:V aO},aR g d vs->∀k,aR g (h k d) (h k vs)
 |[],_,a,k=>by simp only[aR]at a;subst a;simp[aR]
 |_::_,_,_,0=>by simp[aR]
 |_::_,_,a,k+1=>by obtain⟨v,i,rfl,e,f⟩:=a;simpa using⟨v,_,J,e,aR.take f k⟩
def EF cs k:∀a∈bP (az k cs),a∈bP cs:=by
 induction cs generalizing k with
 |nil=>simp
 |cons c cs d=>cases k with
  |zero=>simp
  |succ k=>intro a h;simp only[List.drop_succ_cons]at h;simp only[bP,aY];exact .inr<|d k a h
def BS cs k:∀a∈bP (h k cs),a∈bP cs:=by
 induction cs generalizing k with
 |nil=>simp
 |cons c cs e=>cases k with
  |zero=>simp[bP]
  |succ k=>
   intro a d
   simp only[List.take_succ_cons,bP,aY]at d⊢
   exact d.imp (λx=>x)<|e k a
def afx{f}{k:Y}{i}(e:f[k]? =ad i):∀g∈i.ak,g∈bP f:=by
 induction f generalizing k with
 |nil=>simp at e
 |cons d f l=>cases k with
  |zero=>simp at e;subst e;intro g a;simp[bP,a]
  |succ k=>simp at e;intro g a;simp only[bP,aY];exact .inr<|l e g a
def UJ{P}{g}{l}{vs}(m:aR g l vs){a sz}{k}{x}(d:mM l a sz k=ad x){t}(e:tV P t=ad k)
  {i:TypeInfo} (n:P.info? t=ad i) (o:i.size=sz) W:∃v,(part t vs.toArray a).run P W= .ok v W/\bA g x v:=by
 unfold mM at d
 cases k with
 |true=>
  simp only[b7]at d
  split at d
  .rename_i p;simp only[au]at d;subst d;refine⟨.agg<|vs.toArray.extract a<|a+sz,?_,⟨(az a vs).take sz,?_,(m.drop a).take sz⟩⟩
   .simp only[part,cZ,ID e,de,b7,run_sizeOf n,o];rfl
   .congr 1;simp[List.extract_toArray,List.extract_eq_take_drop]
  .simp at d
 |false=>
  simp only[hY,bL,cu]at d
  obtain⟨c,q,rfl⟩:=d
  let ⟨v,s,f⟩:=m.get q
  refine⟨v,?_,f⟩
  simp only[part,cZ,ID e,de,hY,bL,tW,s];rfl
def xA{g}{e sz}{i}{x}(a:mM g e sz i=ad x):∀d∈x.ak,d∈bP g:=by
 unfold mM at a;cases i with
 |true=>
  simp only[b7]at a
  split at a
  .simp only[au]at a;subst a;exact λd f=>EF _ _ d<|BS _ _ d f
  .simp at a
 |false=>
  simp only[hY,bL,cu]at a
  obtain⟨c,k,rfl⟩:=a
  exact afx k
def UK(a x d:ar AV):ar (AV×Pr):=match a with
 |some (.c<|.B b)=>match x,d with
  |some (.c<|.B p),ad (.c<|.B q)=>ad (.c<|.B<|cond b p q,.t)
  |some v,none=>ad (v,.sp b ae)
  |none,ad v=>ad (v,.sp b ah)
  |some v,ad (.c .any)=>ad (v,.sp b ae)
  |some (.c .any),ad v=>ad (v,.sp b ah)
  |_,_=>none
 |_=>none
def N5(op:UnOp)(x:AV):ar (AV×Pr):=match op,x with
 | .not,.c (.B b)=>ad (.c<|.B<|!b,.t)
 | .neg,.c (.I k n)=>ad (.c (num k<|0-n).1,(num k<|0-n).2)
 |_,_=>none
def N6(e:TT)(a d:Y)(x:AV):ar (AV×Pr):=match jt a e,jt d e,x with
 |some _,ad f,.c (.I _ n)=>(match f.kind with
  | .int k=>ad (.c (num k n).1,(num k n).2)
  |_=>none)
 |_,_,_=>none
def N7(e:TT)(t:Y)(x:AV)(f:Y):ar AV:=match x,jt t e with
 | .a cs,ad d=>(match d.kind,d.fields[f]? with
  | .st,ad (off,sz,g)=>mM cs off sz g
  |_,_=>none)
 |_,_=>none
def IF(d:TT)(t:Y)(x:AV)(f:Y):ar AV:=match jt t d with
 |some a=>(match a.kind,a.fields[f]? with
  | .st,ad (off,_,_)=>(match x with
   | .c (.P id o)=>ad<|.c<|.P id<|o+off
   | .c (.E T e o)=>ad<|.c<|.E T e<|o+off
   | .c (.Y id n i o)=>ad<|.c<|.Y id n i<|o+off
   |_=>none)
  |_,_=>none)
 |none=>none
def IG(x:AV)(k:Y):ar AV:=match x with
 | .t d=>(match d[k]? with
  |some (ae,cs)=>ad<|.a cs
  |some (ah,[c])=>ad<|.c c
  |_=>none)
 |_=>none
def vD(a:TT)(t:Y)(n:Y):Bool:=match jt t a with
 |some d=>(match d.kind with
  | .sl e=>(match jt e a with|some f=>f.size=n|none=>ah)
  |_=>ah)
 |none=>ah
def II(a:TT)(t:Y):ar (Y×Y):=match jt t a with
 |some d=>(match d.kind with
  | .arr n e=>(match jt e a with
   |some f=>ad (n,f.size)
   |none=>none)
  |_=>none)
 |none=>none
def IJ(a:TT)(t:Y)(x i:AV):ar (AV×Pr):=match x,i with
 | .c (.S T xs),.c (.I _ k)=>if vD a t T.n then ad (.c<|.E T (E xs (af k) T.dA) 0,.and (.le 0 k)<|.lt k<|Z xs)else none
 | .c (.P id off),.c (.I _ k)=>(match II a t with
  |some (n,sz)=>ad (.c<|.P id<|off+af k*sz,.and (.le 0 k)<|.lt k n)
  |none=>none)
 | .c (.E T e off),.c (.I _ k)=>(match II a t with
  |some (n,sz)=>ad (.c<|.E T e<|off+af k*sz,.and (.le 0 k)<|.lt k n)
  |none=>none)
 |_,_=>none
def EG(a:TT)(t:Y)(x:AV):ar AV:=match jt t a with
 |some d=>(match d.kind with
  | .sl _=>(match x with
   | .c (.S _ xs)=>ad<|.c<|.I .i64<|Z xs
   | .c (.V<|.slice none 0 0)=>ad<|.c<|.I .i64 0
   | .c (.W _ _ len)=>ad<|.c<|.I .i64 len
   |_=>none)
  |_=>none)
 |none=>none
def IK(n:Y):ar AV->Y->ar (Y×Pr)
 |none,d=>ad (d,.t)
 |some (.c<|.I _ k),_=>ad (af k,.and (.le 0 k)<|.le k n)
 |_,_=>none
def N8(d:TT)(t:Y)(x:AV)(e f:ar AV):ar (AV×Pr):=match x with
 | .c (.S T xs)=>if vD d t T.n then
   (match IK (Z xs) f (Z xs)with
   |some (a,p)=>(match IK a e 0 with
    |some (l,q)=>ad (.c<|.S T<|(h a xs).drop l,.and p q)
    |none=>none)
   |none=>none)
  else none
 |_=>none
def IL(e:Bool):V AV->ar AV
 |[.c (.I k a),.c<|.I f d]=>if k=f then ad (.c<|.I k (if e then(if d>a then d else a)else(if d<a then d else a)))else none
 |_=>none
def xB(a:St):ar Operand->ar (ar AV)
 |none=>ad none
 |some x=>(a.ev x).map ad
def sr(g:TT)(e:St):Op->ar (AV×Pr)
 | .move x=>(match e.ev x with|some v=>ad (v,.t)|none=>none)
 | .assign x=>(match e.ev x with|some v=>ad (v,.t)|none=>none)
 | .pick o x m=>UK (e.ev o) (e.ev x)<|e.ev m
 | .binOp op t x m _=>(match e.ev x,e.ev m with
  |some (.c a),ad (.c B)=>(match BR g op t a B with|some (o,p)=>ad (.c o,p)|none=>none)
  |_,_=>none)
 | .unOp op _ x=>(match e.ev x with|some v=>N5 op v|none=>none)
 | .convert s d x=>(match e.ev x with|some v=>N6 g s d v|none=>none)
 | .field t x f=>(match e.ev x with|some v=>(match N7 g t v f with|some u=>ad (u,.t)|none=>none)|none=>none)
 | .fieldAddr t x f=>(match e.ev x with|some v=>(match IF g t v f with|some u=>ad (u,.t)|none=>none)|none=>none)
 | .extract x k=>(match e.ev x with|some v=>(match IG v k with|some u=>ad (u,.t)|none=>none)|none=>none)
 | .indexAddr t x i=>(match e.ev x,e.ev i with|some v,ad n=>IJ g t v n|_,_=>none)
 | .slice t x F H none=>(match e.ev x,xB e F,xB e H with|some v,ad l,ad L=>N8 g t v l L|_,_,_=>none)
 | .call ⟨.builtin .len,args,q⟩=>(match args.toList,q.toList with
  |[x],[t]=>(match e.ev x with|some v=>(match EG g t v with|some u=>ad (u,.t)|none=>none)|none=>none)
  |_,_=>none)
 | .call ⟨.builtin .max,args,_⟩=>(match args.toList with
  |[x,m]=>(match e.ev x,e.ev m with|some v,ad n=>(match IL ae [v,n]with|some u=>ad (u,.t)|none=>none)|_,_=>none)
  |_=>none)
 | .call ⟨.builtin .min,args,_⟩=>(match args.toList with
  |[x,m]=>(match e.ev x,e.ev m with|some v,ad n=>(match IL ah [v,n]with|some u=>ad (u,.t)|none=>none)|_,_=>none)
  |_=>none)
 |_=>none
def nr(a:St)(op:Op):V (Key×Info):=op.operands.toList.flatMap<|cC a
section
variable{P:bS}{tt:TT}{g:Gh}{W:cE}
def afy{op:UnOp}{x}{e}{p}(a:N5 op x=ad (e,p))(l:p){v}(d:bA g x v):(∃u,(Op.unary op v).run P W= .ok u W/\bA g e u)/\∀i∈e.ak,i∈x.ak:=by
 unfold N5 at a;split at a
 .simp only[au,bG]at a;obtain⟨rfl,rfl⟩:=a;simp only[bA,cQ]at d;subst d;exact⟨⟨_,by simp[Op.unary,pure],J⟩,pV⟩
 .rename_i k n;simp only[au,bG]at a;obtain⟨rfl,rfl⟩:=a;simp only[bA,cQ]at d;subst d;refine⟨⟨.int k<|k.wrap<|0-n,by simp[Op.unary,N4,pure],BO k _ l g⟩,?_⟩;intro i f;cases k<;>simp[num,AV.ak,C.ak]at f
 .simp at a
def EH k n:(num k n).1.ak=[]:=by cases k<;>rfl
def afz(e:b8 P tt=ae){s d}{x i}{p}(a:N6 tt s d x=ad (i,p))(q:p){v}(m:bA g x v):(∃u,(convert s d v).run P W= .ok u W/\bA g i u)/\i.ak=[]:=by
 unfold N6 at a;split at a
 .rename_i t H K n B C;split at a
  .rename_i k F;simp only[au,bG]at a;obtain⟨rfl,rfl⟩:=a;simp only[bA,cQ]at m;subst m;have o:=(dZ e C).kind;rw[F]at o;have l:∃f,P.underlying s=ad f:=by
    have:=(dZ e B).agg;unfold tV at this;cases hu:P.underlying s with
    |none=>rw[hu]at this;simp at this
    |some f=>exact⟨f,J⟩
   let ⟨f,l⟩:=l;refine⟨⟨.int k<|k.wrap n,?_,BO k n q g⟩,EH k n⟩;simp only[convert,cZ,run_underlying l,run_underlying o,de];cases f<;>rfl
  .simp at a
 .simp at a
def afA(l:b8 P tt=ae){t f}{x m}(a:N7 tt t x f=ad m){v}(B:bA g x v):(∃u,(Instr.field t v f).run P W= .ok u W/\bA g m u)/\∀F∈m.ak,F∈x.ak:=by
 unfold N7 at a;split at a
 .rename_i b c C;split at a
  .rename_i H sz j K L;have s:=(dZ l C).kind;rw[K]at s;let ⟨fs,hu,n⟩:=s;obtain⟨Q,o,rfl,⟨i,U,p⟩,_,q⟩:=IE n L;obtain⟨vs,rfl,X⟩:=B;let ⟨u,d,e⟩:=UJ (W:=W) X a q U p;refine⟨⟨u,?_,e⟩,xA a⟩;have k:fs[f]? =ad Q:=by simpa using o
   simp only[Instr.field,cZ,run_underlying hu,de,k,asAgg];simpa using d
  .simp at a
 .simp at a
def k4 a o n:(Addr.mk a o none).add n=⟨a,o+n,none⟩:=by
 unfold Addr.add;split
 .rename_i e;subst e;rfl
 .rfl
def afB(k:b8 P tt=ae){t f}{x m}(a:IF tt t x f=ad m){v}(n:bA g x v):(∃u,(UL t v f).run P W= .ok u W/\bA g m u)/\∀L∈m.ak,L∈x.ak:=by
 unfold IF at a;split at a
 .rename_i E Q;split at a
  .rename_i U sz G X j;have H:=(dZ k Q).kind;rw[X]at H;let ⟨fs,hu,p⟩:=H;obtain⟨K,q,rfl,⟨i,r,s⟩,B,w⟩:=IE p j;have e:fs[f]? =ad K:=by simpa using q
   have d:∀b o,(UL t (.pointer<|ad ⟨b,o,none⟩) f).run P W= .ok (.pointer<|ad ⟨b,o+K.offset,none⟩) W:=by intro b o;simp only[UL,cZ,run_underlying hu,de,e,BT,fieldPlace,run_sizeOf r];simp[s,B,k4]
   split at a
   .simp only[au]at a;subst a;obtain⟨b,F,rfl⟩:=n;exact⟨⟨_,d _ _,b,F,J⟩,pV⟩
   .simp only[au]at a;subst a;obtain⟨b,o,z,rfl,A,D⟩:=n;exact⟨⟨_,d _ _,b,o,z,by simp[pW],A,D⟩,pV⟩
   .simp only[au]at a;subst a;obtain⟨b,l,c,F,rfl⟩:=n;exact⟨⟨_,d _ _,b,l,c,F,by simp[pW]⟩,pV⟩
   .simp at a
  .simp at a
 .simp at a
def fa.get{g:Gh}:∀{e:V (Bool×V C)}{vs:V aO},fa g e vs->∀{k:Y}{s:Bool×V C},e[k]? =ad s->∃v,vs[k]? =ad v/\zi g s v
 |[],_,_,_,_,a=>by simp at a
 |_::_,_,d,0,f,a=>by obtain⟨v,r,rfl,i,_⟩:=d;simp at a;subst a;exact⟨v,ax,i⟩
 |_::_,_,d,k+1,f,a=>by obtain⟨v,r,rfl,_,l⟩:=d;simp at a;let ⟨u,h3,m⟩:=fa.get l a;exact⟨u,zy,m⟩
def UM{f}{k:Y}{l}(e:f[k]? =ad l):∀i∈bP l.2,i∈eo f:=by
 induction f generalizing k with
 |nil=>simp at e
 |cons d f m=>cases k with
  |zero=>simp at e;subst e;intro i a;simp[eo,a]
  |succ k=>simp at e;intro i a;simp only[eo,aY];exact .inr<|m e i a
def afC{x f}{k}(d:IG x k=ad f){v}(n:bA g x v):(∃u,(UN v k).run P W= .ok u W/\bA g f u)/\∀i∈f.ak,i∈x.ak:=by
 unfold IG at d;split at d
 .rename_i o;obtain⟨vs,rfl,m⟩:=n;split at d
  .rename_i p e;simp only[au]at d;subst d;let ⟨u,hu,a⟩:=m.get e;exact⟨⟨u,by simp[UN,hu,pure],a⟩,UM e⟩
  .rename_i c e;simp only[au]at d;subst d;let ⟨u,hu,a⟩:=m.get e;exact⟨⟨u,by simp[UN,hu,pure],a⟩,λi l=>UM e i<|by simp[bP];exact l⟩
  .simp at d
 .simp at d
def BU(d:b8 P tt=ae){t n}(a:vD tt t n=ae):∃e i,P.underlying t=ad (.slice e)/\P.info? e=ad i/\i.size=n:=by
 unfold vD at a;split at a
 .rename_i q k;split at a
  .rename_i e l;split at a
   .rename_i s m;have f:=(dZ d k).kind;rw[l]at f;let ⟨i,o,p,_⟩:=(dZ d m).info;exact⟨e,i,f,o,by rw[p];simpa using a⟩
   .simp at a
  .simp at a
 .simp at a
def UO(d:b8 P tt=ae){t n sz}(a:II tt t=ad (n,sz)):∃e i,P.underlying t=ad (.array n e)/\P.info? e=ad i/\i.size=sz:=by
 unfold II at a;split at a
 .rename_i q k;split at a
  .rename_i s e l;split at a
   .rename_i u m;cases a;have f:=(dZ d k).kind;rw[l]at f;let ⟨i,o,p,_⟩:=(dZ d m).info;exact⟨e,i,f,o,p⟩
   .simp at a
  .simp at a
 .simp at a
def afD(s:b8 P tt=ae){t}{x i Q}{p}(f:IJ tt t x i=ad (Q,p))(U:p){v u}(hv:bA g x v)(F:bA g i u):(∃fV,(zz t v u).run P W= .ok fV W/\bA g Q fV)/\∀H∈Q.ak,H∈x.ak:=by
 unfold IJ at f;split at f
 .rename_i T xs D k;split at f
  .rename_i X;simp only[au,bG]at f;obtain⟨rfl,rfl⟩:=f;let ⟨e,i,m,C,K⟩:=BU s X;simp only[bA,cQ]at F;subst F;obtain⟨a,M,rfl,E,I,L⟩:=hv;let ⟨c,r⟩:=(show 0<=k/\k<(Z xs:G)from U);have B:af k<Z xs:=O;rcases L with L|⟨b,l,rfl,L⟩
   .subst L;simp at B
   .let ⟨w,hl,N,hc⟩:=L (af k) B;refine⟨⟨.pointer<|ad ⟨b,l+af k*T.n,none⟩,?_,b,l+af k*T.n,w,J,?_,?_⟩,λH q=>by cases q⟩
    .have d:(0<=k/\k<(Z xs:G)):=⟨c,r⟩;simp only[zz,asIntOf,cZ,run_underlying m,de];simp[d,run_sizeOf C,K,k4]
    .rw[aM,cK B];exact N
    .intro j R;have:=hc j R;rw[this]
  .simp at f
 .rename_i H l D k;split at f
  .rename_i n sz A;simp only[au,bG]at f;obtain⟨rfl,rfl⟩:=f;let ⟨e,i,m,C,K⟩:=UO s A;simp only[bA,cQ]at F;subst F;obtain⟨b,S,rfl⟩:=hv;have d:0<=k/\k<(n:G):=U;refine⟨⟨.pointer<|ad ⟨b,l+af k*sz,none⟩,?_,b,S,J⟩,λH q=>q⟩;simp only[zz,BT,asIntOf,cZ,Sem.run_pure,run_underlying m,de];simp[d,run_sizeOf C,K,k4]
  .simp at f
 .rename_i T V l D k;split at f
  .rename_i n sz A;simp only[au,bG]at f;obtain⟨rfl,rfl⟩:=f;let ⟨e,i,m,C,K⟩:=UO s A;simp only[bA,cQ]at F;subst F;obtain⟨b,o,w,rfl,E,I⟩:=hv;have d:0<=k/\k<(n:G):=U;refine⟨⟨.pointer<|ad ⟨b,o+(l+af k*sz),none⟩,?_,b,o,w,J,E,I⟩,λH q=>q⟩;simp only[zz,BT,asIntOf,cZ,Sem.run_pure,run_underlying m,de];simp[d,run_sizeOf C,K,k4,pW]
  .simp at f
 .simp at f
def afE(i:b8 P tt=ae){t r:Y}{x k}(d:EG tt t x=ad k){v}(f:bA g x v):(∃u,(Builtin.len_ #[t] r #[v]).run P W= .ok u W/\bA g k u)/\k.ak=[]:=by
 unfold EG at d;split at d
 .rename_i o l;split at d
  .rename_i e m;have h2:=(dZ i l).kind;rw[m]at h2;split at d
   .rename_i T xs;simp only[au]at d;subst d;obtain⟨a,n,rfl,_⟩:=f;exact⟨⟨_,IM,J⟩,J⟩
   .simp only[au]at d;subst d;simp only[bA,cQ]at f;subst f;exact⟨⟨_,IM,J⟩,J⟩
   .simp only[au]at d;subst d;obtain⟨b,c,_,rfl,_⟩:=f;exact⟨⟨_,IM,J⟩,J⟩
   .simp at d
  .simp at d
 .simp at d
def UP{f}{l}{i}(d:IL f l=ad i){v m}{n o}(p:l=[n,o])(q:bA g n v)(s:bA g o m) t x:
  (∃u,(if f then Builtin.max_ t x #[v,m]else Builtin.min_ t x #[v,m]).run P W= .ok u W/\bA g i u)/\i.ak=[]:=by
 unfold IL at d
 split at d
 .rename_i k a B b;split at d
  .rename_i e;subst e;simp only[au]at d;subst d;simp only[IN,and_true]at p;obtain⟨rfl,rfl⟩:=p;simp only[bA,cQ]at q s;subst q s;cases f
   .exact⟨⟨_,by simp[Builtin.min_,Builtin.min2,jG,pure],J⟩,J⟩
   .exact⟨⟨_,by simp[Builtin.max_,Builtin.max2,jG,pure],J⟩,J⟩
  .simp at d
 .simp at d
end
section
variable{P:bS}{tt:TT}{g:Gh}{W:cE}
def xC(g:Gh):ar AV->ar aO->Prop
 |none,none=>True
 |some a,ad u=>bA g a u
 |_,_=>False
def UQ{op:BinOp}{t}{x f e}{p}(d:BR tt op t x f=ad (e,p)):e.ak=[]:=by
 cases x<;>cases f<;>simp only[BR,IC,reduceCtorEq]at d;case B.B a b=>
  split at d
  .cases op<;>simp only[au,bG,reduceCtorEq]at d;all_goals (obtain⟨rfl,_⟩:=d;rfl)
  .simp at d
 case I.I k a l b=>
  have i:∀op,EE op k a b=ad (e,p)->e.ak=[]:=by
   intro op d;cases op<;>simp only[EE,au,reduceCtorEq]at d;case add=>have:=a6 Prod.fst d;simp only at this;rw[<-this];exact EH _ _
   case sub=>have:=a6 Prod.fst d;simp only at this;rw[<-this];exact EH _ _
   case mul=>have:=a6 Prod.fst d;simp only at this;rw[<-this];exact EH _ _
   all_goals
    simp only[bG]at d
    obtain⟨rfl,_⟩:=d
    first|rfl|exact EH _ _
  cases op
  case shl=>simp only[BP,au,bG]at d;obtain⟨rfl,_⟩:=d;rfl
  case shr=>simp only[BP,au,bG]at d;obtain⟨rfl,_⟩:=d;rfl
  all_goals
   simp only at d
   split at d
   .exact i _ d
   .simp at d
def N9{n}{x}{d h}{p}(a:IK n x d=ad (h,p))(l:p){v}(e:xC g x v)
 m (q:n<=m) (code:BoundsCode):
  (x=none/\v=none/\h=d)\/(∃u,v=ad u/\h<=n/\(N' u m code).run P W= .ok h W):=by
 unfold IK at a
 split at a
 .simp only[au,bG]at a;cases v with
  |none=>exact .inl ⟨J,J,a.1.symm⟩
  |some u=>exact e.elim
 .rename_i o k;simp only[au,bG]at a;obtain⟨rfl,rfl⟩:=a;cases v with
  |none=>exact e.elim
  |some u=>
   have f:u= .int o k:=e
   subst f
   have i:0<=k/\k<=(n:G):=l
   refine .inr ⟨_,J,O,?_⟩
   have:0<=k/\k<=(m:G):=⟨i.1,O⟩
   simp[N',asIntOf,this,jG,pure]
 .simp at a
def kX.sub{q:Type}{o:q->V aO->Prop}{n}{H}{xs}{a}{d}(s:kX o n H xs (.slice a (Z xs) d)){l k}(B:l<=k)(t:k<=Z xs):
  kX o n H ((h k xs).drop l) (.slice (if d=l then a else a.map (·.add (l*n))) (k-l)<|d-l):=by
 let ⟨C,p,e,F,u,m⟩:=s
 simp only[afF,true_and]at e
 obtain⟨rfl,rfl⟩:=e
 have f:Z ((h k xs).drop l)=k-l:=bV
 refine⟨_,d-l,by rw[f],O,?_,?_⟩
 .rw[f];exact bQ (ef n O) u
 .by_cases K:k=l
  .left;apply fE;omega
  .right;rcases m with m|⟨b,off,rfl,m⟩
   .subst m;simp at t;omega
   .refine⟨b,off+l*n,?_,λi L=>?_⟩
    .rw[w O];simp[k4]
    .let ⟨cs,hl,v,hc⟩:=m (l+i) O;refine⟨cs,hl,?_,λj x=>?_⟩
     .simpa using v
     .have:=hc j x;rw[(EI:off+l*n+i*n+j=off+(l+i)*n+j)];exact this
def afG(s:b8 P tt=ae){t}{x B}{lo hi}{p}(d:N8 tt t x lo hi=ad (B,p))(hp:p){v}{F H}(hv:bA g x v)
  (hl:xC g lo F) (hh:xC g hi H):
  (∃fV,(Instr.sliceAt t v F H none).run P W= .ok fV W/\bA g B fV)/\B.ak=[]:=by
 unfold N8 at d
 split at d
 .rename_i T xs;split at d
  .rename_i C;let ⟨e,i,K,L,w⟩:=BU s C;split at d
   .rename_i f G Q;split at d
    .rename_i l I U;simp only[au,bG]at d;obtain⟨rfl,rfl⟩:=d;let ⟨X,b⟩:=hp;have c:=hv;obtain⟨a,n,rfl,A,M,N⟩:=c;have k:=N9 (P:=P) (W:=W) Q X hh n A<|.sliceAcap;have j:f<=Z xs:=by rcases k with⟨_,_,e⟩|⟨_,_,d,_⟩<;>omega
     have m:=N9 (P:=P) (W:=W) U b hl f (aW _)<|.sliceB;have o:l<=f:=by rcases m with⟨_,_,e⟩|⟨_,_,d,_⟩<;>omega
     have q:=kX.sub hv o j;refine⟨⟨_,?_,q⟩,J⟩;have r:(vE ae (Z xs) n F H none).run P W= .ok (l,f,n) W:=by rcases k with⟨_,rfl,rfl⟩|⟨u,rfl,_,D⟩<;>rcases m with⟨_,rfl,rfl⟩|⟨O,rfl,_,E⟩<;>simp[vE, *]
     simp only[Instr.sliceAt,cZ,run_underlying K,de,Instr.slice,r,run_sizeOf L,w];rfl
    .simp at d
   .simp at d
  .simp at d
 .simp at d
def EJ{F}{d:Y->Prop}{f}{a}(k:br F d f g W a) st x v(e:xB st x=ad v)
  (l:∀o,x=ad o->∀i∈cC st o,f i.1=ad i.2):xC g v (x.map a.eval):=by
 cases x with
 |none=>simp only[xB,au]at e;subst e;trivial
 |some o=>
  simp only[xB,cu]at e
  obtain⟨u,m,rfl⟩:=e
  exact du k st o u m<|l o J
def IP(bW:b8 P tt=ae){ops}{i}{o:aX}{d:Y}(ho:ops[i]? =ad o)(hg:o.guard=none)(hd:o.dst=ad d){n}(di:d<n)
 {st}{x}{p}(e:sr tt st o.op=ad (x,p)) (hp:p) new:g6 P n ops i (nr st o.op) [(.s d,ad<|.v x)] new:=by
 refine ri ho hg hd di _ x new ?_
 intro F G V g W a X S
 have B:∀y∈o.op.operands,∀u,st.ev y=ad u->bA g u (a.eval y)/\∀Q∈u.ak,G Q:=by
  intro y A u U;have Z:∀E∈cC st y,V E.1=ad E.2:=λE I=>S E<|iw.2 ⟨y,by simpa using A,I⟩
  exact⟨du X st y u U Z,rh X st y u U Z⟩
 have M:∀y∈o.op.operands,∀E∈cC st y,V E.1=ad E.2:=λy A E I=>S E<|iw.2 ⟨y,by simpa using A,I⟩
 let ⟨od,op,N,arY,arZ,ogd⟩:=o
 simp only at e B M
 unfold sr at e
 split at e
 .rename_i y;split at e
  .rename_i v K;simp only[au,bG]at e;obtain⟨rfl,rfl⟩:=e;have:=B y gh _ K;exact⟨this.2,_,by simp[execOp,pure],this.1⟩
  .simp at e
 .rename_i y;split at e
  .rename_i v K;simp only[au,bG]at e;obtain⟨rfl,rfl⟩:=e;have:=B y gh _ K;exact⟨this.2,_,by simp[execOp,pure],this.1⟩
  .simp at e
 .rename_i c y z;unfold UK at e;split at e
  .rename_i b hb;have BV:=(B c gh _ hb).1;simp only[bA,cQ]at BV;split at e
   .rename_i p1 q1 A O;simp only[au,bG]at e;obtain⟨rfl,rfl⟩:=e;have H:=(B y gh _ A).1;have j:=(B z gh _ O).1;simp only[bA,cQ]at H j;refine⟨pV,.bool<|cond b p1 q1,?_,J⟩;cases b<;>simp[execOp,BV,asBool,H,j,jG,pure]
   .rename_i v A O;simp only[au,bG]at e;obtain⟨rfl,rfl⟩:=e;have H:=B y gh _ A;simp only[Pr.h]at hp;subst hp;exact⟨H.2,_,IQ,H.1⟩
   .rename_i v A O;simp only[au,bG]at e;obtain⟨rfl,rfl⟩:=e;have H:=B z gh _ O;simp only[Pr.h]at hp;subst hp;exact⟨H.2,_,IQ,H.1⟩
   .rename_i v A O;simp only[au,bG]at e;obtain⟨rfl,rfl⟩:=e;have H:=B y gh _ A;simp only[Pr.h]at hp;subst hp;exact⟨H.2,_,IQ,H.1⟩
   .rename_i v A O;simp only[au,bG]at e;obtain⟨rfl,rfl⟩:=e;have H:=B z gh _ O;simp only[Pr.h]at hp;subst hp;exact⟨H.2,_,IQ,H.1⟩
   .simp at e
  .simp at e
 .rename_i op t y z _;split at e
  .rename_i u w U R;split at e
   .rename_i c q hc;simp only[au,bG]at e;obtain⟨rfl,rfl⟩:=e;have H:=(B y gh _ U).1;have j:=(B z gh _ R).1;let ⟨v,iS,m⟩:=afw (P:=P) bW hc hp g H j W y z;refine⟨?_,v,?_,m⟩
    .intro Q eF;simp only[AV.ak,UQ hc]at eF;cases eF
    .simp only[execOp,cZ];rw[cZ]at iS;simp only[iS];simp[de,pure]
   .simp at e
  .simp at e
 .rename_i op t y;split at e
  .rename_i v K;have H:=B y gh _ K;let ⟨⟨u,iS,m⟩,hm⟩:=afy (P:=P) (W:=W) e hp H.1;exact⟨λQ eF=>H.2 Q<|hm Q eF,u,zA,m⟩
  .simp at e
 .rename_i s d' y;split at e
  .rename_i v K;have H:=B y gh _ K;let ⟨⟨u,iS,m⟩,hm⟩:=afz (P:=P) (W:=W) bW e hp H.1;exact⟨λQ eF=>BW,u,zA,m⟩
  .simp at e
 .rename_i t y f;split at e
  .rename_i v K;split at e
   .rename_i u U;simp only[au,bG]at e;obtain⟨rfl,rfl⟩:=e;have H:=B y gh _ K;let ⟨⟨u,iS,m⟩,hm⟩:=afA (P:=P) (W:=W) bW U H.1;exact⟨λQ eF=>H.2 Q<|hm Q eF,u,zA,m⟩
   .simp at e
  .simp at e
 .rename_i t y f;split at e
  .rename_i v K;split at e
   .rename_i u U;simp only[au,bG]at e;obtain⟨rfl,rfl⟩:=e;have H:=B y gh _ K;let ⟨⟨u,iS,m⟩,hm⟩:=afB (P:=P) (W:=W) bW U H.1;exact⟨λQ eF=>H.2 Q<|hm Q eF,u,zA,m⟩
   .simp at e
  .simp at e
 .rename_i y k;split at e
  .rename_i v K;split at e
   .rename_i u U;simp only[au,bG]at e;obtain⟨rfl,rfl⟩:=e;have H:=B y gh _ K;let ⟨⟨u,iS,m⟩,hm⟩:=afC (P:=P) (W:=W) U H.1;exact⟨λQ eF=>H.2 Q<|hm Q eF,u,zA,m⟩
   .simp at e
  .simp at e
 .rename_i t y z;split at e
  .rename_i v w K R;have H:=B y gh _ K;have j:=B z gh _ R;let ⟨⟨u,iS,m⟩,hm⟩:=afD (P:=P) (W:=W) bW e hp H.1 j.1;exact⟨λQ eF=>H.2 Q<|hm Q eF,u,zA,m⟩
  .simp at e
 .rename_i t y lo hi;split at e
  .rename_i v l h K hl hh;have H:=B y gh _ K;have j:=EJ X st lo l hl<|λq hq=>M q EK;have h3:=EJ X st hi h hh<|λq hq=>M q EK;let ⟨⟨u,iS,m⟩,hm⟩:=afG (P:=P) (W:=W) bW e hp H.1 j h3;exact⟨λQ eF=>BW,u,zA,m⟩
  .simp at e
 .rename_i args D;split at e
  .rename_i y t ha ht;have L:args= #[y]:=EL;have T:D= #[t]:=Oa;subst L T;split at e
   .rename_i v K;split at e
    .rename_i u U;simp only[au,bG]at e;obtain⟨rfl,rfl⟩:=e;have H:=B y BX _ K;let ⟨⟨u,iS,m⟩,hm⟩:=afE (P:=P) (W:=W) (r:=N) bW U H.1;exact⟨λQ eF=>BW,u,Ob,m⟩
    .simp at e
   .simp at e
  .simp at e
 .rename_i args D;split at e
  .rename_i y z ha;have L:args= #[y,z]:=EL;subst L;split at e
   .rename_i v w K R;split at e
    .rename_i u U;simp only[au,bG]at e;obtain⟨rfl,rfl⟩:=e;have H:=B y BX _ K;have j:=B z BX _ R;let ⟨⟨u,iS,m⟩,hm⟩:=UP (P:=P) (W:=W) U J H.1 j.1 D N;simp only[b7]at iS;exact⟨λQ eF=>BW,u,Ob,m⟩
    .simp at e
   .simp at e
  .simp at e
 .rename_i args D;split at e
  .rename_i y z ha;have L:args= #[y,z]:=EL;subst L;split at e
   .rename_i v w K R;split at e
    .rename_i u U;simp only[au,bG]at e;obtain⟨rfl,rfl⟩:=e;have H:=B y BX _ K;have j:=B z BX _ R;let ⟨⟨u,iS,m⟩,hm⟩:=UP (P:=P) (W:=W) U J H.1 j.1 D N;simp only[hY,bL]at iS;exact⟨λQ eF=>BW,u,Ob,m⟩
    .simp at e
   .simp at e
  .simp at e
 .simp at e
end
section
variable{P:bS}{tt:TT}{g:Gh}{W:cE}
def run_load{a:Addr}{v}(d:W.cell? a=ad v):(load a).run P W= .ok v W:=by simp[load,jG,d]
def run_loadCellsFrom(f:Y):∀(n i a:Y)(vs:V aO)(d:Array aO),Z vs=n->(∀e(l:e<Z vs),W.cell? ⟨f,a+i+e,none⟩=ad vs[e])->
  (loadCellsFrom ⟨f,a,none⟩ i n d).run P W= .ok (d++vs.toArray) W
 |0,i,a,vs,d,hl,_=>by have:vs=[]:=fE hl;subst this;simp[loadCellsFrom,pure]
 |n+1,i,a,[],d,hl,_=>by simp at hl
 |n+1,i,a,v::vs,d,hl,hc=>by have k:=hc 0 ax;simp only[iR,tX]at k;have m:=run_loadCellsFrom f n (i+1) a vs (d.push v) tY (λe l=>by have:=hc (e+1) bV;simp only[zB]at this;rw[(O:a+(i+1)+e=a+i+(e+1))];exact this);simp only[loadCellsFrom,k4,cZ,run_load k,de,m];congr 1;apply BY;simp
def afH{t}{a}(d:tV P t=ad a){i:TypeInfo}(n:P.info? t=ad i) f off vs(l:Z vs=i.size)(e:a=ah->i.size=1)
  (m:∀k(p:k<Z vs),W.cell? ⟨f,off+k,none⟩=ad vs[k]):∃v,(loadVar t ⟨f,off,none⟩).run P W= .ok v W/\((a=ae/\v= .agg vs.toArray)\/(a=ah/\vs=[v])):=by
 cases a with
 |true=>
  refine⟨.agg vs.toArray,?_,.inl ⟨J,J⟩⟩
  simp only[loadVar,cZ,ID d,de,b7,run_sizeOf n,loadCells]
  rw[run_loadCellsFrom f i.size 0 off vs #[] l (by simpa using m)]
  simp[pure]
 |false=>
  have o:Z vs=1:=by rw[l];exact e J
  match vs,o with
  |[v],_=>
   refine⟨v,?_,.inr ⟨J,J⟩⟩
   have:=m 0 ax
   simp only[iR,tX]at this
   simp only[loadVar,cZ,ID d,de,hY,bL,run_load this]
def oK(tt:TT)(t:Y):ar (Y×Bool):=match jt t tt with
 |some a=>if a.agg then ad (a.size,ae)else if a.size=1 then ad (1,ah)else none
 |none=>none
def IS(d:b8 P tt=ae){t sz}{e}(a:oK tt t=ad (sz,e)):tV P t=ad e/\(∃i,P.info? t=ad i/\i.size=sz)/\(e=ah->sz=1):=by
 unfold oK at a;split at a
 .rename_i p n;have f:=dZ d n;let ⟨i,l,m,_⟩:=f.info;split at a
  .rename_i k;simp only[au,bG]at a;obtain⟨rfl,rfl⟩:=a;exact⟨by rw[f.agg,k],⟨i,l,m⟩,ax⟩
  .rename_i k;split at a
   .rename_i o;simp only[au,bG]at a;obtain⟨rfl,rfl⟩:=a;exact⟨by rw[f.agg];simpa using k,⟨i,l,by rw[m];exact o⟩,λ_=>rfl⟩
   .simp at a
 .simp at a
def EM(q:b8 P tt=ae){t sz}{p}(U:oK tt t=ad (sz,p)){s}{vs}(B:aR g s vs){a}{x}(d:mM s a sz p=ad x)
 F o (hc:∀f(L:f<Z vs),W.cell? ⟨F,o+f,none⟩=ad vs[f]):∃v,(UR t<|.pointer<|ad ⟨F,o+a,none⟩).run P W= .ok v W/\bA g x v:=by
 let ⟨C,⟨i,X,r⟩,e⟩:=IS q U
 have Q:=B.length
 have H:a+sz<=Z s:=by
  unfold mM at d;cases p with
  |true=>simp only[b7]at d;split at d<;>simp_all
  |false=>
   simp only[hY,bL,cu]at d
   let ⟨c,k,_⟩:=d
   have:=(rj.1 k).1
   have:=e J
   omega
 let ⟨v,m,l⟩:=afH (W:=W) C X F (o+a) ((az a vs).take sz) bV (by rw[r];exact e) (λf L=>by simp at L;have:=hc (a+f) O;simp only[pX,sx];rw[(O:o+a+f=o+(a+f))];exact this)
 refine⟨v,by simpa[UR,BT]using m,?_⟩
 unfold mM at d
 cases p with
 |true=>
  simp only[b7]at d
  split at d
  .simp only[au]at d;subst d;rcases l with⟨_,rfl⟩|⟨K,_⟩
   .exact⟨_,J,(B.drop a).take sz⟩
   .simp at K
  .rename_i w;exact absurd H w
 |false=>
  simp only[hY,bL,cu]at d
  obtain⟨c,k,rfl⟩:=d
  rcases l with⟨K,_⟩|⟨_,l⟩
  .simp at K
  .let ⟨u,hu,n⟩:=B.get k;have y:=e J;subst y;have:(az a vs).take 1=[u]:=by rw[List.take_one,List.head?_drop,hu];rfl
   rw[this]at l;simp only[IN,and_true]at l;subst l;exact n
def EN(tt:TT)(d:St)(t:Y)(x:AV):ar (AV×Pr×V Y):=match oK tt t with
 |some (sz,a)=>(match x with
  | .c (.P id off)=>(match jt id d.mem with
   |some (.box _ _ cs)=>(match mM cs off sz a with|some y=>ad (y,.t,[id])|none=>none)
   |some (.fz _ cs)=>(match mM cs off sz a with|some y=>ad (y,.t,[id])|none=>none)
   |_=>none)
  | .c (.E T e off)=>(match mM (av T e) off sz a with|some y=>ad (y,.t,[])|none=>none)
  | .c (.Y id n i off)=>(match jt id d.mem with
   |some (.vec _ T xs)=>if T.n=n then(match mM (av T<|E xs i T.dA) off sz a with|some y=>ad (y,.zw i<|Z xs,[id])|none=>none)else none
   |_=>none)
  |_=>none)
 |none=>none
def ff(e:St)(a:V Y):V (Key×Info):=a.flatMap λd=>match jt d e.mem with
 |some b=>[(.m d,.b b)]
 |none=>[]
def tZ{d}{vs}{e}{f}(i:W.heap[d]? =ad (.cells vs.toArray e f)) a(k:a<Z vs):W.cell? ⟨d,a,none⟩=ad vs[a]:=by simp[World.cell?,i,k]
def EO:∀(i:ET)(x:i.den),bP (av i x)=[]
 | .int _,_=>rfl
 | .bool,_=>rfl
 | .z,_=>rfl
 | .q,_=>rfl
 | .sl _,_=>rfl
 | .pr k B,x=>by
  have l:∀(a d:V C),bP a=[]->bP d=[]->bP (a++d)=[]:=by
   intro a;induction a with
   |nil=>intro d _ e;exact e
   |cons c a m=>
    intro d f e
    simp only[bP,Oc]at f
    simp only[lY,bP,Oc]
    exact⟨f.1,m d f.2 e⟩
  exact l _ _ (EO k x.1)<|EO B x.2
def US(bW:b8 P tt=ae){ops}{i}{o:aX}{d:Y}(ho:ops[i]? =ad o)(hg:o.guard=none)(hd:o.dst=ad d){n}(di:d<n){t}{x}(bU:o.op= .load t x)
 {st}{v cp}{p}{ids:V Y} (hx:st.ev x=ad v) (B:EN tt st t v=ad (cp,p,ids)) (hp:p) (new:Y):
  g6 P n ops i (cC st x++ff st ids) [(.s d,ad<|.v cp)] new:=by
 refine ri ho hg hd di _ cp new ?_
 intro F known σ g W a C J
 have U:=du C st x v hx<|λkx bZ=>J kx<|dY _ bZ
 have r:∀X∈ids,∀b,jt X st.mem=ad b->σ (.m X)=ad (.b b):=by intro X eF b hb;exact J (.m X,.b b)<|fU _<|iw.2 ⟨X,eF,by simp[hb]⟩
 have K:execOp a.eval o=(do pure (.value<|<-UR t (a.eval x))):=ua
 unfold EN at B
 split at B
 .rename_i sz ag D;split at B
  .rename_i X M;split at B
   .rename_i be bz cs N;split at B
    .rename_i z w;simp only[au,bG]at B;obtain⟨rfl,rfl,rfl⟩:=B;have Q:=r X ax _ N;let ⟨b,vs,rest,A,R,S,_,_⟩:=C.cL X _ Q;let ⟨b',f,G⟩:=U;rw[A]at f;simp only[au]at f;subst f;let ⟨u,q,hu⟩:=EM (W:=W) bW D S w b 0 (λj I=>by have:=tZ R j bV;rw[vF I]at this;simpa using this);refine⟨λL H=>C.ak _ _ Q L<|xA w L H,u,?_,hu⟩;rw[K,G];simp only[eH]at q;simp[q,jG,pure]
    .simp at B
   .rename_i be cs N;split at B
    .rename_i z w;simp only[au,bG]at B;obtain⟨rfl,rfl,rfl⟩:=B;have Q:=r X ax _ N;let ⟨b,vs,rest,A,R,S,_⟩:=C.cL X _ Q;let ⟨b',f,G⟩:=U;rw[A]at f;simp only[au]at f;subst f;let ⟨u,q,hu⟩:=EM (W:=W) bW D S w b 0 (λj I=>by have:=tZ R j bV;rw[vF I]at this;simpa using this);refine⟨λL H=>C.ak _ _ Q L<|xA w L H,u,?_,hu⟩;rw[K,G];simp only[eH]at q;simp[q,jG,pure]
    .simp at B
   .simp at B
  .rename_i T e M;split at B
   .rename_i z w;simp only[au,bG]at B;obtain⟨rfl,rfl,rfl⟩:=B;let ⟨b,o',cs,G,afI,hc⟩:=U;let ⟨u,q,hu⟩:=EM (W:=W) bW D (zj T e cs afI) w b o'<|λj I=>C.sub _ _ _<|hc j I;refine⟨λL H=>?_,u,?_,hu⟩
    .have:=xA w L H;rw[EO]at this;cases this
    .rw[K,G];simp[q,jG,pure]
   .simp at B
  .rename_i X m k M;split at B
   .rename_i be T xs N;split at B
    .rename_i rk;split at B
     .rename_i z w;simp only[au,bG]at B;obtain⟨rfl,rfl,rfl⟩:=B;have Q:=r X ax _ N;let ⟨b',l,c,f,G⟩:=U;rcases C.cL X _ Q with⟨_,h0⟩|⟨b,cap,vs,A,R,hlen,hle,_,S,_,_⟩
      .subst h0;simp[Pr.h]at hp
      .rw[A]at f;simp only[afF,au,Addr.mk.injEq,and_true]at f;obtain⟨rfl,_,_⟩:=f;have hp:k<Z xs:=hp;have EP:=S k hp;rw[show xs[k]=E xs k T.dA by rw[aM,cK hp];rfl]at EP;have sy:(k+1)*T.n<=cap*T.n:=ef _ O;rw[gk,iT]at sy;have ar1:Z ((az (k*T.n) vs).take T.n)=T.n:=bV;let ⟨u,q,hu⟩:=EM (W:=W) bW D (zj T _ _ EP) w b (k*T.n) (λj I=>by have:=tZ R (k*T.n+j) O;simp only[pX,sx];exact this);refine⟨λL H=>?_,u,?_,hu⟩
       .have:=xA w L H;rw[EO]at this;cases this
       .rw[K,G,<-rk];simp[q,jG,pure]
     .simp at B
    .simp at B
   .simp at B
  .simp at B
 .simp at B
end
section
variable{P:bS}{tt:TT}{g:Gh}{W:cE}
def ns:aO->Bool
 | .agg _=>ah
 | .tuple _=>ah
 |_=>ae
def jH:C->Bool
 | .any=>ah
 | .V v=>ns v
 | .M _=>ah
 | .X _=>ah
 |_=>ae
def UU{e}{v}(p:jH e=ae)(d:cQ g e v):ns v=ae:=by
 cases e with
 |any=>simp[jH]at p
 |B b=>simp only[cQ]at d;subst d;rfl
 |I k n=>simp only[cQ]at d;subst d;rfl
 |V u=>simp only[cQ]at d;subst d;exact p
 |S T xs=>obtain⟨a,f,rfl,_⟩:=d;rfl
 |P id off=>obtain⟨b,_,rfl⟩:=d;rfl
 |X id=>simp[jH]at p
 |Y id n i off=>obtain⟨b,l,e,_,rfl⟩:=d;rfl
 |E T x off=>obtain⟨b,o,q,rfl,_⟩:=d;rfl
 |M m=>simp[jH]at p
 |L id off len f=>
  cases f with
  |some e=>obtain⟨b,_,rfl⟩:=d;rfl
  |none=>obtain⟨_,b,e,_,rfl,_⟩:=d;rfl
 |W id off len=>obtain⟨b,e,_,rfl,_⟩:=d;rfl
def iH(W:cE)(a:Y)(vs:V aO)(d:dM):cE:={W with heap:=W.heap.setIfInBounds a<|.cells vs.toArray d (0,0)}
def xD{a}{vs}{d}(e:a<W.heap.size):(iH W a vs d).heap[a]? =ad (.cells vs.toArray d (0,0)):=by simp[iH,e]
def xE{a k}{vs}{d}(e:a≠k):(iH W a vs d).heap[k]? =W.heap[k]? :=by simp[iH,lC e]
def afJ{a j}{vs}{d}(f:W.heap[a]? =ad (.cells vs.toArray d (0,0)))(l:j<Z vs){v}(m:ns v=ae):
  (store ⟨a,j,none⟩ v).run P W= .ok () (iH W a (vs.set j v) d):=by
 have n:a<W.heap.size:=(fT.1 f).1
 have o:W.cell? ⟨a,j,none⟩=ad vs[j]:=tZ f j l
 have p:W.frozen? ⟨a,j,none⟩=ah:=by simp[World.frozen?,f]
 have q:W.setCell ⟨a,j,none⟩ v=iH W a (vs.set j v) d:=by
  unfold World.setCell iH;congr 1;apply afK;intro k;rw[Array.getElem?_modify,afL];have i:W.heap[a]= .cells vs.toArray d (0,0):=(fT.1 f).2;by_cases e:a=k
  .subst e;simp[n,i]
  .simp[e]
 cases v<;>simp[store,jG,o,p,q]<;>simp[ns]at m
def afM{a}{vs d}{f e}:iH (iH W a vs f) a d e=iH W a d e:=by simp[iH]
def afN{a}{vs}{d}(i:W.heap[a]? =ad (.cells vs.toArray d (0,0))):iH W a vs d=W:=by
 have l:a<W.heap.size:=(fT.1 i).1;have:W.heap.setIfInBounds a (.cells vs.toArray d (0,0))=W.heap:=by
  apply afK;intro k;rw[afL];by_cases e:a=k
  .subst e;have f:W.heap[a]= .cells vs.toArray d (0,0):=(fT.1 i).2;simp[l,f]
  .simp[e]
 unfold iH;rw[this]
def cM{d:Type}(vs e:V d)(a:Y):V d:=h a vs++e++az (a+Z e) vs
def xF{d:Type}(vs a:V d) off(e:off+Z a<=Z vs):(cM vs a off).length=Z vs:=by simp[cM];omega
def UW{a:Type} vs us(u:a) off(h:off<Z vs):cM (vs.set off u) us (off+1)=cM vs (u::us) off:=by
 unfold cM;rw[List.drop_set_of_lt O];have d:(vs.set off u).take (off+1)=List.take off vs++[u]:=by rw[Od dL];simp only[List.take_set,List.getElem_set_self];rw[List.set_eq_of_length_le bV]
 rw[d];simp only[gQ,lD,lY,sA];rw[(O:off+1+Z us=off+(Z us+1))]
def zC(d:Y){k:dM}:∀(e:V aO)(W:cE)(vs:V aO)(o i:Y),W.heap[d]? =ad (.cells vs.toArray k (0,0))->o+i+Z e<=Z vs->(∀u∈e,ns u=ae)->
  (storeCells ⟨d,o,none⟩ e i).run P W= .ok () (iH W d (cM vs e<|o+i) k)
 |[],W,vs,o,i,f,_,_=>by
  have:cM vs [] (o+i)=vs:=by simp[cM]
  rw[this,afN f];simp[storeCells,pure]
 |u::e,W,vs,o,i,f,hle,a=>by simp only[gQ]at hle;have l:d<W.heap.size:=(fT.1 f).1;have m:=afJ (P:=P) f (j:=o+i) O<|a u ax;have n:=zC d e (iH W d (vs.set (o+i) u) k) (vs.set (o+i) u) o (i+1) (xD l) bV<|λx hx=>a x lA;simp only[storeCells,k4,cZ,m,de,n,afM];rw[(O:o+(i+1)=o+i+1),UW _ _ _ _ O]
def jU:AV->ar (V C)
 | .c x=>ad [x]
 | .a cs=>ad cs
 | .t _=>none
def IT{x}{i}(d:jU x=ad i){v}(e:bA g x v)(f:∀k∈i,jH k=ae):∃vs,v.cells=vs.toArray/\aR g i vs:=by
 cases x with
 |c y=>
  simp only[jU,au]at d
  subst d
  have l:=UU (f y ax) e
  refine⟨[v],?_,v,[],J,e,J⟩
  cases v<;>first|rfl| (simp[ns]at l)
 |a ds=>
  simp only[jU,au]at d
  subst d
  obtain⟨vs,rfl,e⟩:=e
  exact⟨vs,J,e⟩
 |t _=>simp[jU]at d
def aR.one{d}{vs}(e:aR g d vs)(a:∀f∈d,jH f=ae):∀v∈vs,ns v=ae:=by
 induction d generalizing vs with
 |nil=>simp only[aR]at e;subst e;simp
 |cons f d l=>
  obtain⟨v,r,rfl,m,n⟩:=e
  intro u i
  rcases bX.1 i with rfl|i
  .exact UU (a f ax) m
  .exact l n (λo k=>a o<|by simp[k]) u i
def aR.cM{a d}{vs e}(f:aR g a vs)(i:aR g d e) off:aR g (Go.El.cM a d off) (Go.El.cM vs e off):=by unfold Go.El.cM;rw[i.length];exact aR.append (aR.append (f.take off) i)<|f.drop _
def BZ a e:∀d∈bP (a++e),d∈bP a\/d∈bP e:=by
 induction a with
 |nil=>intro d h;exact .inr h
 |cons c a f=>
  intro d h
  simp only[lY,bP,aY]at h⊢
  rcases h with h|h
  .exact .inl<|.inl h
  .rcases f d h with h|h
   .exact .inl<|.inr h
   .exact .inr h
end
end Go.El
