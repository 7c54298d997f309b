/- The engine, part 1: data, abstract values, what it means that they describe memory. Own work; no condition. -/
import Derived.WalkKit
import Derived.OrdersIn
import Derived.Test.YtceihkmakfdcnaaGreatD0
set_option linter.all false
set_option maxHeartbeats 16000000
set_option maxRecDepth 100000
open Array renaming ext_getElem?->aiC,getElem?_setIfInBounds->aiD
open BitVec renaming ofInt->jm
open Bool renaming false->ah,true->ae
open Go renaming Value->aV,IntKind->m6,TypeId->dX,World->cQ,Oper->a4,Program->bW
open Go.Instr renaming fieldAt->W8,sureAddr->Du,extract->Xa,indexAt->AS,sliceBound->GF,sliceBounds->tP,loadAt->Xe
open Go.Op renaming intArith->Qf
open Go.Region renaming binds->tL,ready->WW
open Go.Result renaming andThen->dx
open Go.Sem renaming run_bind->dn,run->kp
open Go.Value.slice renaming injEq->aix
open Int renaming toNat->af,lt_of_mul_lt_mul_right->ah0,le_ediv_of_mul_le->ah2
open List renaming length->Z,take->c,drop->aA,getD->E,filter_cons_of_pos->ah6,filter_cons_of_neg->ah7,range->bX
open Nat renaming one_pos->C9,strongRecOn->Gs
open Option renaming some->ad
open _root_ renaming Nat->Y,Option->ax,Int->G,List->V
namespace Go.El
open Go Go.RowKit
abbrev FH:=Y->Y->ax aV
inductive ET where
 |int (k:m6)|bool|z|q|sl (T:ET)|pr (A B:ET)
@[reducible] def ET.den : ET -> Type
 | .int _=>G
 | .bool=>Bool
 | .z=>G
 | .q=>Rat
 | .sl T=>V T.den
 | .pr A B=>A.den×B.den
@[reducible] def ET.dE : (T : ET) -> T.den
 | .int _=>(0:G)
 | .bool=>ah
 | .z=>(0:G)
 | .q=>(0:Rat)
 | .sl _=>[]
 | .pr A B=>(A.dE,B.dE)
@[reducible] def ET.n : ET -> Y
 | .int _=>1
 | .bool=>1
 | .z=>2
 | .q=>4
 | .sl _=>1
 | .pr A B=>A.n+B.n
def ET.AE:∀T:ET,0<T.n
 | .int _=>C9
 | .bool=>C9
 | .z=>Nat.two_pos
 | .q=>by decide
 | .sl _=>C9
 | .pr A B=>by have:=A.AE;simp only[ET.n];omega
def yp:Y->Y->V G
 |0,_=>[]
 |f+1,n=>if n=0 then[]else((n%4294967296:Y):G)::yp f (n/4294967296)
def ao(n:Y):V G:=yp n n
def cd(a:G):Bool:=decide<|a<0
def eG(a:G):V G:=ao<|Int.natAbs a
def lZ{k:Type}(l:k->V aV->Prop)(n:Y)(H:FH)(xs:V k)(v:aV):Prop:=
 ∃a d,v= .slice a (Z xs) d/\Z xs<=d/\Z xs*n<=140737488355328/\
  (xs=[]\/∃b f,a=ad ⟨b,f,none⟩/\∀i(h:i<Z xs),∃g,Z g=n/\l xs[i] g/\
   ∀j(m:j<Z g),H b (f+i*n+j)=ad g[j])
def C'(H:FH)(a:V G)(v:aV):Prop:=lZ (λn d=>d=[.int .u32 n]) 1 H a v
def q9(H:FH)(a:G)(vs:V aV):Prop:=∃m,vs=[.bool (cd a),m]/\C' H (eG a) m
def cZ(H:FH):(T:ET)->T.den->V aV->Prop
 | .int k,n,vs=>vs=[.int k n]
 | .bool,d,vs=>vs=[.bool d]
 | .z,g,vs=>q9 H g vs
 | .q,f,vs=>∃a d,vs=a++d/\q9 H f.num a/\q9 H (f.den:G) d
 | .sl T,xs,vs=>∃v,vs=[v]/\lZ (cZ H T) T.n H xs v
 | .pr A B,x,vs=>∃a d,vs=a++d/\cZ H A x.1 a/\cZ H B x.2 d
def cL(H a:FH):Prop:=∀b o v,H b o=ad v->a b o=ad v
def cL.refl H:cL H H:=λ_ _ _ h=>h
def cL.trans{a d f}(g:cL a d)(k:cL d f):cL a f:=λb o v e=>k b o v<|g b o v e
def lZ.mono{o:Type}{g k:o->V aV->Prop}{n}{H m}{xs}{v}(p:lZ g n H xs v)
  (s:cL H m) (t:∀x d,g x d->k x d):lZ k n m xs v:=by
 let ⟨a,cap,e,u,h2,f⟩:=p
 refine⟨a,cap,e,u,h2,?_⟩
 rcases f with f|⟨b,off,y,hc⟩
 .exact .inl f
 .refine .inr ⟨b,off,y,λi A=>?_⟩;let ⟨d,l,r,c⟩:=hc i A;exact⟨d,l,t _ _ r,λj B=>s _ _ _<|c j B⟩
def C'.mono{H d:FH}{f v}(a:C' H f v)(g:cL H d):C' d f v:=lZ.mono a g λ_ _ a=>a
def q9.mono{H d:FH}{f vs}(a:q9 H f vs)(g:cL H d):q9 d f vs:=by let ⟨m,e,a⟩:=a;exact⟨m,e,a.mono g⟩
def cZ.mono{H l:FH}(f:cL H l):∀(T:ET)(x:T.den)(vs:V aV),cZ H T x vs->cZ l T x vs
 | .int _,_,_,d=>d
 | .bool,_,_,d=>d
 | .z,_,_,d=>q9.mono d f
 | .q,_,_,d=>by let ⟨a,k,g,i,h2⟩:=d;exact⟨a,k,g,i.mono f,h2.mono f⟩
 | .sl T,_,_,d=>by let ⟨v,g,i⟩:=d;exact⟨v,g,i.mono f<|λx m=>cZ.mono f T x m⟩
 | .pr A B,_,_,d=>by let ⟨a,k,g,i,h2⟩:=d;exact⟨a,k,g,cZ.mono f A _ _ i,cZ.mono f B _ _ h2⟩
def q9.length{H a vs}(d:q9 H a vs):Z vs=2:=by obtain⟨m,rfl,_⟩:=d;rfl
def cZ.length{H:FH}:∀(T:ET)(x:T.den)(vs:V aV),cZ H T x vs->Z vs=T.n
 | .int _,_,_,d=>by simp only[cZ]at d;subst d;rfl
 | .bool,_,_,d=>by simp only[cZ]at d;subst d;rfl
 | .z,_,_,d=>q9.length d
 | .q,_,_,d=>by obtain⟨a,i,rfl,f,g⟩:=d;simp[f.length,g.length]
 | .sl T,_,_,d=>by obtain⟨v,rfl,_⟩:=d;rfl
 | .pr A B,_,_,d=>by obtain⟨a,i,rfl,f,g⟩:=d;simp[cZ.length A _ _ f,cZ.length B _ _ g]
def sD(a:Bool)(vs:V aV):aV:=match a with
 |true=> .agg vs.toArray
 |false=>vs.headD undef
structure MP where
 p:FH->aV->Prop
 mono:∀H a v,cL H a->p H v->p a v
inductive C where
 |any
 |B (b:Bool)
 |I (k:m6) (n:G)
 |V (v:aV)
 |S (T:ET) (xs:List T.den)
 |P (d a:Nat)
 |X (d:Nat)
 |Y (d:Nat) (n i a:Nat)
 |E (T:ET) (x:T.den) (a:Nat)
 |M (m:MP)
 |L (d a len:Nat) (f:ax Nat)
 |W (d a len:Nat)
inductive AV where
 |c (x:C)
 |a (d:V C)
 |t (vs:V (Bool×V C))
def av:(T:ET)->T.den->V C
 | .int k,n=>[.I k n]
 | .bool,f=>[.B f]
 | .z,d=>[.B (cd d),.S (.int .u32)<|eG d]
 | .q,a=>[.B (cd a.num),.S (.int .u32)<|eG a.num,.B<|cd (a.den:G),.S (.int .u32)<|eG (a.den:G)]
 | .sl T,xs=>[.S T xs]
 | .pr A B,x=>av A x.1++av B x.2
structure Gh where
 H:FH
 γ:Y->aV
def cE:aV->ax Y
 | .pointer (ad a)=>ad a.block
 | .slice (ad a) _ _=>ad a.block
 | .map (ad d)=>ad d
 |_=>none
def c7(g:Gh):C->aV->Prop
 | .any,_=>True
 | .B a,v=>v= .bool a
 | .I k n,v=>v= .int k n
 | .V u,v=>v=u
 | .S T xs,v=>lZ (cZ g.H T) T.n g.H xs v
 | .P id off,v=>∃a,cE (g.γ id)=ad a/\v= .pointer (ad ⟨a,off,none⟩)
 | .X id,v=>v=g.γ id
 | .Y id n i off,v=>∃a d l,g.γ id= .slice (ad ⟨a,0,none⟩) d l/\v= .pointer (ad ⟨a,i*n+off,none⟩)
 | .E T x off,v=>∃a o s,v= .pointer (ad ⟨a,o+off,none⟩)/\cZ g.H T x s/\∀t(y:t<Z s),g.H a (o+t)=ad s[t]
 | .M m,v=>m.p g.H v
 | .L id off d (ad f),v=>∃a,cE (g.γ id)=ad a/\v= .slice (ad ⟨a,off,none⟩) d f
 | .L id off d none,v=>off=0/\∃a f,g.γ id= .slice (ad ⟨a,0,none⟩) 0 f/\v= .slice (ad ⟨a,0,none⟩) d f/\d<=f
 | .W id off d,v=>∃a f,cE (g.γ id)=ad a/\v= .slice (ad ⟨a,off,none⟩) d f/\d<=f
def aW(g:Gh):V C->V aV->Prop
 |[],vs=>vs=[]
 |d::cs,vs=>∃v a,vs=v::a/\c7 g d v/\aW g cs a
def AF(g:Gh):Bool×V C->aV->Prop
 | (ae,cs),v=>∃vs,v= .agg vs.toArray/\aW g cs vs
 | (ah,[a]),v=>c7 g a v
 | (ah,_),_=>False
def fJ(g:Gh):V (Bool×V C)->V aV->Prop
 |[],vs=>vs=[]
 |s::d,vs=>∃v a,vs=v::a/\AF g s v/\fJ g d a
def bu(g:Gh):AV->aV->Prop
 | .c x,v=>c7 g x v
 | .a cs,v=>∃vs,v= .agg vs.toArray/\aW g cs vs
 | .t d,v=>∃vs,v= .tuple vs.toArray/\fJ g d vs
def aW.length{g:Gh}:∀{d:V C}{vs:V aV},aW g d vs->Z vs=Z d
 |[],_,a=>by simp only[aW]at a;subst a;rfl
 |_::d,_,a=>by obtain⟨v,f,rfl,_,a⟩:=a;simp[aW.length a]
def aW.append{g:Gh}:∀{d f:V C}{vs i:V aV},aW g d vs->aW g f i->aW g (d++f) (vs++i)
 |[],_,_,_,a,k=>by simp only[aW]at a;subst a;exact k
 |_::d,_,_,_,a,k=>by obtain⟨v,n,rfl,l,m⟩:=a;exact⟨v,_,J,l,aW.append m k⟩
def ahR{g:Gh}{a v}(d:C' g.H a v):c7 g (.S (.int .u32) a) v:=d
def J'{g:Gh}{d vs}(a:q9 g.H d vs):aW g (av .z d) vs:=by obtain⟨m,rfl,a⟩:=a;exact⟨_,_,J,J,_,_,J,ahR a,J⟩
def yq{g:Gh}:∀(T:ET)(x:T.den)(vs:V aV),cZ g.H T x vs->aW g (av T x) vs
 | .int _,_,_,d=>by simp only[cZ]at d;subst d;exact⟨_,_,J,J,J⟩
 | .bool,_,_,d=>by simp only[cZ]at d;subst d;exact⟨_,_,J,J,J⟩
 | .z,_,_,d=>J' d
 | .q,l,_,d=>by obtain⟨a,k,rfl,f,i⟩:=d;exact aW.append (J' f)<|J' i
 | .sl T,_,_,d=>by obtain⟨v,rfl,d⟩:=d;exact⟨_,_,J,d,J⟩
 | .pr A B,_,_,d=>by obtain⟨a,k,rfl,f,i⟩:=d;exact aW.append (yq A _ _ f)<|yq B _ _ i
def Gn{g:Gh}:∀{cs ds:V C}{vs:V aV},aW g (cs++ds) vs->∃a d,vs=a++d/\aW g cs a/\aW g ds d
 |[],_,vs,f=>⟨[],vs,J,J,f⟩
 |_::cs,_,_,f=>by obtain⟨v,n,rfl,i,k⟩:=f;obtain⟨a,d,rfl,l,m⟩:=Gn k;exact⟨v::a,d,J,⟨v,a,J,i,l⟩,m⟩
def PR{g:Gh}{a vs}(i:aW g (av .z a) vs):q9 g.H a vs:=by obtain⟨v,r,rfl,d,m,l,rfl,k,f⟩:=i;simp only[aW]at f;simp only[c7]at d;subst f d;exact⟨m,J,k⟩
def AG{g:Gh}:∀(T:ET)(x:T.den)(vs:V aV),aW g (av T x) vs->cZ g.H T x vs
 | .int _,_,_,f=>by obtain⟨v,k,rfl,i,d⟩:=f;simp only[aW]at d;simp only[c7]at i;subst i d;rfl
 | .bool,_,_,f=>by obtain⟨v,k,rfl,i,d⟩:=f;simp only[aW]at d;simp only[c7]at i;subst i d;rfl
 | .z,_,_,f=>PR f
 | .q,k,vs,f=>by obtain⟨a,b,rfl,i,d⟩:=Gn (cs:=av .z k.num) (ds:=av .z (k.den:G)) f;exact⟨a,b,J,PR i,PR d⟩
 | .sl T,_,_,f=>by obtain⟨v,k,rfl,i,d⟩:=f;simp only[aW]at d;subst d;exact⟨v,J,i⟩
 | .pr A B,x,vs,f=>by obtain⟨a,b,rfl,i,d⟩:=Gn (cs:=av A x.1) (ds:=av B x.2) f;exact⟨a,b,J,AG A _ _ i,AG B _ _ d⟩
def C.ak:C->List Nat
 | .P id _=>[id]
 | .X id=>[id]
 | .Y id _ _ _=>[id]
 | .L id _ _ _=>[id]
 | .W id _ _=>[id]
 |_=>[]
def bV:V C->V Y
 |[]=>[]
 |a::cs=>a.ak++bV cs
def eW:V (Bool×V C)->V Y
 |[]=>[]
 |s::a=>bV s.2++eW a
def AV.ak:AV->V Y
 | .c x=>x.ak
 | .a cs=>bV cs
 | .t d=>eW d
structure gC(a:Y->Prop)(g f:Gh):Prop where
 H:cL g.H f.H
 γ:∀d,a d->f.γ d=g.γ d
def c7.mono{known:Y->Prop}{g g':Gh}(f:gC known g g'):∀{p:C}{v:aV},(∀d∈p.ak,known d)->c7 g p v->c7 g' p v
 | .any,_,_,_=>trivial
 | .B _,_,_,a=>a
 | .I _ _,_,_,a=>a
 | .V _,_,_,a=>a
 | .S T _,_,_,a=>lZ.mono a f.H<|λx s=>cZ.mono f.H T x s
 | .P d _,_,i,a=>by let ⟨k,n,a⟩:=a;exact⟨k,by rw[f.γ d (i d Da)];exact n,a⟩
 | .X d,_,i,a=>by simp only[c7]at a⊢;rw[f.γ d (i d Da)];exact a
 | .Y d _ _ _,_,i,a=>by let ⟨k,l,p,n,a⟩:=a;exact⟨k,l,p,by rw[f.γ d (i d Da)];exact n,a⟩
 | .E T _ _,_,_,a=>by let ⟨k,o,s,n,t,h2⟩:=a;exact⟨k,o,s,n,cZ.mono f.H T _ _ t,λj u=>f.H _ _ _<|h2 j u⟩
 | .M m,_,_,a=>m.mono _ _ _ f.H a
 | .L d _ _ (ad _),_,i,a=>by let ⟨k,n,a⟩:=a;exact⟨k,by rw[f.γ d (i d Da)];exact n,a⟩
 | .L d _ _ none,_,i,a=>by let ⟨y,k,p,n,a⟩:=a;exact⟨y,k,p,by rw[f.γ d (i d Da)];exact n,a⟩
 | .W d _ _,_,i,a=>by let ⟨k,p,n,a⟩:=a;exact⟨k,p,by rw[f.γ d (i d Da)];exact n,a⟩
def aW.mono{known:Y->Prop}{g g':Gh}(k:gC known g g'):∀{f:V C}{vs:V aV},(∀d∈bV f,known d)->aW g f vs->aW g' f vs
 |[],_,_,i=>i
 |_::_,_,l,i=>by let ⟨v,m,n,o,h2⟩:=i;exact⟨v,m,n,c7.mono k (λd a=>l d<|by simp[bV,a]) o,aW.mono k (λd a=>l d<|by simp[bV,a]) h2⟩
def AF.mono{known:Y->Prop}{g g':Gh}(k:gC known g g'):∀{s:Bool×V C}{v:aV},(∀d∈bV s.2,known d)->AF g s v->AF g' s v
 | (ae,_),_,f,a=>by let ⟨vs,l,a⟩:=a;exact⟨vs,l,aW.mono k f a⟩
 | (ah,[c]),_,f,a=>c7.mono k (λd i=>f d<|by simp[bV,i]) a
 | (ah,[]),_,_,a=>a
 | (ah,_::_::_),_,_,a=>a
def fJ.mono{known:Y->Prop}{g g':Gh}(k:gC known g g'):∀{f:V (Bool×V C)}{vs:V aV},(∀d∈eW f,known d)->fJ g f vs->fJ g' f vs
 |[],_,_,i=>i
 |_::_,_,l,i=>by let ⟨v,m,n,o,h2⟩:=i;exact⟨v,m,n,AF.mono k (λd a=>l d<|by simp[eW,a]) o,fJ.mono k (λd a=>l d<|by simp[eW,a]) h2⟩
def bu.mono{known:Y->Prop}{g g':Gh}(i:gC known g g'):∀{x:AV}{v:aV},(∀l∈x.ak,known l)->bu g x v->bu g' x v
 | .c _,_,f,d=>c7.mono i f d
 | .a _,_,f,d=>by let ⟨vs,k,d⟩:=d;exact⟨vs,k,aW.mono i f d⟩
 | .t _,_,f,d=>by let ⟨vs,k,d⟩:=d;exact⟨vs,k,fJ.mono i f d⟩
def val:V G->G
 |[]=>0
 |a::d=>a+4294967296*val d
def bT(a:V G):Prop:=∀w∈a,0<=w/\w<4294967296
def PT:bT []:=λ_ h=>by cases h
def yr{a}{d}:bT (a::d)↔(0<=a/\a<4294967296)/\bT d:=by simp[bT]
def jk{a}(d:bT a) n:bT (c n a):=λw f=>d w<|vi f
def yt{a}(d:bT a) n:bT (aA n a):=λw f=>d w<|List.mem_of_mem_drop f
def PU{a d}(f:bT a)(k:bT d):bT (a++d):=λw g=>(bg.mp g).elim (f w)<|k w
def yu{d}(f:bT d) i{a}(g:0<=a/\a<4294967296):bT (d.set i a):=λx k=>(List.mem_or_eq_of_mem_set k).elim (f x)<|λe=>e▸g
def rf n:bT (List.replicate n 0):=λw a=>by have:=List.eq_of_mem_replicate a;subst this;decide
def dt{a}(f:bT a) i:0<=E a i 0/\E a i 0<4294967296:=by
 by_cases d:i<Z a
 .simp only[aK,cO d,rh];exact f _<|sF d
 .simp[aK,iX<|vj d]
def Db a d:val (a++d)=val a+4294967296^Z a*val d:=by
 induction a with
 |nil=>simp[val]
 |cons w r f=>simp only[m7,val,f,ik,fK];grind
def ahS ws i(a:i<Z ws):val (c (i+1) ws)=val (c i ws)+E ws i 0*4294967296^i:=by rw[sH,Db,eL,oh<|yv a];simp[cO a,val,aK];grind
def mA ws i(a:Z ws<=i):val (c i ws)=val ws:=by rw[iY a]
def km ws i:val (c (i+1) ws)=val (c i ws)+E ws i 0*4294967296^i:=by
 by_cases h:i<Z ws
 .exact ahS ws i h
 .rw[mA ws _ O,mA ws i O];simp[aK,iX<|vj h]
def PV ws i a(h:i<Z ws):val (ws.set i a)=val ws+(a-E ws i 0)*4294967296^i:=by
 induction ws generalizing i with
 |nil=>simp at h
 |cons x r d=>
  cases i with
  |zero=>simp[val];omega
  |succ i=>
   have:=d i et
   simp only[List.set_cons_succ,val,this,PW,fK];grind
def Ka n:val (List.replicate n 0)=0:=by
 induction n with
 |zero=>rfl
 |succ n a=>simp[wP,val,a]
def l0{a}(d:bT a):0<=val a:=by
 induction a with
 |nil=>exact hO _
 |cons w r f=>
  let ⟨g,h2⟩:=yr.mp d
  have:=f h2
  simp only[val];omega
def m8{a}(d:bT a):val a<4294967296^Z a:=by
 induction a with
 |nil=>decide
 |cons w r f=>
  let ⟨g,h2⟩:=yr.mp d
  have:=f h2
  simp only[val,ik,fK];omega
def ahT:∀(f g n:Y),n<=f->n<=g->yp f n=yp g n:=by
 intro f;induction f with
 |zero=>
  intro g n h _;have:n=0:=by omega
  subst this;cases g<;>simp[yp]
 |succ f a=>
  intro g n d i
  cases g with
  |zero=>
   have:n=0:=by omega
   subst this;simp[yp]
  |succ g=>
   simp only[yp]
   split
   .rfl
   .rw[a g (n/4294967296) O O]
def Dc:ao 0=[]:=rfl
def wQ{n}(a:n≠0):ao n=((n%4294967296:Y):G)::ao (n/4294967296):=by
 unfold ao;obtain⟨m,rfl⟩:∃m,n=m+1:=⟨n-1,O⟩;conv=>lhs;unfold yp
 rw[w a,ahT m _ _ O<|aO _]
def eN n:val (ao n)=n:=by
 induction n using Gs with
 |ind n a=>
  by_cases h:n=0
  .subst h;rfl
  .rw[wQ h];simp only[val,a (n/4294967296) O];omega
def dW n:bT (ao n):=by
 induction n using Gs with
 |ind n a=>
  by_cases h:n=0
  .subst h;exact PT
  .rw[wQ h];exact yr.mpr ⟨O,a _ O⟩
def can(a:V G):Prop:=a=[]\/E a (Z a-1) 0≠0
def ahU{d}(l:bT d)(a:can d):d=ao (af<|val d):=by
 induction d with
 |nil=>rfl
 |cons w r g=>
  let ⟨o,h2⟩:=yr.mp l
  have i:can r:=by
   cases r with
   |nil=>exact .inl J
   |cons x s=>exact .inr (by rcases a with a|a;cases a;simpa using a)
  have p:=l0 h2
  have f:af (val<|w::r)≠0:=by
   simp only[val];intro t;have k:w=0/\val r=0:=O;cases r with
   |nil=>rcases a with a|a;cases a;simp at a;exact a k.1
   |cons x s=>
    have:=g h2 i
    rw[k.2]at this
    exact absurd this (by simp[Dc])
  rw[wQ f]
  have m:af (val<|w::r)/4294967296=af (val r):=by simp only[val];omega
  have n:((af (val<|w::r)%4294967296:Y):G)=w:=by simp only[val];omega
  rw[m,n,<-g h2 i]
def vk n:can (ao n):=by
 induction n using Gs with
 |ind n d=>
  by_cases h:n=0
  .subst h;exact .inl J
  .rw[wQ h];refine .inr ?_;by_cases h2:n/4294967296=0
   .rw[h2,Dc];simp;omega
   .have:=d (n/4294967296) O;rcases this with a|a
    .exfalso;have:=eN<|n/4294967296;rw[a]at this;simp[val]at this;omega
    .cases hw:ao (n/4294967296)with
     |nil=>rw[hw]at a;simp at a
     |cons x s=>rw[hw]at a;simpa using a
def gk(a:V G):Y->Y
 |0=>0
 |n+1=>if E a n 0=0 then gk a n else n+1
def aN(a:V G):V G:=c (gk a<|Z a) a
def WC(a:V G):∀n,gk a n<=n
 |0=>aO _
 |n+1=>by simp only[gk];split;exact Nat.le_succ_of_le<|WC a n;exact aO _
def WD(a:V G):∀n,val (c (gk a n) a)=val (c n a)
 |0=>rfl
 |n+1=>by
  simp only[gk];split
  .rename_i d;rw[WD a n,km,d];omega
  .rfl
def WE(a:V G):∀n,gk a n=0\/E a (gk a n-1) 0≠0
 |0=> .inl J
 |n+1=>by
  simp only[gk];split
  .exact WE a n
  .rename_i h;exact .inr et
def WG ws:val (aN ws)=val ws:=by unfold aN;rw[WD,fR]
def WH{a}(d:bT a):bT (aN a):=jk d _
def Gt ws:can (aN ws):=by
 unfold aN can;have a:=WC ws<|Z ws;rcases WE ws (Z ws)with h|h
 .left;rw[h];rfl
 .by_cases d:gk ws (Z ws)=0
  .left;rw[d];rfl
  .right;rw[eL,oh a,aK,AH O,<-aK];exact h
def oN{a}(d:bT a):aN a=ao (af<|val a):=by have:=ahU (WH d)<|Gt a;rwa[WG]at this
def PX n:aN (ao n)=ao n:=by rw[oN (dW n),eN];simp
def tI{n:Y}:(n:G)<4294967296^Z (ao n):=by have:=m8<|dW n;rwa[eN]at this
def jF n:(0:G)<4294967296^n:=nH D
def tJ{m n}(a:m<=n):(4294967296:G)^m<=4294967296^n:=by obtain⟨k,rfl⟩:=Nat.exists_eq_add_of_le a;rw[Int.pow_add];have d:=jF m;have f:=jF k;have:(4294967296:G)^m*1<=4294967296^m*4294967296^k:=kK O O;omega
def Kb{a}(f:bT a)(g:can a)(d:a≠[]):(4294967296:G)^(Z a-1)<=val a:=by have i:0<Z a:=bQ.mpr d;have k:=km a<|Z a-1;rw[PY i,fR]at k;have l:E a (Z a-1) 0≠0:=g.resolve_left d;have m:=dt f<|Z a-1;have n:=l0<|jk f<|Z a-1;have o:=jF<|Z a-1;have p:1*(4294967296:G)^(Z a-1)<=E a (Z a-1) 0*4294967296^(Z a-1):=hP O O;omega
def AI{n k:Y}(i:(n:G)<4294967296^k):Z (ao n)<=k:=by
 apply Decidable.byContradiction;intro d;have a:ao n≠[]:=by intro f;rw[f]at d;simp at d
 have g:=Kb (dW n) (vk n) a;rw[eN]at g;have l:(4294967296:G)^k<=4294967296^(Z (ao n)-1):=tJ O;omega
def Kc{a d}(g:bT a)(i:bT d)(k:can d)(f:Z a<Z d):val a<val d:=by have m:=m8 g;have n:=Kb i k (by intro l;rw[l]at f;simp at f);have o:(4294967296:G)^Z a<=4294967296^(Z d-1):=tJ O;omega
def Kd{a d}(g:bT a)(k:bT d) i(l:aA (i+1) a=aA (i+1) d)(p:Z a=Z d)(s:i<Z a)(t:E a i 0<E d i 0):val a<val d:=by
 have f:val a=val (c (i+1) a)+4294967296^(i+1)*val (aA (i+1) a):=by have:=Db (c (i+1) a)<|aA (i+1) a;rwa[sI,eL,oh O]at this
 have m:val d=val (c (i+1) d)+4294967296^(i+1)*val (aA (i+1) d):=by have:=Db (c (i+1) d)<|aA (i+1) d;rwa[sI,eL,oh O]at this
 rw[l]at f;rw[km]at f m;have n:=m8<|jk g i;rw[eL,oh O]at n;have u:=l0<|jk k i;have v:=jF i;have o:(E a i 0+1)*(4294967296:G)^i<=E d i 0*4294967296^i:=hP O O;rw[nI]at o;omega
structure Kn1(M a d f v t u2 g u:G):Prop where
 hM:0<M
 qe:2147483648<=a
 ahV:a<4294967296
 AJ:0<=d
 WI:d<4294967296
 tK:0<=f
 WJ:f<M
 ht:0<=t
 iZ:0<=u2
 ahW:u2<4294967296
 wR:0<=g
 ahX:g<M
 ev:v=(a*4294967296+d)*M+f
 eu:u=(t*4294967296+u2)*M+g
 lt:u<v*4294967296
namespace Kn1
variable{M v1 v2 v' v t u2 u' u:G}(h:Kn1 M v1 v2 v' v t u2 u' u)
include h
def Dd:0<v:=by have a:=h.ev;have:0<(v1*4294967296+v2)*M:=De (by have:=h.qe;have:=h.AJ;omega) h.hM;have:=h.tK;omega
def vge:4294967296*M<=v:=by have a:=h.ev;have d:4294967296*M<=(v1*4294967296+v2)*M:=hP (by have:=h.qe;have:=h.AJ;omega) vn;have:=h.tK;omega
def vlt:v<(v1+1)*4294967296*M:=by have a:=h.ev;have d:(v1*4294967296+v2+1)*M<=(v1+1)*4294967296*M:=hP (by have:=h.WI;omega) vn;have f:(v1*4294967296+v2+1)*M=(v1*4294967296+v2)*M+M:=Gu;have:=h.WJ;omega
def WK:t*4294967296*M<=u:=by have a:=h.eu;have d:t*4294967296*M<=(t*4294967296+u2)*M:=hP (by have:=h.iZ;omega) vn;have:=h.wR;omega
def WL:u<(t*4294967296+u2+1)*M:=by have a:=h.eu;have d:(t*4294967296+u2+1)*M=(t*4294967296+u2)*M+M:=Gu;have:=h.ahX;omega
def WM:t<(v1+1)*4294967296:=by
 have g:=h.WK;have i:=h.lt;have k:=h.vlt;have a:t*(4294967296*M)<(v1+1)*4294967296*(4294967296*M):=by
  have d:t*(4294967296*M)=t*4294967296*M:=by rw[jl]
  have f:(v1+1)*4294967296*(4294967296*M)=(v1+1)*4294967296*M*4294967296:=by rw[jl _ M,eX M]
  rw[d,f];omega
 exact ah0 a vn
def Df:u/v<4294967296:=Dg h.Dd (by rw[eX];exact h.lt)
def q0:0<=u/v:=by refine yw ?_ (by have:=h.Dd;omega);have:=h.WK;have:0<=t*4294967296*M:=jx (by have:=h.ht;omega) vn;omega
def ah1:u/v*v<=u:=Int.ediv_mul_le u (by have:=h.Dd;omega)
def first:u/v<=t/v1:=by
 apply ah2 (by have:=h.qe;omega);have a:=h.ah1;have k:u/v*(v1*4294967296*M)<=u/v*v:=kK (by have a:=h.ev;have d:v1*4294967296*M<=(v1*4294967296+v2)*M:=hP (by have:=h.AJ;omega) vn;have:=h.tK;omega) h.q0;have d:=h.WL;have l:(t*4294967296+u2+1)*M<=(t+1)*4294967296*M:=hP (by have:=h.ahW;omega) vn;have f:u/v*v1*(4294967296*M)<(t+1)*(4294967296*M):=by
  have g:u/v*v1*(4294967296*M)=u/v*(v1*4294967296*M):=by simp only[jl]
  have i:(t+1)*(4294967296*M)=(t+1)*4294967296*M:=by simp only[jl]
  rw[g,i];omega
 have:=ah0 f vn;omega
def down{a d:G}(g:t=a*v1+d)(f:0<=a)(i:a*v2>d*4294967296+u2):u/v<a:=by
 apply Dg h.Dd;have k:=h.WL;have l:(t*4294967296+u2+1)*M<=a*(v1*4294967296+v2)*M:=hP (by
  have e:a*(v1*4294967296+v2)=a*v1*4294967296+a*v2:=by rw[om,jl]
  rw[e];generalize a*v1=x at*;generalize a*v2=y at*;omega) vn
 have m:a*v=a*(v1*4294967296+v2)*M+a*v':=by rw[h.ev,om,jl a]
 have n:0<=a*v':=jx f h.tK;omega
def close{a d:G}(f:t=a*v1+d)(g:0<=a)(i:a<4294967296)(k:a*v2<=d*4294967296+u2):a-1<=u/v:=by
 apply ah2 h.Dd;have l:a*(v1*4294967296+v2)*M<=(t*4294967296+u2)*M:=hP (by
  have e:a*(v1*4294967296+v2)=a*v1*4294967296+a*v2:=by rw[om,jl]
  rw[e];generalize a*v1=x at*;generalize a*v2=y at*;omega) vn
 have m:a*v=a*(v1*4294967296+v2)*M+a*v':=by rw[h.ev,om,jl a]
 have n:a*v'<=4294967296*M:=wT O (by have:=h.WJ;omega) h.tK D;have o:=h.vge;have p:=h.eu;have s:=h.wR;have A:(a-1)*v=a*v-v:=by rw[Gv,kL]
 omega
def ah3{a d:G}(i:t=a*v1+d)(k:4294967296<=d):a<4294967296:=by
 have f:=h.WM;have l:=h.qe;by_cases g:a<4294967296
 .exact g
 .exfalso;have:4294967296*v1<=a*v1:=hP O O;have e:(v1+1)*4294967296=v1*4294967296+4294967296:=Gu;rw[e]at f;omega
def small{a d:G}(k:t=a*v1+d)(l:0<=d):a<=4294967297:=by
 have f:=h.WM;have m:=h.qe;have g:=h.ahV;by_cases i:a<=4294967297
 .exact i
 .exfalso;have:4294967298*v1<=a*v1:=hP O O;have e:(v1+1)*4294967296=v1*4294967296+4294967296:=Gu;rw[e]at f;omega
end Kn1
section
variable{κ ι:Type}[DecidableEq κ]
def aE(u:V (κ×ax ι))(k:κ):ax (ax ι):=
 match u with
 |[]=>none
 | (a,x)::r=>if a=k then ad x else aE r k
def bs(a:κ->ax ι)(u:V (κ×ax ι)):κ->ax ι:=λk=>
 match aE u k with
 |some x=>x
 |none=>a k
def fold(d:Y->V (κ×ax ι))(a:κ->ax ι)(s:V Y):κ->ax ι:=s.foldl (λa i=>bs a<|d i) a
def oO(u:V (κ×ax ι))(k:κ):Bool:=(aE u k).isSome
def ah4{d:κ->ax ι}{u:V (κ×ax ι)}{k:κ}(a:oO u k=ah):bs d u k=d k:=by
 unfold oO at a;unfold bs;cases f:aE u k with
 |none=>rfl
 |some x=>rw[f]at a;simp at a
def ah5{d a:κ->ax ι}{u:V (κ×ax ι)}{k:κ}(f:d k=a k):bs d u k=bs a u k:=by unfold bs;rw[f]
def WN(d:Y->V (κ×ax ι))(k:κ):∀(s:V Y){g a:κ->ax ι},g k=a k->fold d g s k=fold d a s k
 |[],_,_,f=>f
 |i::s,_,_,f=>WN d k s<|ah5 f
def fold_filter(a:Y->V (κ×ax ι))(k:κ):∀(s:V Y)(d:κ->ax ι),fold a d s k=fold a d (s.filter λi=>oO (a i) k) k
 |[],_=>rfl
 |i::s,d=>by
  cases h:oO (a i) k with
  |true=>
   rw[ah6 et]
   exact fold_filter a k s _
  |false=>
   rw[ah7 (by simp[h])]
   have f:=fold_filter a k s d
   rw[<-f]
   exact WN a k s<|ah4 h
def PZ(a:Y->V (κ×ax ι))(d:κ->ax ι)(s:V Y)(i:Y):fold a d (s++[i])=bs (fold a d s) (a i):=by simp[fold]
def P0:∀{l m:V Y},l.Pairwise (·<·)->m.Pairwise (·<·)->(∀x,x∈l↔x∈m)->l=m
 |[],[],_,_,_=>rfl
 |[],y::m,_,_,d=>absurd ((d y).2<|Dh) az
 |x::l,[],_,_,d=>absurd ((d x).1<|Dh) az
 |x::l,y::m,hl,hm,d=>by
  have f:=jR.1 hl;have g:=jR.1 hm;have n:x=y:=by
   have i:=(d x).1<|Dh;have o:=(d y).2<|Dh;rcases b9.1 i with e|i
   .exact e
   .rcases b9.1 o with e|o
    .exact e.symm
    .have a:=g.1 x i;have b:=f.1 y o;omega
  subst n;congr 1;refine P0 f.2 g.2<|λz=>?_;constructor
  .intro k;rcases b9.1 ((d z).1<|ko _ k)with e|i
   .have:=f.1 z k;omega
   .exact i
  .intro k;rcases b9.1 ((d z).2<|ko _ k)with e|i
   .have:=g.1 z k;omega
   .exact i
def ah8(n:Y):(bX n).Pairwise (·<·):=Ke
structure ri(n:Y)(a:Y->Y->Prop)(s:V Y):Prop where
 nodup:s.Nodup
 lt:∀i∈s,i<n
 closed:∀p i r,s=p++i::r->∀d,a d i->d∈p
def ri.nil(n:Y)(a:Y->Y->Prop):ri n a []:=⟨List.nodup_nil,az,λp i r h=>by simp at h⟩
def ri.snoc{n:Y}{f:Y->Y->Prop}{s:V Y}(l:ri n f s){i:Y}(H:i<n)(A:i∉s)(B:∀g,f g i->g∈s):ri n f (s++[i]):=by
 refine⟨?_,?_,?_⟩
 .rw[P1];exact⟨l.nodup,az,λa m b v=>by simp at v;subst v;exact λe=>A<|e▸m⟩
 .intro g d;rcases bg.1 d with d|d
  .exact l.lt g d
  .simp at d;omega
 .intro p k r y g d;rcases List.eq_nil_or_concat r with rfl|⟨o,x,rfl⟩
  .have t:s=p/\i=k:=by have:=List.append_inj' (s₁:=s) (t₁:=[i]) (s₂:=p) (t₂:=[k]) y J;exact⟨this.1,by simpa using this.2⟩
   obtain⟨rfl,rfl⟩:=t;exact B g d
  .have t:s=p++k::o:=by
    have u:s++[i]=(p++k::o)++[x]:=by rw[y];simp
    exact(List.append_inj' u J).1
   exact l.closed p k o t g d
def ri.WO{n:Y}{d:Y->Y->Prop}{s:V Y}(m:ri n d s)(f:Y->Bool)
  (A:∀i o,i<o->o<n->f i=ae->f o=ae->d i o):(s.filter f).Pairwise (·<·):=by
 have t:∀p r,s=p++r->(r.filter f).Pairwise (·<·):=by
  intro p r;induction r generalizing p with
  |nil=>intro _;simp
  |cons x r B=>
   intro g
   have k:=B (p++[x]) (by rw[g];simp)
   cases hx:f x with
   |false=>rw[ah7 mB];exact k
   |true=>
    rw[ah6 hx,jR]
    refine⟨λy C=>?_,k⟩
    let ⟨l,u⟩:=oP.1 C
    have v:x∈s:=by rw[g];simp
    have H:x≠y:=by intro e;have:=m.nodup;rw[g,P1]at this;have:=this.2.1;rw[AK]at this;exact this.1<|e▸l
    rcases qf x y with a|K
    .exact a
    .have a:y<x:=by omega
     have L:=A y x a (m.lt x v) u hx;have M:=m.closed p x r g y L;have:=m.nodup;rw[g,P1]at this;exact absurd J<|this.2.2 y M y<|ko _ l
 exact t [] s J
def WQ(n:Y)(a:Y->Bool):((bX n).filter a).Pairwise (·<·):=(ah8 n).filter _
def ri.read{n:Y}{d:Y->Y->Prop}{s:V Y}(o:ri n d s)(g:Y->V (κ×ax ι))(A:κ->ax ι)(k:κ)(i:Y)(U:i<n)(B:i∉s)
  (L:∀H,d H i->H∈s)
  (M:∀a f,a<f->f<n->oO (g a) k=ae->oO (g f) k=ae->d a f)
  (P:∀a,a<i->oO (g a) k=ae->d a i) (Q:∀f,i<f->f<n->oO (g f) k=ae->d i f):
  fold g A s k=fold g A (bX i) k:=by
 rw[fold_filter g k s,fold_filter g k<|bX i]
 congr 1
 refine P0 (o.WO _<|λa f t u K T=>M a f t u K T) (WQ i _)<|λx=>?_
 rw[oP,oP,l3]
 constructor
 .rintro⟨l,m⟩;refine⟨?_,m⟩;rcases P3 x i with v|he|y
  .exact v
  .exact absurd l<|he▸B
  .have u:=Q x y (o.lt x l) m;let ⟨p,r,C⟩:=P4 l;have:=o.closed p x r C i u;exact absurd (by rw[C];exact eH _ this) B
 .rintro⟨l,m⟩;exact⟨L x<|P x l m,m⟩
def ri.all{n:Y}{g:Y->Y->Prop}{s:V Y}(p:ri n g s)(d:Y->V (κ×ax ι))(t:κ->ax ι)(l:∀i,i<n->i∈s)
  (u:∀k a f,a<f->f<n->oO (d a) k=ae->oO (d f) k=ae->g a f):fold d t s=fold d t (bX n):=by
 funext k
 rw[fold_filter d k s,fold_filter d k<|bX n]
 congr 1
 refine P0 (p.WO _<|λa f m v y A=>u k a f m v y A) (WQ n _)<|λx=>?_
 rw[oP,oP,l3]
 exact⟨λ⟨o,q⟩=>⟨p.lt x o,q⟩,λ⟨o,q⟩=>⟨l x o,q⟩⟩
end
inductive aG where
 |box (E:dX) (sz:Y) (g:V C)
 |vec (E:dX) (T:ET) (xs:V T.den)
 |hY (f:FuncId) (first a:V (Bool×V C))
 |fz (E:dX) (g:V C)
 |mp (i k:Bool) (xs:V (V C×V C))
 |it (m n:Y) (d:V Y)
inductive Key where
 |s (t:Y)
 |m (a:Y)
 deriving DecidableEq
inductive Info where
 |v (x:AV)
 |b (x:aG)
def lB:V (V C×V C)->V Y
 |[]=>[]
 |x::xs=>bV x.1++(bV x.2++lB xs)
def aG.ak:aG->V Y
 | .box _ _ cs=>bV cs
 | .vec _ _ _=>[]
 | .hY _ first a=>eW first++eW a
 | .fz _ cs=>bV cs
 | .mp _ _ xs=>lB xs
 | .it m _ _=>[m]
def Info.ak:Info->V Y
 | .v x=>x.ak
 | .b x=>x.ak
abbrev Kn:=Key->ax Info
def iy(g:Gh)(d f:Bool):Y->V (V C×V C)->V MapEntry->Prop
 |_,[],es=>es=[]
 |n,x::xs,es=>∃a i,es=a::i/\a.born=n/\(∃k,a.key=sD d k/\aW g x.1 k)/\(∃vs,a.val=sD f vs/\aW g x.2 vs)/\iy g d f (n+1) xs i
def iy.mono{known:Y->Prop}{g g':Gh}(f:gC known g g'){m o:Bool}:∀{n:Y}{xs:V (V C×V C)}{p:V MapEntry},(∀d∈lB xs,known d)->iy g m o n xs p->iy g' m o n xs p
 |_,[],_,_,s=>s
 |_,_::_,_,i,⟨t,u,v,h2,⟨x,y,k⟩,⟨vs,A,l⟩,B⟩=>⟨t,u,v,h2,⟨x,y,aW.mono f (λd a=>i d<|by simp[lB,a]) k⟩,⟨vs,A,aW.mono f (λd a=>i d<|by simp[lB,a]) l⟩,iy.mono f (λd a=>i d<|by simp[lB,a]) B⟩
def Sub(H:FH)(a:cQ):Prop:=∀b o v,H b o=ad v->a.cell? ⟨b,o,none⟩=ad v
def fV(p:Y->Prop)(g:Gh)(W:cQ)(k:Y):aG->Prop
 | .box s sz cs=>∃a,∃vs rest:V aV,cE (g.γ k)=ad a/\W.heap[a]? =ad (.cells (vs++rest).toArray s (0,0))/\aW g cs vs/\p a/\(∀o,g.H a o=none)/\(sz≠0->∃u,g.γ k= .slice (ad ⟨a,0,none⟩) 0 u/\Z (vs++rest)=u*sz)
 | .vec s T xs=>(g.γ k= .slice none 0 0/\xs=[])\/∃a l,∃vs:V aV,g.γ k= .slice (ad ⟨a,0,none⟩) (Z xs) l/\W.heap[a]? =ad (.cells vs.toArray s (0,0))/\
   Z vs=l*T.n/\Z xs<=l/\Z xs*T.n<=140737488355328/\(∀i(L:i<Z xs),cZ g.H T xs[i] ((aA (i*T.n) vs).take T.n))/\p a/\∀o,g.H a o=none
 | .hY f first t=>∃v x:V aV,g.γ k= .func (.func f) v.toArray x.toArray/\fJ g first v/\fJ g t x
 | .fz s cs=>∃a,∃vs rest:V aV,cE (g.γ k)=ad a/\W.heap[a]? =ad (.cells (vs++rest).toArray s (0,0))/\aW g cs vs/\p a/\(∀o,g.H a o=(vs++rest)[o]?)
 | .mp A B xs=>∃d,∃y:Array MapEntry,g.γ k= .map (ad d)/\W.heap[d]? =ad (.map y<|Z xs)/\iy g A B 0 xs y.toList/\p d/\(∀o,g.H d o=none)
 | .it m n seen=>∃d a,g.γ k= .pointer (ad ⟨d,0,none⟩)/\g.γ m= .map (ad a)/\W.heap[d]? =ad (.mapIter (ad a) n seen.toArray n)/\p d/\(∀o,g.H d o=none)
structure fj where
 w0:cQ
 H0:FH
 n:Y
 own:Y->Prop:=λ_=>False
 k0:Y:=0
 γ0:Y->aV:=λ_=>undef
 ds:V Deferred:=[]
 rd:ax Y:=none
def fj.N(a:fj)(d:Y):Prop:=a.w0.heap.size<=d\/a.own d
structure Di(own:Y->Prop)(w a:cQ):Prop where
 os:a.os=w.os
 tape:a.tape=w.tape
 output:a.output=w.output
 size:w.heap.size<=a.heap.size
 block:∀k,k<w.heap.size->¬own k->a.heap[k]? =w.heap[k]?
structure bx(i:fj)(f:Y->Prop)(p:Kn)(g:Gh)(W:cQ)(a:Act):Prop where
 size:a.tmps.size=i.n
 defers:a.defers=i.ds
 eY:∀t v,p (.s t)=ad (.v v)->bu g v (a.tmps.getD t undef)
 cX:∀d b,p (.m d)=ad (.b b)->fV i.N g W d b
 inj:∀d l b u k,p (.m d)=ad (.b b)->p (.m l)=ad (.b u)->cE (g.γ d)=ad k->cE (g.γ l)=ad k->d=l
 ak:∀k x,p k=ad x->∀d∈x.ak,f d
 ew:∀d x,p (.m d)=ad x->f d
 sub:Sub g.H W
 below:Di i.own i.w0 W
 le:cL i.H0 g.H
 fresh:∀b o,b<i.w0.heap.size->¬i.own b->g.H b o=i.H0 b o
 gK:∀d,d<i.k0->f d/\g.γ d=i.γ0 d
structure Ext(a f:Y->Prop)(g:Gh)(W:cQ)(i:Gh)(d:cQ):Prop where
 le:gC a g i
 fresh:∀b o,b<W.heap.size->i.H b o=g.H b o
 sub:Sub i.H d
 size:W.heap.size<=d.heap.size
 heap:∀k,k<W.heap.size->(∀l,f l->cE (g.γ l)≠ad k)->d.heap[k]? =W.heap[k]?
 os:d.os=W.os
 tape:d.tape=W.tape
 output:d.output=W.output
def fV.block{p:Y->Prop}{g}{W}{s}{l}(o:fV p g W s l){k}(a:cE (g.γ s)=ad k):p k/\k<W.heap.size:=by
 cases l with
 |box E sz cs=>
  let ⟨l,vs,rest,e,d,_,i,_⟩:=o
  rw[e]at a
  simp only[ar]at a
  subst a
  exact⟨i,(gL.1 d).1⟩
 |vec E T xs=>
  rcases o with⟨e,_⟩|⟨l,u,vs,e,d,_,_,_,_,i,_⟩
  .rw[e]at a;simp[cE]at a
  .rw[e]at a;simp only[cE,ar]at a;subst a;exact⟨i,(gL.1 d).1⟩
 |hY f first t=>
  let ⟨us,ws,e,_⟩:=o
  rw[e]at a;simp[cE]at a
 |fz E cs=>
  let ⟨l,vs,rest,e,d,_,i,_⟩:=o
  rw[e]at a
  simp only[ar]at a
  subst a
  exact⟨i,(gL.1 d).1⟩
 |mp v x xs=>
  let ⟨r,es,e,d,_,i,_⟩:=o
  rw[e]at a
  simp only[cE,ar]at a
  subst a
  exact⟨i,(gL.1 d).1⟩
 |it m n seen=>
  let ⟨r,l,e,_,d,i,_⟩:=o
  rw[e]at a
  simp only[cE,ar]at a
  subst a
  exact⟨i,(gL.1 d).1⟩
def fV.step{l chg:Y->Prop}{Q:Y->Prop}{g g'}{W W'}{id}{a}(y:fV Q g W id a)(hx:Ext l chg g W g' W')
  (fe:l id) (A:∀d∈a.ak,l d) (u:∀d k,chg d->cE (g.γ id)=ad k->cE (g.γ d)≠ad k):fV Q g' W' id a:=by
 cases a with
 |box E sz cs=>
  let ⟨a,vs,rest,e,p,B,v,x,hc⟩:=y
  have s:a<W.heap.size:=(gL.1 p).1
  refine⟨a,vs,rest,AL,?_,aW.mono hx.le A B,v,λo=>by rw[hx.fresh a o s];exact x o,by rw[hx.le.γ id fe];exact hc⟩
  rw[hx.heap a s (λd t=>u d a t e)];exact p
 |vec E T xs=>
  rcases y with⟨e,C⟩|⟨a,K,vs,e,p,L,M,P,X,v,x⟩
  .exact .inl ⟨AL,C⟩
  .have s:a<W.heap.size:=(gL.1 p).1;refine .inr ⟨a,K,vs,AL,?_,L,M,P,λi c=>cZ.mono hx.le.H T _ _<|X i c,v,λo=>by rw[hx.fresh a o s];exact x o⟩;rw[hx.heap a s (λd t=>u d a t sJ)];exact p
 |hY f first U=>
  let ⟨us,ws,e,L,M⟩:=y
  exact⟨us,ws,AL,fJ.mono hx.le (λd t=>A d<|eH _ t) L,fJ.mono hx.le (λd t=>A d<|gD _ t) M⟩
 |fz E cs=>
  let ⟨a,vs,rest,e,p,B,v,x⟩:=y
  have s:a<W.heap.size:=(gL.1 p).1
  refine⟨a,vs,rest,AL,?_,aW.mono hx.le A B,v,λo=>by rw[hx.fresh a o s];exact x o⟩
  rw[hx.heap a s (λd t=>u d a t e)];exact p
 |mp w z xs=>
  let ⟨r,es,e,p,B,v,x⟩:=y
  have s:r<W.heap.size:=(gL.1 p).1
  refine⟨r,es,AL,?_,iy.mono hx.le A B,v,λo=>by rw[hx.fresh r o s];exact x o⟩
  rw[hx.heap r s (λd t=>u d r t sJ)];exact p
 |it m n seen=>
  let ⟨r,a,e,q,p,v,x⟩:=y
  have s:r<W.heap.size:=(gL.1 p).1
  refine⟨r,a,AL,by rw[hx.le.γ m (A m<|by simp[aG.ak])];exact q,?_,v,λo=>by rw[hx.fresh r o s];exact x o⟩
  rw[hx.heap r s (λd t=>u d r t sJ)];exact p
def bx.step{iz}{f chg:Y->Prop}{P}{g g'}{W W'}{a a'}(l:bx iz f P g W a)(M:Ext f chg g W g' W')
 wr new (wU:¬f new)
  (kM:a'.tmps.size=a.tmps.size) (hdf:a'.defers=iz.ds)
  (ah':∀t,aE wr (.s t)=none->a'.tmps.getD t undef=a.tmps.getD t undef)
  (WR:∀d,chg d->aE wr (.m d)≠none/\∃p,P (.m d)=ad (.b p))
  (hs:∀t v,aE wr (.s t)=ad (ad<|.v v)->bu g' v (a'.tmps.getD t undef))
  (hb:∀d p,aE wr (.m d)=ad (ad<|.b p)->fV iz.N g' W' d p/\((f d/\∃Q,P (.m d)=ad (.b Q))\/(d=new/\∀k,cE (g'.γ d)=ad k->W.heap.size<=k\/∃L Q,P (.m L)=ad (.b Q)/\aE wr (.m L)=ad none/\cE (g.γ L)=ad k)))
  (hm:∀k x,aE wr k=ad (ad x)->∀d∈x.ak,f d\/d=new)
  (oQ:∀d x,aE wr (.m d)=ad (ad x)->f d\/d=new):
  bx iz (λd=>f d\/d=new) (bs P wr) g' W' a':=by
 have B:∀k x,bs P wr k=ad x->(aE wr k=none/\P k=ad x)\/aE wr k=ad (ad x):=by
  intro k x n;unfold bs at n;cases X:aE wr k with
  |none=>rw[X]at n;exact .inl ⟨J,n⟩
  |some y=>rw[X]at n;simp only at n;rw[n];exact .inr J
 refine⟨by rw[kM];exact l.size,hdf,?_,?_,?_,?_,?_,M.sub,?_,l.le.trans M.le.H,?_,λd i=>⟨.inl (l.gK d i).1,by rw[M.le.γ d (l.gK d i).1];exact(l.gK d i).2⟩⟩
 .intro t v ht;rcases B _ _ ht with⟨u,A⟩|u
  .rw[ah' t u];exact bu.mono M.le (λd i=>l.ak _ _ A d i)<|l.eY t v A
  .exact hs t v u
 .intro d p i;rcases B _ _ i with⟨u,A⟩|u
  .refine(l.cX d p A).step M (l.ew _ _ A) (λL O=>l.ak _ _ A L O)<|λL k O n R=>?_;let ⟨C,Q,K⟩:=WR L O;have:=l.inj d L p Q k A K n R;subst this;exact C u
  .exact(hb d p u).1
 .intro d e p Q k i D n q;have low:∀d p,(aE wr (.m d)=none/\P (.m d)=ad (.b p))\/aE wr (.m d)=ad (ad<|.b p)->cE (g'.γ d)=ad k->
    (∃T,P (.m d)=ad (.b T)/\cE (g.γ d)=ad k/\k<W.heap.size/\aE wr (.m d)≠ad none)\/(d=new/\(W.heap.size<=k\/∃L Q,P (.m L)=ad (.b Q)/\aE wr (.m L)=ad none/\cE (g.γ L)=ad k)):=by
   intro d p r n
   rcases r with⟨u,A⟩|u
   .rw[M.le.γ d (l.ew _ _ A)]at n;exact .inl ⟨p,A,n,((l.cX d p A).block n).2,by rw[u];simp⟩
   .rcases(hb d p u).2 with⟨S,T,A⟩|⟨rfl,V⟩
    .rw[M.le.γ d S]at n;exact .inl ⟨T,A,n,((l.cX d T A).block n).2,by rw[u];simp⟩
    .exact .inr ⟨J,V k n⟩
  rcases low d p (B _ _ i) n with⟨c,u,A,Z,h4⟩|⟨e1,Z⟩<;>rcases low e Q (B _ _ D) q with⟨c',E,G,w,Kf⟩|⟨e1',w⟩
  .exact l.inj d e c c' k u E A G
  .rcases w with w|⟨L,bj,C,K,z⟩
   .omega
   .have:=l.inj d L c bj k u C A z;subst this;exact absurd K h4
  .rcases Z with Z|⟨L,bj,C,K,z⟩
   .omega
   .have:=l.inj e L c' bj k E C G z;subst this;exact absurd K Kf
  .rw[e1,e1']
 .intro k x n d i;rcases B _ _ n with⟨_,A⟩|u
  .exact .inl<|l.ak _ _ A d i
  .exact hm k x u d i
 .intro d x n;rcases B _ _ n with⟨_,A⟩|u
  .exact .inl<|l.ew _ _ A
  .exact oQ d x u
 .refine⟨M.os.trans l.below.os,M.tape.trans l.below.tape,M.output.trans l.below.output,bm l.below.size M.size,λk n U=>?_⟩;have q:k<W.heap.size:=iI n l.below.size;rw[<-l.below.block k n U];refine M.heap k q<|λd i Gw=>?_;let ⟨_,p,hσ⟩:=WR d i;rcases((l.cX d p hσ).block Gw).1 with u|u
  .omega
  .exact U u
 .intro p o I U;rw[M.fresh p o (iI I l.below.size)];exact l.fresh p o I U
def bx.weaken{o}{i d:Y->Prop}{p}{g}{W}{a}(f:bx o i p g W a)(n:∀l,i l->d l):bx o d p g W a:=
 ⟨f.size,f.defers,f.eY,f.cX,f.inj,λk x e l m=>n _<|f.ak k x e l m,λl x e=>n _<|f.ew l x e,f.sub,f.below,f.le,f.fresh,λl m=>⟨n _ (f.gK l m).1,(f.gK l m).2⟩⟩
def bx.drew{k}{i:Y->Prop}{l}{g}{W}{a}(d:bx k i l g W a):bx k i l g {W with drawn:=W.drawn+1} a:=by
 refine⟨d.size,d.defers,d.eY,?_,d.inj,d.ak,d.ew,d.sub,⟨d.below.os,d.below.tape,d.below.output,d.below.size,d.below.block⟩,d.le,d.fresh,d.gK⟩;intro p b e;have:=d.cX p b e;cases b with
 |box E sz cs=>exact this
 |vec E T xs=>exact this
 |hY f first o=>exact this
 |fz E cs=>exact this
 |mp s t xs=>exact this
 |it m n seen=>exact this
def gn(a:ax Y):Fence:={Fence.wide with round:=a}
def AM(d:ax Y)(a:Array a4):Prop:=∀(i:Y)(o:a4),a[i]? =ad o->d=none\/∀c,o.op≠ .defer c
def aib{a}:AM none a:=λ_ _ _=> .inl J
def WS{P}{d:Code}{Q:Exit->Act->cQ->Prop}{a}{f}{r}(g:r=none):d.wpIn (gn r) 0 P Q a f↔d.wp P Q a f:=by subst g;exact wpIn_wide
def P5{P}{f}{i}{K:Act->cQ->Prop}{a}{W}{m}{Q:Exit->Act->cQ->Prop}(H:∀o,f[i]? =ad o->m=none\/∀p,o.op≠ .defer p)(d:wpOp P f (λ_ _ _=>False) i K a W):
  wpOpIn (gn m) 0 P f Q i K a W:=by
 unfold wpOp at d
 unfold wpOpIn
 cases s:f[i]? with
 |none=>rw[s]at d;exact d
 |some o=>
  rw[s]at d
  simp only at d⊢
  split
  .rename_i t;rw[b t]at d;have g:o.wp P a W K (λ_ _ _=>False):=by
    rcases d with d|⟨_,_,_,u⟩
    .exact d
    .exact u.elim
   refine⟨λ_ _=>trivial,?_⟩;have k:(o.semAt (gn m).round a.eval)=execOp a.eval o:=by
    rcases H o s with A|A
    .subst A;exact Oper.semAt_none _ _
    .exact Oper.semAt_eq _ _ _ A
   rw[k];unfold Oper.wp at g;generalize (execOp a.eval o).run P W=x at g;cases x with
   |ok y C=>
    cases y<;>simp only[Oper.upon,Oper.uponIn]at g⊢
    all_goals first
     |exact g
     |exact g.elim
     |skip
    .refine⟨λhh=>Kg,?_⟩;have L:=(callsIn_wide (n:=0)).2 g;refine CallsIn.mono (F:=gn m) L<|λe l k=>?_;cases e with
     |returned v=>exact k
     |panicked p=>exact k.elim
     |outgrown=>let ⟨_,_,u⟩:=k;exact u.elim
    .refine⟨λhh=>Kg,?_⟩;intro p M _;let ⟨v,l,T,B⟩:=g p M;exact⟨v,l,T,stepsIn_wide.2 B⟩
   |halt y C=>
    cases y<;>simp only[Oper.upon]at g⊢<;>exact g.elim
  .rename_i t;rw[w t]at d;exact⟨λ_ _=>trivial,d⟩
def iA(P:bW)(n:Y)(k:Array a4)(i:Y)(s:V (Key×Info))(t:V (Key×ax Info))(f:Y):Prop:=
 ∀(F:fj),F.n=n->∀(Q:Exit->Act->cQ->Prop)(d:Y->Prop)(l:Kn)(g:Gh)(W:cQ)(a:Act)(K:Act->cQ->Prop),¬d f->bx F d l g W a->
  (∀kx∈s,l kx.1=ad kx.2)->(∀u m o,bx F (λp=>d p\/p=f) (bs l t) u m o->K o m)->wpOp P k Q i K a W
def vo(P:bW)(n:Y)(l:Array a4)(i:Y)(s:V (Key×Info))(t:V (Key×ax Info))(f:Y->Prop):Prop:=
 ∀(F:fj),F.n=n->∀(Q:Exit->Act->cQ->Prop)(d:Y->Prop)(m:Kn)(g:Gh)(W:cQ)(a:Act)(K:Act->cQ->Prop),(∀k,f k->¬d k)->bx F d m g W a->
  (∀kx∈s,m kx.1=ad kx.2)->(∀u o p,bx F (λk=>d k\/f k) (bs m t) u o p->K p o)->wpOp P l Q i K a W
def iA.Kh{P}{n}{f}{i}{s}{t}{m}(o:iA P n f i s t m){new:Y->Prop}(u:new m):vo P n f i s t new:=by
 intro F v Q d x g W a K k l p y;refine o F v Q d x g W a K (k m u) l p<|λA B C H=>y A B C<|H.weaken ?_;rintro id (o|rfl)
 .exact .inl o
 .exact .inr u
def rj(a:Y->Y)(i:Y):Y->Prop:=λd=>a i<=d/\d<a (i+1)
def Gx{a:Y->Y}(f:∀i,a i<=a (i+1)){i d}(g:i<=d):a i<=a d:=by
 induction g with
 |refl=>exact aO _
 |step _ k=>exact bm k<|f _
section
variable{P:bW}{ops:Array a4}{Q:Exit->Act->cQ->Prop}{F:fj}{σ:Kn}{rd:Y->V (Key×Info)}{wr:Y->V (Key×ax Info)}{nx:Y}
def WT{d}{g}{W}{a}{c:Y->Y}(s:∀i,c i<=c (i+1))(t:bx F (·<c 0) σ g W a)
  (u:∀i,i<ops.size->vo P F.n ops i (rd i) (wr i) (rj c i))
  (v:∀i,i<ops.size->∀kx∈rd i,fold wr σ (bX i) kx.1=ad kx.2)
  (x:∀g W a,bx F (·<c ops.size) (fold wr σ<|bX ops.size) g W a->Q .normal a W) (f:AM F.rd ops):(Code.region d ops ah).wpIn (gn F.rd) 0 P Q a W:=by
 refine wpIn_region ?_
 have l:∀m k,k+m=ops.size->∀g W a,bx F (·<c k) (fold wr σ<|bX k) g W a->wpOpsIn (gn F.rd) 0 P ops Q (List.range' k m) a W:=by
  intro m;induction m with
  |zero=>intro k o g W a h;simp only[jy]at o;subst o;exact x g W a h
  |succ m y=>
   intro k o g W a h
   rw[Ki,wpOpsIn_cons]
   refine P5 (f k) ?_
   refine u k O F J _ (·<c k) _ g W a _ (λd A L=>by simp only[rj]at A;omega) h (v k O)<|λB C H K=>?_
   refine y (k+1) O B C H ?_
   rw[yx,PZ]
   exact K.weaken (λd p=>by have:=s k;simp only[rj]at p;omega)
 have:=l ops.size 0 O g W a t
 rwa[<-P6]at this
inductive mC(ops:Array a4):Y->Y->Prop where
 |one {i a:Y} {o:a4} {e:Edge} (d:ops[i]? =ad o) (f:e∈o.after) (g:tL .any e=ae) (l:e.on=a):mC ops a i
 |more {i a k:Y} {o:a4} {e:Edge} (d:ops[i]? =ad o) (f:e∈o.after) (g:tL .any e=ae) (m:e.on=k) (h:mC ops a k):mC ops a i
def mC.closed{s:V Y}{i}(f:∀k∈s,∀d,mC ops d k->d∈s)(a:∀o,ops[i]? =ad o->∀n∈o.after,tL .any n=ae->n.on∈s):∀d,mC ops d i->d∈s:=by
 intro d g;cases g with
 |one l he m g=>subst g;exact a _ l _ he m
 |more l he m p h=>subst p;exact f _ (a _ l _ he m) d h
def fW(u:V (Key×ax Info)):V Key:=u.map (·.1)
def dI(u:V (Key×Info)):V Key:=u.map (·.1)
def AN{u}{k:Key}(a:oO u k=ae):k∈fW u:=by
 induction u with
 |nil=>simp[oO,aE]at a
 |cons p u d=>
  let ⟨f,x⟩:=p
  by_cases e:f=k
  .simp[fW,e]
  .have:oO u k=ae:=by simpa[oO,aE,e]using a
   have:=d this;simp only[fW,il,b9];exact .inr this
def WU{T}{g}{W}{a}{c:Y->Y}(hc:∀i,c i<=c (i+1))(kN:P.follows .mixedOrders=ae)(hZ:∀i o u,ops[i]? =ad o->u∈o.after->tL .any u=ae->u.on<i)(h0:bx F (·<c 0) σ g W a)
  (hs:∀i,i<ops.size->vo P F.n ops i (rd i) (wr i) (rj c i))
  (ht:∀i,i<ops.size->∀kx∈rd i,fold wr σ (bX i) kx.1=ad kx.2)
  (WV:∀i f,i<f->f<ops.size->∀k,k∈fW (wr i)->k∈fW (wr f)->mC ops i f)
  (P7:∀i f,i<f->f<ops.size->∀k,k∈fW (wr i)->k∈dI (rd f)->mC ops i f)
  (P8:∀i f,i<f->f<ops.size->∀k,k∈dI (rd i)->k∈fW (wr f)->mC ops i f)
  (hQ:∀g W a,bx F (·<c ops.size) (fold wr σ<|bX ops.size) g W a->Q .normal a W) (lD:AM F.rd ops):(Code.region T ops ae).wpIn (gn F.rd) 0 P Q a W:=by
 refine wpIn_region_any kN ?_
 have key:∀y d s g W a,d.size=ops.size->ri ops.size (mC ops) s->(∀i,i<ops.size->(d.getD i ae=ae↔i∈s))->y+s.length=ops.size->
   bx F (λT=>T<c 0\/∃i∈s,rj c i T) (fold wr σ s) g W a->wpAnyIn (gn F.rd) 0 P .any ops Q y d a W:=by
  intro y
  induction y with
  |zero=>
   intro d s g W a I l q w h
   have v:∀i,i<ops.size->i∈s:=by
    intro i B;refine eZ λK=>?_
    have lD:(i::s).Nodup:=AK.2 ⟨K,l.nodup⟩;have N:i::s⊆bX ops.size:=λx R=>by
     rcases b9.1 R with rfl|R
     .exact l3.2 B
     .exact l3.2<|l.lt x R
    have:=lD.length_le_of_subset N;simp at this;omega
   refine⟨?_,?_⟩
   .cases hr:WW .any ops d with
    |nil=>rfl
    |cons x xs=>
     have R:x∈WW .any ops d:=by rw[hr];exact Dh
     let ⟨S,o,ho,_⟩:=mem_ready.1 R
     have V:x<ops.size:=(gL.1 ho).1
     have:=(q x V).2<|v x V
     rw[this]at S
     cases S
   .refine hQ g W a ?_;rw[<-l.all wr σ v (λk i f P9 C A z=>WV i f P9 C k (AN A)<|AN z)];refine h.weaken<|λT t=>?_;rcases t with t|⟨i,B,hf⟩
    .exact iI t<|Gx hc<|aY _
    .have:=Gx hc (show i+1<=ops.size from l.lt i B);simp only[rj]at hf;omega
  |succ y ih=>
   intro d s g W a I l q w h
   refine⟨λhr=>?_,λi B=>?_⟩
   .exfalso;have hex:∃i,i<ops.size/\i∉s:=by
     refine eZ λgM=>?_
     have v:∀i∈bX ops.size,i∈s:=λi B=>eZ λK=>gM ⟨i,l3.1 B,K⟩
     have:=(List.nodup_range (n:=ops.size)).length_le_of_subset v;simp at this;omega
    have L:∀m,∀i,i<=m->i<ops.size->i∉s->∃i,i<ops.size/\i∉s/\∀f,f<i->f∈s:=by
     intro m;induction m with
     |zero=>intro i H U Z;exact⟨i,U,Z,λf C=>O⟩
     |succ m ihm=>
      intro i H U Z
      by_cases C:∃f,f<i/\f∉s
      .let ⟨f,Dj,vp⟩:=C;exact ihm f O O vp
      .exact⟨i,U,Z,λf z=>eZ λK=>C ⟨f,z,K⟩⟩
    let ⟨i0,P',Qa⟩:=hex;let ⟨i,B,K,M⟩:=L i0 i0 (aO _) P' Qa;have:i∈WW .any ops d:=by
     rw[mem_ready];refine⟨?_,ops[i],by simp[B],λu he D=>?_⟩
     .cases hg:d.getD i ae with
      |false=>rfl
      |true=>exact absurd ((q i B).1 hg) K
     .have H:=hZ i ops[i] u (by simp[B]) he D;have U:=(q u.on O).2<|M u.on H;have Z:u.on<d.size:=O;simpa[Z]using U
    rw[hr]at this;cases this
   .let ⟨Kj,o,ho,v⟩:=mem_ready.1 B;have A:i<ops.size:=(gL.1 ho).1;have K:i∉s:=λwV=>by rw[(q i A).2 wV]at Kj;cases Kj
    have sK:∀k∈s,∀f,mC ops f k->f∈s:=by intro k hk f C;let ⟨p,r,WY⟩:=P4 hk;rw[WY];exact eH _<|l.closed p k r WY f C
    have E:∀o',ops[i]? =ad o'->∀u∈o'.after,tL .any u=ae->u.on∈s:=by
     intro o' WZ u he D;rw[ho]at WZ;cases WZ;have H:=v u he D;have hZ:u.on<ops.size:=by
      rcases qf u.on d.size with U|U
      .omega
      .simp[Qb U]at H
     refine(q u.on hZ).1 ?_;have aid:u.on<d.size:=O;simpa[aid]using H
    have X:=mC.closed sK E;have gN:∀kx∈rd i,fold wr σ s kx.1=ad kx.2:=by intro kx b7;have hk:kx.1∈dI (rd i):=iJ.2 ⟨kx,b7,J⟩;rw[l.read wr σ kx.1 i A K X (λa b Qc D ha' l6=>WV a b Qc D _ (AN ha')<|AN l6) (λa ha hwa=>P7 a i ha A _ (AN hwa) hk) (λb D hbn hwb=>P8 i b D hbn _ hk<|AN hwb)];exact ht i A kx b7
    refine P5 (lD i) ?_;refine hs i A F J _ _ _ g W a _ (λT hf qh=>?_) h gN<|λg' W' a' h'=>?_
    .rcases qh with qh|⟨f,C,u⟩
     .have:=Gx hc<|aY i;simp only[rj]at hf;omega
     .have:i=f:=by
       simp only[rj]at hf u;rcases P3 i f with H|H|H
       .have:=Gx hc (show i+1<=f from H);omega
       .exact H
       .have:=Gx hc (show f+1<=i from H);omega
      exact K<|this▸C
    .refine ih (d.setIfInBounds i ae) (s++[i]) g' W' a' (by simp[I]) (l.snoc A K X) (λf C=>?_) b8 ?_
     .by_cases G:f=i
      .subst G;have:f<d.size:=O;simp[this]
      .rw[getD_set_ne ae (Ne.symm G),q f C];simp[G]
     .rw[PZ];refine h'.weaken<|λT t=>?_;rcases t with(t|⟨f,C,u⟩)|t
      .exact .inl t
      .exact .inr ⟨f,eH _ C,u⟩
      .exact .inr ⟨i,az,t⟩
 refine key ops.size _ [] g _ a az (ri.nil _ _) (λi B=>?_) az ?_
 .simp[B]
 .exact h0.drew.weaken<|λT t=> .inl t
end
def ja{a:Type}(t:Y):V (Y×a)->ax a
 |[]=>none
 | (k,x)::d=>if k=t then ad x else ja t d
inductive ZV where
 |b|i (k:m6)|s|f|t|p|m
def ZV.e9:ZV->aV
 | .b=> .bool ah
 | .i k=> .int k 0
 | .s=> .slice none 0 0
 | .f=> .nilFunc
 | .t=> .string ⟨⟨[]⟩⟩
 | .p=> .pointer none
 | .m=> .map none
def ZV.qi:ZV->C
 | .b=> .B ah
 | .i k=> .I k 0
 | .s=> .V<|.slice none 0 0
 | .f=> .V .nilFunc
 | .t=> .V<|.string ⟨⟨[]⟩⟩
 | .p=> .V<|.pointer none
 | .m=> .V<|.map none
def ZV.ok:ZV->aV->Bool
 | .b,.bool ah=>ae
 | .i k,.int a n=>k=a&&n=0
 | .s,.slice none 0 0=>ae
 | .f,.nilFunc=>ae
 | .t,.string ⟨⟨[]⟩⟩=>ae
 | .p,.pointer none=>ae
 | .m,.map none=>ae
 |_,_=>ah
def ZV.ok_eq:∀{a:ZV}{v:aV},a.ok v=ae->v=a.e9:=by
 intro a v h;unfold ZV.ok at h;split at h
 .rfl
 .simp only[cz,decide_eq_true_eq]at h;obtain⟨rfl,rfl⟩:=h;rfl
 .rfl
 .rfl
 .rfl
 .rfl
 .rfl
 .cases h
inductive TK where
 |int (k:m6)|bool|sl (E:Y)|st|arr (len E:Y)|str|map (K V:Y)|other
structure TI where
 kind:TK
 size:Y
 bytes:Y
 fields:V (Y×Y×Bool)
 zero:V ZV
abbrev TT:=V<|Y×TI
def TI.agg(t:TI):Bool:=match t.kind with| .st=>ae| .arr _ _=>ae|_=>ah
def vq(P:bW)(t:dX):ax Bool:=match P.underlying t with
 |some (.struct _)=>ad ae
 |some (.array _ _)=>ad ae
 |some _=>ad ah
 |none=>none
def Dk:V ZV->V aV->Bool
 |[],[]=>ae
 |a::d,v::vs=>a.ok v&&Dk d vs
 |_,_=>ah
def Qd:∀{d:V ZV}{vs:V aV},Dk d vs=ae->vs=d.map ZV.e9
 |[],[],_=>rfl
 |_::_,_::_,a=>by simp only[Dk,cz]at a;simp[ZV.ok_eq a.1,Qd a.2]
 |[],_::_,a=>by simp[Dk]at a
 |_::_,[],a=>by simp[Dk]at a
def Kk:aV->Bool
 | .agg _=>ae
 |_=>ah
def aij{v}{l}{d}(h:(Kk v==d)=ae)(a:v.cells.toList=l):v=sD d l:=by
 have f:Kk v=d:=et;subst f;cases v with
 |agg vs=>
  simp only[Value.cells]at a
  subst a
  simp[Kk,sD]
 |_=>
  simp only[Value.cells]at a
  subst a
  rfl
def sL(P:bW):V (Y×Y×Bool)->V Field->Bool
 |[],[]=>ae
 | (off,sz,a)::d,f::fs=>f.offset=off&&((P.info? f.type).map (·.size)==ad sz)&&sz≠0&&(vq P f.type==ad a)&&sL P d fs
 |_,_=>ah
def Qe(P:bW)(t:Y)(a:TI):Bool:=
 match P.info? t with
 |none=>ah
 |some i=>i.size=a.size&&Z a.zero=a.size&&i.bytes=a.bytes&&(match i.zero with|some z=>Dk a.zero z.cells.toList&&(Kk z==a.agg)|none=>ah)&&
  match a.kind,P.underlying t with
  | .int k,ad (.int l)=>k=l
  | .bool,ad .bool=>ae
  | .sl E,ad (.slice m)=>E=m
  | .st,ad (.struct fs)=>sL P a.fields fs.toList
  | .arr n e,ad (.array f g)=>n=f&&e=g
  | .str,ad .string=>ae
  | .map n e,ad (.map f g)=>n=f&&e=g
  | .other,ad d=>(match d with| .struct _=>ah| .array _ _=>ah|_=>ae)
  |_,_=>ah
structure W0(P:bW)(t:Y)(a:TI):Prop where
 W4:a.zero.length=a.size
 info:∃i,P.info? t=ad i/\i.size=a.size/\i.bytes=a.bytes/\∃z,i.zero=ad z/\z.cells.toList=a.zero.map ZV.e9
 agg:vq P t=ad a.agg
 zag:∀i z,P.info? t=ad i->i.zero=ad z->z=sD a.agg (a.zero.map ZV.e9)
 kind:match a.kind with
  | .int k=>P.underlying t=ad (.int k)
  | .bool=>P.underlying t=ad .bool
  | .sl E=>P.underlying t=ad (.slice E)
  | .st=>∃fs,P.underlying t=ad (.struct fs)/\sL P a.fields fs.toList=ae
  | .arr n e=>P.underlying t=ad (.array n e)
  | .str=>P.underlying t=ad .string
  | .map n e=>P.underlying t=ad (.map n e)
  | .other=>True
def ail{P}{t}{k}(g:Qe P t k=ae):W0 P t k:=by
 unfold Qe at g;cases m:P.info? t with
 |none=>rw[m]at g;simp at g
 |some i=>
  rw[m]at g
  simp only[cz,decide_eq_true_eq]at g
  let ⟨⟨⟨⟨s,u⟩,h2⟩,f⟩,a⟩:=g
  have n:∃z,i.zero=ad z/\z.cells.toList=k.zero.map ZV.e9:=by
   cases n:i.zero with
   |none=>rw[n]at f;simp at f
   |some z=>rw[n]at f;simp only[cz]at f;exact⟨z,J,Qd f.1⟩
  refine⟨u,⟨i,m,s,h2,n⟩,?_,?_,?_⟩
  rotate_left
  .intro y z l o;rw[m]at l;cases l;rw[o]at f;simp only[cz]at f;exact aij f.2<|Qd f.1
  rotate_right
  .unfold vq TI.agg;cases p:k.kind<;>rw[p]at a<;>cases hu:P.underlying t<;>rw[hu]at a<;>try(simp at a;done)
   all_goals (rename_i d;cases d<;>first|rfl| (simp at a;done))
  .cases p:k.kind<;>rw[p]at a<;>cases hu:P.underlying t<;>rw[hu]at a<;>try(simp at a;done)
   all_goals (rename_i d;cases d<;>first|trivial| (simp at a;done)| (simp at a;subst a;rfl)| (simp at a;let ⟨v,x⟩:=a;subst v x;rfl)|exact⟨_,rfl,a⟩)
def cq(P:bW):TT->Bool
 |[]=>ae
 | (t,a)::d=>Qe P t a&&cq P d
def eS{P:bW}:∀{g:TT},cq P g=ae->∀{t d},ja t g=ad d->W0 P t d
 |[],_,_,_,a=>by simp[ja]at a
 | (k,x)::l,f,t,d,a=>by
  simp only[cq,cz]at f;simp only[ja]at a;split at a
  .rename_i i;subst i;cases a;exact ail f.1
  .exact eS f.2 a
structure St where
 sl:V (Y×AV)
 mem:V (Y×aG)
 nx:Y
 gd:V (Y×Bool):=[]
def St.kn(a:St):Kn
 | .s t=>(ja t a.sl).map .v
 | .m id=>(ja id a.mem).map .b
def Dm:aV->AV
 | .bool a=> .c<|.B a
 | .int k n=> .c<|.I k n
 |v=> .c<|.V v
def St.ev(a:St):Operand->ax AV
 | .tmp t=>ja t a.sl
 | .const v=>ad<|Dm v
 | .func f=>ad<|.c<|.V<|.func (.func f) #[] #[]
 | .global _=>none
def cJ(a:St):Operand->V (Key×Info)
 | .tmp t=>match ja t a.sl with
  |some v=>[(.s t,.v v)]
  |none=>[]
 |_=>[]
def aim g v:bu g (Dm v) v:=by cases v<;>exact J
def dA{l}{d:Y->Prop}{k}{g}{W}{a}(m:bx l d k g W a) st x v(i:st.ev x=ad v)
  (n:∀kx∈cJ st x,k kx.1=ad kx.2):bu g v (a.eval x):=by
 cases x with
 |tmp t=>
  simp only[St.ev]at i
  have:=n (.s t,.v v) (by simp[cJ,i])
  exact m.eY t v this
 |const u=>simp only[St.ev,ar]at i;subst i;exact aim g u
 |func f=>simp only[St.ev,ar]at i;subst i;rfl
 |global _=>simp[St.ev]at i
def sM{n}{d:Y->Prop}{m}{g}{W}{a}(o:bx n d m g W a) st x v(k:st.ev x=ad v)
  (p:∀kx∈cJ st x,m kx.1=ad kx.2):∀l∈v.ak,d l:=by
 cases x with
 |tmp t=>
  simp only[St.ev]at k
  have:=p (.s t,.v v) (by simp[cJ,k])
  exact λl i=>o.ak _ _ this l i
 |const u=>simp only[St.ev,ar]at k;subst k;intro l i;cases u<;>simp[Dm,AV.ak,C.ak]at i
 |func f=>simp only[St.ev,ar]at k;subst k;intro l i;simp[AV.ak,C.ak]at i
 |global _=>simp[St.ev]at k
def sO{P}{m}{i}{o:a4}{d:Y}(ho:m[i]? =ad o)(hg:o.guard=none)(hd:o.dst=ad d){n}(dz:d<n)
 rd x new
  (L:∀(M:fj)(f:Y->Prop)(H:Kn)(g:Gh)(W:cQ)(a:Act),bx M f H g W a->(∀kx∈rd,H kx.1=ad kx.2)->
   (∀p∈x.ak,f p)/\∃v,(execOp a.eval o).run P W= .ok (.value v) W/\bu g x v):
  iA P n m i rd [(.s d,ad<|.v x)] new:=by
 intro M kO Q f H g W a K A aR T j
 let ⟨hm,v,B,C⟩:=L M f H g W a aR T
 unfold wpOp
 simp only[ho,Region.wanted,hg,cj]
 refine .inl ?_
 unfold Oper.wp
 rw[B]
 simp only[Oper.upon,hd]
 have U:d<a.tmps.size:=mD
 refine j g W _<|aR.step (chg:=λ_=>False) (g':=g) (W':=W) ⟨⟨cL.refl _,λ_ _=>rfl⟩,λ_ _ _=>rfl,aR.sub,aO _,λ_ _ _=>rfl,J,J,J⟩ _ new A mE aR.defers ?_ (λ_ L=>L.elim) ?_ ?_ ?_ ?_
 .intro t l;have X:d≠t:=by intro e;subst e;simp[aE]at l
  simp[Act.put,lE X]
 .intro t u l;simp only[aE]at l;split at l
  .rename_i e;simp only[Key.s.injEq]at e;simp only[ar,Info.v.injEq]at l;subst e;subst l;simpa[Act.put,U]using C
  .simp at l
 .intro p b l;simp[aE]at l
 .intro k y l;simp only[aE]at l;split at l
  .simp only[ar]at l;subst l;exact λp c=> .inl<|hm p c
  .simp at l
 .intro p y l;simp[aE]at l
def gT(n:G):Prop:= -9223372036854775808<=n/\n<=9223372036854775807
inductive Pr where
 |t
 |i64 (n:G)
 |AO (b:G)
 |le (a b:G)
 |lt (a b:G)
 |AP (a b:Y)
 |tM (a b:Bool)
 |and (p q:Pr)
def Pr.h:Pr->Prop
 | .t=>True
 | .i64 n=>gT n
 | .AO d=>d≠0
 | .le a d=>a<=d
 | .lt a d=>a<d
 | .AP a d=>a<d
 | .tM a d=>a=d
 | .and p f=>p.h/\f.h
def Pr.b:Pr->Bool
 | .t=>ae
 | .i64 n=>decide (-9223372036854775808<=n)&&decide (n<=9223372036854775807)
 | .AO d=> !decide (d=0)
 | .le a d=>decide<|a<=d
 | .lt a d=>decide<|a<d
 | .AP a d=>Nat.blt a d
 | .tM a d=>a==d
 | .and p f=>p.b&&f.b
def Pr.Gy:∀{p:Pr},p.b=ae->p.h
 | .t,_=>trivial
 | .i64 _,a=>by simpa[Pr.b,Pr.h,gT]using a
 | .AO _,a=>by simpa[Pr.b,Pr.h]using a
 | .le _ _,a=>by simpa[Pr.b,Pr.h]using a
 | .lt _ _,a=>by simpa[Pr.b,Pr.h]using a
 | .AP _ _,a=>c8 a
 | .tM _ _,a=>by simpa[Pr.b,Pr.h]using a
 | .and p d,a=>by simp only[Pr.b,cz]at a;exact⟨Pr.Gy a.1,Pr.Gy a.2⟩
def Pr.an:Pr->Pr->Pr
 | .t,a=>a
 |p,.t=>p
 |p,a=> .and p a
def Pr.Gz{p d:Pr}(a:(p.an d).h):p.h/\d.h:=by
 unfold Pr.an at a;split at a
 .exact⟨aX,a⟩
 .exact⟨a,aX⟩
 .exact a
instance:CoeSort Pr Prop:=⟨Pr.h⟩
def num(k:m6)(n:G):C×Pr:=match k with
 | .i64=>(.I .i64 n,.i64 n)
 |k=>(.I k<|k.wrap n,.t)
def Dp k n(a:(num k n).2.h) g:c7 g (num k n).1 (.int k<|k.wrap n):=by cases k<;>first|exact rfl| (show Value.int .i64 _=_;rw[Go.IntWalk.i64_in n a])
def GA(op:BinOp)(k:m6)(a d:G):ax (C×Pr):=match op with
 | .add=>ad<|num k<|a+d
 | .sub=>ad<|num k<|a-d
 | .mul=>ad<|num k<|a*d
 | .quo=>ad ((num k<|a.tdiv d).1,.and (.AO d) (num k<|a.tdiv d).2)
 | .rem=>ad (.I k<|a.tmod d,.AO d)
 | .and=>ad (.I k<|k.wrap (jm k.bits a&&& jm k.bits d).toNat,.t)
 | .or=>ad (.I k<|k.wrap (jm k.bits a|||jm k.bits d).toNat,.t)
 | .eql=>ad (.B<|a==d,.t)
 | .neq=>ad (.B<|a !=d,.t)
 | .lss=>ad (.B<|decide<|a<d,.t)
 | .leq=>ad (.B<|decide<|a<=d,.t)
 | .gtr=>ad (.B<|decide<|a>d,.t)
 | .geq=>ad (.B<|decide<|a>=d,.t)
 |_=>none
def Dq(op:BinOp)(k:m6)(a d:G):ax (C×Pr):=match op with
 | .shl=>ad (.I k<|k.wrap<|a*2^(min (af d) k.bits),.le 0 d)
 | .shr=>ad (.I k<|a.fdiv<|2^(min (af d) k.bits),.le 0 d)
 |_=>none
def Ko(op:BinOp):C->C->ax (C×Pr)
 | .I k a,.I f d=>match op with
  | .shl=>Dq .shl k a d
  | .shr=>Dq .shr k a d
  |op=>if k=f then GA op k a d else none
 | .B a,.B d=>match op with
  | .eql=>ad (.B<|a==d,.t)
  | .neq=>ad (.B<|a !=d,.t)
  |_=>none
 |_,_=>none
def ain{P}{op:BinOp}{k}{a d}{m}{pre}(f:GA op k a d=ad (m,pre))(l:pre) g t W:
  ∃v,(binOp op t (.int k a)<|.int k d).run P W= .ok v W/\c7 g m v:=by
 cases op<;>simp only[GA,ar,bM,reduceCtorEq]at f
 case add=>have i:num k (a+d)=(m,pre):=f;refine⟨.int k<|k.wrap<|a+d,by simp[binOp,Qf,pure],?_⟩;have:=Dp k (a+d) (by rw[i];exact l) g;rw[i]at this;exact this
 case sub=>have i:num k (a-d)=(m,pre):=f;refine⟨.int k<|k.wrap<|a-d,by simp[binOp,Qf,pure],?_⟩;have:=Dp k (a-d) (by rw[i];exact l) g;rw[i]at this;exact this
 case mul=>have i:num k (a*d)=(m,pre):=f;refine⟨.int k<|k.wrap<|a*d,by simp[binOp,Qf,pure],?_⟩;have:=Dp k (a*d) (by rw[i];exact l) g;rw[i]at this;exact this
 case quo=>
  obtain⟨rfl,rfl⟩:=f
  exact⟨.int k<|k.wrap<|a.tdiv d,by simp[binOp,Op.intDiv,show d≠0 from(show d≠0/\_ from l).1,pure],Dp k _ (show d≠0/\_ from l).2 g⟩
 case rem=>
  obtain⟨rfl,rfl⟩:=f
  exact⟨.int k<|a.tmod d,by simp[binOp,Op.intDiv,show d≠0 from l,pure],J⟩
 case and=>obtain⟨rfl,rfl⟩:=f;exact⟨_,by simp[binOp,Op.intBits,pure],J⟩
 case or=>obtain⟨rfl,rfl⟩:=f;exact⟨_,by simp[binOp,Op.intBits,pure],J⟩
 case eql=>obtain⟨rfl,rfl⟩:=f;exact⟨_,Dr,J⟩
 case neq=>obtain⟨rfl,rfl⟩:=f;exact⟨_,Dr,J⟩
 case lss=>obtain⟨rfl,rfl⟩:=f;exact⟨_,Dr,J⟩
 case leq=>obtain⟨rfl,rfl⟩:=f;exact⟨_,Dr,J⟩
 case gtr=>obtain⟨rfl,rfl⟩:=f;exact⟨_,Dr,J⟩
 case geq=>obtain⟨rfl,rfl⟩:=f;exact⟨_,Dr,J⟩
def run_equal_bool{P}{t}(f:P.underlying t=ad .bool) a d W:(Op.equal t (.bool a)<|.bool d).run P W= .ok (a==d) W:=by rw[Op.equal,show Op.maxDepth=9999+1 from J,Op.equalIn];simp[run_underlying f]
def W5(a:TT)(t:Y):Bool:=match ja t a with
 |some d=>(match d.kind with| .bool=>ae|_=>ah)
 |none=>ah
def Ds(d:TT)(op:BinOp)(t:Y)(x y:C):ax (C×Pr):=match x,y with
 | .B a,.B b=>if W5 d t then Ko op (.B a) (.B b)else none
 |x,y=>Ko op x y
def aio{P}{m}(n:cq P m=ae){op:BinOp}{t:dX}{x y}{A}{pre}(d:Ds m op t x y=ad (A,pre))(o:pre) g{p s}(i:c7 g x p)(l:c7 g y s) W
 H L:∃v,(do eqGuard op t H L p s;binOp op t p s:Sem aV).run P W= .ok v W/\c7 g A v:=by
 cases x<;>cases y<;>simp only[Ds,Ko,reduceCtorEq]at d
 case B.B a b=>
  split at d
  .rename_i f;have C:P.underlying t=ad .bool:=by
    unfold W5 at f;cases hl:ja t m with
    |none=>rw[hl]at f;simp at f
    |some K=>
     rw[hl]at f
     have:=(eS n hl).kind
     cases M:K.kind<;>simp only[M]at f this<;>first|exact this| (simp at f)
   simp only[c7]at i l;subst i l;cases op<;>simp only[ar,bM,reduceCtorEq]at d
   .obtain⟨rfl,rfl⟩:=d;exact⟨.bool<|a==b,by simp[eqGuard,binOp,run_equal_bool C],J⟩
   .obtain⟨rfl,rfl⟩:=d;exact⟨.bool<|a !=b,by simp[eqGuard,binOp,run_equal_bool C,bne],J⟩
  .simp at d
 case I.I k a u b=>
  simp only[c7]at i l
  subst i l
  have Q:∀op,(do eqGuard op t H L (.int k a) (.int u b);binOp op t (.int k a) (.int u b):Sem aV).run P W=(binOp op t (.int k a)<|.int u b).run P W:=by intro op;cases op<;>simp[eqGuard]
  rw[Q]
  cases op
  case shl=>
   simp only[Dq,ar,bM]at d
   obtain⟨rfl,rfl⟩:=d
   exact⟨_,by simp[binOp,Op.shift,Int.not_lt.2 (show(0:G)<=_ from o),pure],J⟩
  case shr=>
   simp only[Dq,ar,bM]at d
   obtain⟨rfl,rfl⟩:=d
   exact⟨_,by simp[binOp,Op.shift,Int.not_lt.2 (show(0:G)<=_ from o),pure],J⟩
  all_goals
   simp only at d
   split at d
   .rename_i e;subst e;exact ain d o g t W
   .simp at d
def Kq{P}{t}{f}(a:vq P t=ad f) W:(isAgg t).run P W= .ok f W:=by
 unfold vq at a;cases hu:P.underlying t with
 |none=>rw[hu]at a;simp at a
 |some d=>
  rw[hu]at a
  simp only[isAgg,dn,run_underlying hu,dx]
  cases d<;>simp at a<;>subst a<;>rfl
def run_sizeOf{P}{t}{i:TypeInfo}(a:P.info? t=ad i) W:(sizeOf t).run P W= .ok i.size W:=by simp[sizeOf,typeInfo,a]
def Kt{P:bW}:∀{l:V (Y×Y×Bool)}{n:V Field},sL P l n=ae->∀{k:Y}{a sz:Y}{p:Bool},l[k]? =ad (a,sz,p)->
  ∃f,n[k]? =ad f/\f.offset=a/\(∃i,P.info? f.type=ad i/\i.size=sz)/\sz≠0/\vq P f.type=ad p
 |[],_,_,_,_,_,_,d=>by simp at d
 | (o,s,g)::u,[],m,_,_,_,_,_=>by simp[sL]at m
 | (o,s,g)::u,f::n,m,0,a,sz,p,d=>by
  simp only[sL,cz,decide_eq_true_eq,beq_iff_eq]at m;simp only[m9,ar,bM]at d;obtain⟨rfl,rfl,rfl⟩:=d;let ⟨⟨⟨⟨t,h2⟩,h3⟩,x⟩,_⟩:=m;refine⟨f,az,t,?_,AQ,x⟩;cases v:P.info? f.type with
  |none=>rw[v]at h2;simp at h2
  |some i=>rw[v]at h2;simp at h2;exact⟨i,J,h2⟩
 | (o,s,g)::u,f::n,m,k+1,a,sz,p,d=>by simp only[sL,cz]at m;simp only[wW]at d;let ⟨y,t,h2⟩:=Kt m.2 d;exact⟨y,by simpa using t,h2⟩
def nJ(f:V C)(d sz:Y)(g:Bool):ax AV:=
 if g then(if d+sz<=Z f then ad (.a<|(aA d f).take sz)else none)else(f[d]?).map .c
def aW.get{g:Gh}:∀{i:V C}{vs:V aV},aW g i vs->∀{k:Y}{d:C},i[k]? =ad d->∃v,vs[k]? =ad v/\c7 g d v
 |[],_,_,_,_,a=>by simp at a
 |_::_,_,f,0,d,a=>by obtain⟨v,r,rfl,l,_⟩:=f;simp at a;subst a;exact⟨v,az,l⟩
 |_::_,_,f,k+1,d,a=>by obtain⟨v,r,rfl,_,m⟩:=f;simp at a;let ⟨u,h3,n⟩:=aW.get m a;exact⟨u,AQ,n⟩
def aW.drop{g:Gh}:∀{d:V C}{vs:V aV},aW g d vs->∀k,aW g (aA k d) (aA k vs)
 |[],_,a,k=>by simp only[aW]at a;subst a;simp[aW]
 |_::_,_,a,0=>by simpa using a
 |_::_,_,a,k+1=>by obtain⟨v,i,rfl,_,f⟩:=a;simpa using aW.drop f k
def aW.take{g:Gh}:∀{d:V C}{vs:V aV},aW g d vs->∀k,aW g (c k d) (c k vs)
 |[],_,a,k=>by simp only[aW]at a;subst a;simp[aW]
 |_::_,_,_,0=>by simp[aW]
 |_::_,_,a,k+1=>by obtain⟨v,l,rfl,f,i⟩:=a;simpa using⟨v,_,J,f,aW.take i k⟩
def GB cs k:∀a∈bV (aA k cs),a∈bV cs:=by
 induction cs generalizing k with
 |nil=>simp
 |cons c cs d=>cases k with
  |zero=>simp
  |succ k=>intro a h;simp only[List.drop_succ_cons]at h;simp only[bV,bg];exact .inr<|d k a h
def Dt cs k:∀a∈bV (c k cs),a∈bV cs:=by
 induction cs generalizing k with
 |nil=>simp
 |cons f cs d=>cases k with
  |zero=>simp[bV]
  |succ k=>
   intro a h
   simp only[List.take_succ_cons,bV,bg]at h⊢
   exact h.imp (λx=>x)<|d k a
def aip{g}{k:Y}{l}(f:g[k]? =ad l):∀i∈l.ak,i∈bV g:=by
 induction g generalizing k with
 |nil=>simp at f
 |cons d g m=>cases k with
  |zero=>simp at f;subst f;intro i a;simp[bV,a]
  |succ k=>simp at f;intro i a;simp only[bV,bg];exact .inr<|m f i a
def W6{P}{g}{m}{vs}(n:aW g m vs){a sz}{l}{x}(d:nJ m a sz l=ad x){t}(f:vq P t=ad l)
  {i:TypeInfo} (o:P.info? t=ad i) (p:i.size=sz) W:∃v,(part t vs.toArray a).run P W= .ok v W/\bu g x v:=by
 unfold nJ at d
 cases l with
 |true=>
  simp only[cj]at d
  split at d
  .rename_i s;simp only[ar]at d;subst d;refine⟨.agg<|vs.toArray.extract a<|a+sz,?_,⟨(aA a vs).take sz,?_,(n.drop a).take sz⟩⟩
   .simp only[part,dn,Kq f,dx,cj,run_sizeOf o,p];rfl
   .congr 1;simp[List.extract_toArray,List.extract_eq_take_drop]
  .simp at d
 |false=>
  simp only[iB,bN,cG]at d
  obtain⟨c,u,rfl⟩:=d
  let ⟨v,y,k⟩:=n.get u
  refine⟨v,?_,k⟩
  simp only[part,dn,Kq f,dx,iB,bN,vr,y];rfl
def yy{i}{f sz}{k}{x}(a:nJ i f sz k=ad x):∀d∈x.ak,d∈bV i:=by
 unfold nJ at a;cases k with
 |true=>
  simp only[cj]at a
  split at a
  .simp only[ar]at a;subst a;exact λd g=>GB _ _ d<|Dt _ _ d g
  .simp at a
 |false=>
  simp only[iB,bN,cG]at a
  obtain⟨c,l,rfl⟩:=a
  exact aip l
def W7(a x y:ax AV):ax (AV×Pr):=match a with
 |some (.c<|.B b)=>match x,y with
  |some (.c<|.B p),ad (.c<|.B q)=>ad (.c<|.B<|cond b p q,.t)
  |some v,none=>ad (v,.tM b ae)
  |none,ad v=>ad (v,.tM b ah)
  |some v,ad (.c .any)=>ad (v,.tM b ae)
  |some (.c .any),ad v=>ad (v,.tM b ah)
  |_,_=>none
 |_=>none
def Qg(op:UnOp)(x:AV):ax (AV×Pr):=match op,x with
 | .not,.c (.B b)=>ad (.c<|.B<|!b,.t)
 | .neg,.c (.I k n)=>ad (.c (num k<|0-n).1,(num k<|0-n).2)
 |_,_=>none
def Qh(f:TT)(a d:Y)(x:AV):ax (AV×Pr):=match ja a f,ja d f,x with
 |some _,ad g,.c (.I _ n)=>(match g.kind with
  | .int k=>ad (.c (num k n).1,(num k n).2)
  |_=>none)
 |_,_,_=>none
def Qi(g:TT)(t:Y)(x:AV)(f:Y):ax AV:=match x,ja t g with
 | .a cs,ad d=>(match d.kind,d.fields[f]? with
  | .st,ad (off,sz,i)=>nJ cs off sz i
  |_,_=>none)
 |_,_=>none
def Ku(d:TT)(t:Y)(x:AV)(f:Y):ax AV:=match ja t d with
 |some a=>(match a.kind,a.fields[f]? with
  | .st,ad (off,_,_)=>(match x with
   | .c (.P id o)=>ad<|.c<|.P id<|o+off
   | .c (.E T e o)=>ad<|.c<|.E T e<|o+off
   | .c (.Y id n i o)=>ad<|.c<|.Y id n i<|o+off
   |_=>none)
  |_,_=>none)
 |none=>none
def Kv(x:AV)(k:Y):ax AV:=match x with
 | .t d=>(match d[k]? with
  |some (ae,cs)=>ad<|.a cs
  |some (ah,[c])=>ad<|.c c
  |_=>none)
 |_=>none
def tN(a:TT)(t:Y)(n:Y):Bool:=match ja t a with
 |some d=>(match d.kind with
  | .sl e=>(match ja e a with|some f=>f.size=n|none=>ah)
  |_=>ah)
 |none=>ah
def Kw(a:TT)(t:Y):ax (Y×Y):=match ja t a with
 |some d=>(match d.kind with
  | .arr n e=>(match ja e a with
   |some f=>ad (n,f.size)
   |none=>none)
  |_=>none)
 |none=>none
def Kx(a:TT)(t:Y)(x i:AV):ax (AV×Pr):=match x,i with
 | .c (.S T xs),.c (.I _ k)=>if tN a t T.n then ad (.c<|.E T (E xs (af k) T.dE) 0,.and (.le 0 k)<|.lt k<|Z xs)else none
 | .c (.P id off),.c (.I _ k)=>(match Kw a t with
  |some (n,sz)=>ad (.c<|.P id<|off+af k*sz,.and (.le 0 k)<|.lt k n)
  |none=>none)
 | .c (.E T e off),.c (.I _ k)=>(match Kw a t with
  |some (n,sz)=>ad (.c<|.E T e<|off+af k*sz,.and (.le 0 k)<|.lt k n)
  |none=>none)
 |_,_=>none
def GC(a:TT)(t:Y)(x:AV):ax AV:=match ja t a with
 |some d=>(match d.kind with
  | .sl _=>(match x with
   | .c (.S _ xs)=>ad<|.c<|.I .i64<|Z xs
   | .c (.V<|.slice none 0 0)=>ad<|.c<|.I .i64 0
   | .c (.W _ _ len)=>ad<|.c<|.I .i64 len
   |_=>none)
  |_=>none)
 |none=>none
def Ky(n:Y):ax AV->Y->ax (Y×Pr)
 |none,d=>ad (d,.t)
 |some (.c<|.I _ k),_=>ad (af k,.and (.le 0 k)<|.le k n)
 |_,_=>none
def Qj(a:TT)(t:Y)(x:AV)(d f:ax AV):ax (AV×Pr):=match x with
 | .c (.S T xs)=>if tN a t T.n then
   (match Ky (Z xs) f (Z xs)with
   |some (h,p)=>(match Ky h d 0 with
    |some (l,q)=>ad (.c<|.S T<|(c h xs).drop l,.and p q)
    |none=>none)
   |none=>none)
  else none
 |_=>none
def Kz(f:Bool):V AV->ax AV
 |[.c (.I k a),.c<|.I g d]=>if k=g then ad (.c<|.I k (if f then(if d>a then d else a)else(if d<a then d else a)))else none
 |_=>none
def yz(a:St):ax Operand->ax (ax AV)
 |none=>ad none
 |some x=>(a.ev x).map ad
def tO(m:TT)(g:St):Op->ax (AV×Pr)
 | .move x=>(match g.ev x with|some v=>ad (v,.t)|none=>none)
 | .assign x=>(match g.ev x with|some v=>ad (v,.t)|none=>none)
 | .pick o x y=>W7 (g.ev o) (g.ev x)<|g.ev y
 | .binOp op t x y _=>(match g.ev x,g.ev y with
  |some (.c a),ad (.c B)=>(match Ds m op t a B with|some (o,p)=>ad (.c o,p)|none=>none)
  |_,_=>none)
 | .unOp op _ x=>(match g.ev x with|some v=>Qg op v|none=>none)
 | .convert s d x=>(match g.ev x with|some v=>Qh m s d v|none=>none)
 | .field t x f=>(match g.ev x with|some v=>(match Qi m t v f with|some u=>ad (u,.t)|none=>none)|none=>none)
 | .fieldAddr t x f=>(match g.ev x with|some v=>(match Ku m t v f with|some u=>ad (u,.t)|none=>none)|none=>none)
 | .extract x k=>(match g.ev x with|some v=>(match Kv v k with|some u=>ad (u,.t)|none=>none)|none=>none)
 | .indexAddr t x i=>(match g.ev x,g.ev i with|some v,ad n=>Kx m t v n|_,_=>none)
 | .slice t x H L none=>(match g.ev x,yz g H,yz g L with|some v,ad l,ad M=>Qj m t v l M|_,_,_=>none)
 | .call ⟨.builtin .len,args,A⟩=>(match args.toList,A.toList with
  |[x],[t]=>(match g.ev x with|some v=>(match GC m t v with|some u=>ad (u,.t)|none=>none)|none=>none)
  |_,_=>none)
 | .call ⟨.builtin .max,args,_⟩=>(match args.toList with
  |[x,y]=>(match g.ev x,g.ev y with|some v,ad n=>(match Kz ae [v,n]with|some u=>ad (u,.t)|none=>none)|_,_=>none)
  |_=>none)
 | .call ⟨.builtin .min,args,_⟩=>(match args.toList with
  |[x,y]=>(match g.ev x,g.ev y with|some v,ad n=>(match Kz ah [v,n]with|some u=>ad (u,.t)|none=>none)|_,_=>none)
  |_=>none)
 |_=>none
def oo(a:St)(op:Op):V (Key×Info):=op.operands.toList.flatMap<|cJ a
section
variable{P:bW}{tt:TT}{g:Gh}{W:cQ}
def aiq{op:UnOp}{x}{y}{p}(a:Qg op x=ad (y,p))(l:p){v}(d:bu g x v):(∃u,(Op.unary op v).run P W= .ok u W/\bu g y u)/\∀i∈y.ak,i∈x.ak:=by
 unfold Qg at a;split at a
 .simp only[ar,bM]at a;obtain⟨rfl,rfl⟩:=a;simp only[bu,c7]at d;subst d;exact⟨⟨_,by simp[Op.unary,pure],J⟩,rk⟩
 .rename_i k n;simp only[ar,bM]at a;obtain⟨rfl,rfl⟩:=a;simp only[bu,c7]at d;subst d;refine⟨⟨.int k<|k.wrap<|0-n,by simp[Op.unary,Qf,pure],Dp k _ l g⟩,?_⟩;intro i f;cases k<;>simp[num,AV.ak,C.ak]at f
 .simp at a
def GD k n:(num k n).1.ak=[]:=by cases k<;>rfl
def air(f:cq P tt=ae){s d}{x y}{p}(a:Qh tt s d x=ad (y,p))(t:p){v}(m:bu g x v):(∃u,(convert s d v).run P W= .ok u W/\bu g y u)/\y.ak=[]:=by
 unfold Qh at a;split at a
 .rename_i A K L n B C;split at a
  .rename_i k H;simp only[ar,bM]at a;obtain⟨rfl,rfl⟩:=a;simp only[bu,c7]at m;subst m;have o:=(eS f C).kind;rw[H]at o;have l:∃i,P.underlying s=ad i:=by
    have:=(eS f B).agg;unfold vq at this;cases hu:P.underlying s with
    |none=>rw[hu]at this;simp at this
    |some i=>exact⟨i,J⟩
   let ⟨i,l⟩:=l;refine⟨⟨.int k<|k.wrap n,?_,Dp k n t g⟩,GD k n⟩;simp only[convert,dn,run_underlying l,run_underlying o,dx];cases i<;>rfl
  .simp at a
 .simp at a
def ais(m:cq P tt=ae){t f}{x y}(a:Qi tt t x f=ad y){v}(B:bu g x v):(∃u,(Instr.field t v f).run P W= .ok u W/\bu g y u)/\∀H∈y.ak,H∈x.ak:=by
 unfold Qi at a;split at a
 .rename_i X b C;split at a
  .rename_i K sz c L M;have A:=(eS m C).kind;rw[L]at A;let ⟨fs,hu,n⟩:=A;obtain⟨Q,o,rfl,⟨i,T,p⟩,_,s⟩:=Kt n M;obtain⟨vs,rfl,U⟩:=B;let ⟨u,d,k⟩:=W6 (W:=W) U a s T p;refine⟨⟨u,?_,k⟩,yy a⟩;have l:fs[f]? =ad Q:=by simpa using o
   simp only[Instr.field,dn,run_underlying hu,dx,l,asAgg];simpa using d
  .simp at a
 .simp at a
def lF a o n:(Addr.mk a o none).add n=⟨a,o+n,none⟩:=by
 unfold Addr.add;split
 .rename_i e;subst e;rfl
 .rfl
def ait(m:cq P tt=ae){t f}{x y}(a:Ku tt t x f=ad y){v}(n:bu g x v):(∃u,(W8 t v f).run P W= .ok u W/\bu g y u)/\∀M∈y.ak,M∈x.ak:=by
 unfold Ku at a;split at a
 .rename_i z Q;split at a
  .rename_i T sz D U X;have K:=(eS m Q).kind;rw[U]at K;let ⟨fs,hu,p⟩:=K;obtain⟨L,s,rfl,⟨i,e,A⟩,B,j⟩:=Kt p X;have k:fs[f]? =ad L:=by simpa using s
   have d:∀b o,(W8 t (.pointer<|ad ⟨b,o,none⟩) f).run P W= .ok (.pointer<|ad ⟨b,o+L.offset,none⟩) W:=by intro b o;simp only[W8,dn,run_underlying hu,dx,k,Du,fieldPlace,run_sizeOf e];simp[A,B,lF]
   split at a
   .simp only[ar]at a;subst a;obtain⟨b,H,rfl⟩:=n;exact⟨⟨_,d _ _,b,H,J⟩,rk⟩
   .simp only[ar]at a;subst a;obtain⟨b,o,q,rfl,r,w⟩:=n;exact⟨⟨_,d _ _,b,o,q,by simp[rq],r,w⟩,rk⟩
   .simp only[ar]at a;subst a;obtain⟨b,l,c,H,rfl⟩:=n;exact⟨⟨_,d _ _,b,l,c,H,by simp[rq]⟩,rk⟩
   .simp at a
  .simp at a
 .simp at a
def fJ.get{g:Gh}:∀{f:V (Bool×V C)}{vs:V aV},fJ g f vs->∀{k:Y}{s:Bool×V C},f[k]? =ad s->∃v,vs[k]? =ad v/\AF g s v
 |[],_,_,_,_,a=>by simp at a
 |_::_,_,d,0,i,a=>by obtain⟨v,r,rfl,l,_⟩:=d;simp at a;subst a;exact⟨v,az,l⟩
 |_::_,_,d,k+1,i,a=>by obtain⟨v,r,rfl,_,m⟩:=d;simp at a;let ⟨u,h3,n⟩:=fJ.get m a;exact⟨u,AQ,n⟩
def W9{i}{k:Y}{m}(f:i[k]? =ad m):∀l∈bV m.2,l∈eW i:=by
 induction i generalizing k with
 |nil=>simp at f
 |cons d i n=>cases k with
  |zero=>simp at f;subst f;intro l a;simp[eW,a]
  |succ k=>simp at f;intro l a;simp only[eW,bg];exact .inr<|n f l a
def aiu{x y}{k}(d:Kv x k=ad y){v}(n:bu g x v):(∃u,(Xa v k).run P W= .ok u W/\bu g y u)/\∀i∈y.ak,i∈x.ak:=by
 unfold Kv at d;split at d
 .rename_i o;obtain⟨vs,rfl,m⟩:=n;split at d
  .rename_i p f;simp only[ar]at d;subst d;let ⟨u,hu,a⟩:=m.get f;exact⟨⟨u,by simp[Xa,hu,pure],a⟩,W9 f⟩
  .rename_i c f;simp only[ar]at d;subst d;let ⟨u,hu,a⟩:=m.get f;exact⟨⟨u,by simp[Xa,hu,pure],a⟩,λi l=>W9 f i<|by simp[bV];exact l⟩
  .simp at d
 .simp at d
def AR(d:cq P tt=ae){t n}(a:tN tt t n=ae):∃f i,P.underlying t=ad (.slice f)/\P.info? f=ad i/\i.size=n:=by
 unfold tN at a;split at a
 .rename_i u l;split at a
  .rename_i f m;split at a
   .rename_i v o;have k:=(eS d l).kind;rw[m]at k;let ⟨i,p,s,_⟩:=(eS d o).info;exact⟨f,i,k,p,by rw[s];simpa using a⟩
   .simp at a
  .simp at a
 .simp at a
def Xb(d:cq P tt=ae){t n sz}(a:Kw tt t=ad (n,sz)):∃f i,P.underlying t=ad (.array n f)/\P.info? f=ad i/\i.size=sz:=by
 unfold Kw at a;split at a
 .rename_i u l;split at a
  .rename_i v f m;split at a
   .rename_i x o;cases a;have k:=(eS d l).kind;rw[m]at k;let ⟨i,p,s,_⟩:=(eS d o).info;exact⟨f,i,k,p,s⟩
   .simp at a
  .simp at a
 .simp at a
def aiv(A:cq P tt=ae){t}{x i y}{p}(f:Kx tt t x i=ad (y,p))(Q:p){v u}(U:bu g x v)(H:bu g i u):(∃iC,(AS t v u).run P W= .ok iC W/\bu g y iC)/\∀L∈y.ak,L∈x.ak:=by
 unfold Kx at f;split at f
 .rename_i T xs D k;split at f
  .rename_i X;simp only[ar,bM]at f;obtain⟨rfl,rfl⟩:=f;let ⟨e,i,m,C,K⟩:=AR A X;simp only[bu,c7]at H;subst H;obtain⟨a,I,rfl,E,F,M⟩:=U;let ⟨c,q⟩:=(show 0<=k/\k<(Z xs:G)from Q);have B:af k<Z xs:=O;rcases M with M|⟨b,l,rfl,M⟩
   .subst M;simp at B
   .let ⟨r,hl,N,hc⟩:=M (af k) B;refine⟨⟨.pointer<|ad ⟨b,l+af k*T.n,none⟩,?_,b,l+af k*T.n,r,J,?_,?_⟩,λL s=>by cases s⟩
    .have d:(0<=k/\k<(Z xs:G)):=⟨c,q⟩;simp only[AS,asIntOf,dn,run_underlying m,dx];simp[d,run_sizeOf C,K,lF]
    .rw[aK,cO B];exact N
    .intro j R;have:=hc j R;rw[this]
  .simp at f
 .rename_i L l D k;split at f
  .rename_i n sz w;simp only[ar,bM]at f;obtain⟨rfl,rfl⟩:=f;let ⟨e,i,m,C,K⟩:=Xb A w;simp only[bu,c7]at H;subst H;obtain⟨b,S,rfl⟩:=U;have d:0<=k/\k<(n:G):=Q;refine⟨⟨.pointer<|ad ⟨b,l+af k*sz,none⟩,?_,b,S,J⟩,λL s=>s⟩;simp only[AS,Du,asIntOf,dn,Sem.run_pure,run_underlying m,dx];simp[d,run_sizeOf C,K,lF]
  .simp at f
 .rename_i T V l D k;split at f
  .rename_i n sz w;simp only[ar,bM]at f;obtain⟨rfl,rfl⟩:=f;let ⟨e,i,m,C,K⟩:=Xb A w;simp only[bu,c7]at H;subst H;obtain⟨b,o,r,rfl,E,F⟩:=U;have d:0<=k/\k<(n:G):=Q;refine⟨⟨.pointer<|ad ⟨b,o+(l+af k*sz),none⟩,?_,b,o,r,J,E,F⟩,λL s=>s⟩;simp only[AS,Du,asIntOf,dn,Sem.run_pure,run_underlying m,dx];simp[d,run_sizeOf C,K,lF,rq]
  .simp at f
 .simp at f
def aiw(i:cq P tt=ae){t r:Y}{x y}(d:GC tt t x=ad y){v}(f:bu g x v):(∃u,(Builtin.len_ #[t] r #[v]).run P W= .ok u W/\bu g y u)/\y.ak=[]:=by
 unfold GC at d;split at d
 .rename_i n k;split at d
  .rename_i e l;have h2:=(eS i k).kind;rw[l]at h2;split at d
   .rename_i T xs;simp only[ar]at d;subst d;obtain⟨a,m,rfl,_⟩:=f;exact⟨⟨_,KA,J⟩,J⟩
   .simp only[ar]at d;subst d;simp only[bu,c7]at f;subst f;exact⟨⟨_,KA,J⟩,J⟩
   .simp only[ar]at d;subst d;obtain⟨b,c,_,rfl,_⟩:=f;exact⟨⟨_,KA,J⟩,J⟩
   .simp at d
  .simp at d
 .simp at d
def Xc{f}{l}{y}(d:Kz f l=ad y){v i}{m n}(o:l=[m,n])(p:bu g m v)(s:bu g n i) t x:
  (∃u,(if f then Builtin.max_ t x #[v,i]else Builtin.min_ t x #[v,i]).run P W= .ok u W/\bu g y u)/\y.ak=[]:=by
 unfold Kz at d
 split at d
 .rename_i k a A b;split at d
  .rename_i e;subst e;simp only[ar]at d;subst d;simp only[KB,and_true]at o;obtain⟨rfl,rfl⟩:=o;simp only[bu,c7]at p s;subst p s;cases f
   .exact⟨⟨_,by simp[Builtin.min_,Builtin.min2,kp,pure],J⟩,J⟩
   .exact⟨⟨_,by simp[Builtin.max_,Builtin.max2,kp,pure],J⟩,J⟩
  .simp at d
 .simp at d
end
section
variable{P:bW}{tt:TT}{g:Gh}{W:cQ}
def yA(g:Gh):ax AV->ax aV->Prop
 |none,none=>True
 |some a,ad u=>bu g a u
 |_,_=>False
def Xd{op:BinOp}{t}{x y f}{p}(d:Ds tt op t x y=ad (f,p)):f.ak=[]:=by
 cases x<;>cases y<;>simp only[Ds,Ko,reduceCtorEq]at d;case B.B a b=>
  split at d
  .cases op<;>simp only[ar,bM,reduceCtorEq]at d;all_goals (obtain⟨rfl,_⟩:=d;rfl)
  .simp at d
 case I.I k a l b=>
  have i:∀op,GA op k a b=ad (f,p)->f.ak=[]:=by
   intro op d;cases op<;>simp only[GA,ar,reduceCtorEq]at d;case add=>have:=be Prod.fst d;simp only at this;rw[<-this];exact GD _ _
   case sub=>have:=be Prod.fst d;simp only at this;rw[<-this];exact GD _ _
   case mul=>have:=be Prod.fst d;simp only at this;rw[<-this];exact GD _ _
   all_goals
    simp only[bM]at d
    obtain⟨rfl,_⟩:=d
    first|rfl|exact GD _ _
  cases op
  case shl=>simp only[Dq,ar,bM]at d;obtain⟨rfl,_⟩:=d;rfl
  case shr=>simp only[Dq,ar,bM]at d;obtain⟨rfl,_⟩:=d;rfl
  all_goals
   simp only at d
   split at d
   .exact i _ d
   .simp at d
def Qk{n}{x}{d h}{p}(a:Ky n x d=ad (h,p))(o:p){v}(f:yA g x v)
 m (t:n<=m) (code:BoundsCode):
  (x=none/\v=none/\h=d)\/(∃u,v=ad u/\h<=n/\(GF u m code).run P W= .ok h W):=by
 unfold Ky at a
 split at a
 .simp only[ar,bM]at a;cases v with
  |none=>exact .inl ⟨J,J,a.1.symm⟩
  |some u=>exact f.elim
 .rename_i s k;simp only[ar,bM]at a;obtain⟨rfl,rfl⟩:=a;cases v with
  |none=>exact f.elim
  |some u=>
   have i:u= .int s k:=f
   subst i
   have l:0<=k/\k<=(n:G):=o
   refine .inr ⟨_,J,O,?_⟩
   have:0<=k/\k<=(m:G):=⟨l.1,O⟩
   simp[GF,asIntOf,this,kp,pure]
 .simp at a
def lZ.sub{s:Type}{o:s->V aV->Prop}{n}{H}{xs}{a}{d}(t:lZ o n H xs (.slice a (Z xs) d)){l k}(A:l<=k)(u:k<=Z xs):
  lZ o n H ((c k xs).drop l) (.slice (if d=l then a else a.map (·.add (l*n))) (k-l)<|d-l):=by
 let ⟨B,p,e,C,v,m⟩:=t
 simp only[aix,true_and]at e
 obtain⟨rfl,rfl⟩:=e
 have f:Z ((c k xs).drop l)=k-l:=b8
 refine⟨_,d-l,by rw[f],O,?_,?_⟩
 .rw[f];exact bm (eC n O) v
 .by_cases K:k=l
  .left;apply eT;omega
  .right;rcases m with m|⟨b,off,rfl,m⟩
   .subst m;simp at u;omega
   .refine⟨b,off+l*n,?_,λi L=>?_⟩
    .rw[w O];simp[lF]
    .let ⟨cs,hl,x,hc⟩:=m (l+i) O;refine⟨cs,hl,?_,λj y=>?_⟩
     .simpa using x
     .have:=hc j y;rw[(GG:off+l*n+i*n+j=off+(l+i)*n+j)];exact this
def aiy(A:cq P tt=ae){t}{x y}{lo hi}{p}(d:Qj tt t x lo hi=ad (y,p))(hp:p){v}{B H}(hv:bu g x v)
  (hl:yA g lo B) (hh:yA g hi H):
  (∃iC,(Instr.sliceAt t v B H none).run P W= .ok iC W/\bu g y iC)/\y.ak=[]:=by
 unfold Qj at d
 split at d
 .rename_i T xs;split at d
  .rename_i C;let ⟨e,i,K,L,q⟩:=AR A C;split at d
   .rename_i f E M;split at d
    .rename_i l F Q;simp only[ar,bM]at d;obtain⟨rfl,rfl⟩:=d;let ⟨U,X⟩:=hp;have b:=hv;obtain⟨a,n,rfl,r,G,I⟩:=b;have k:=Qk (P:=P) (W:=W) M U hh n r<|.sliceAcap;have c:f<=Z xs:=by rcases k with⟨_,_,e⟩|⟨_,_,d,_⟩<;>omega
     have m:=Qk (P:=P) (W:=W) Q X hl f (aO _)<|.sliceB;have o:l<=f:=by rcases m with⟨_,_,e⟩|⟨_,_,d,_⟩<;>omega
     have s:=lZ.sub hv o c;refine⟨⟨_,?_,s⟩,J⟩;have j:(tP ae (Z xs) n B H none).run P W= .ok (l,f,n) W:=by rcases k with⟨_,rfl,rfl⟩|⟨u,rfl,_,w⟩<;>rcases m with⟨_,rfl,rfl⟩|⟨N,rfl,_,D⟩<;>simp[tP, *]
     simp only[Instr.sliceAt,dn,run_underlying K,dx,Instr.slice,j,run_sizeOf L,q];rfl
    .simp at d
   .simp at d
  .simp at d
 .simp at d
def GH{k}{d:Y->Prop}{i}{a}(l:bx k d i g W a) st x v(f:yz st x=ad v)
  (m:∀o,x=ad o->∀kx∈cJ st o,i kx.1=ad kx.2):yA g v (x.map a.eval):=by
 cases x with
 |none=>simp only[yz,ar]at f;subst f;trivial
 |some o=>
  simp only[yz,cG]at f
  obtain⟨u,n,rfl⟩:=f
  exact dA l st o u n<|m o J
def KC(T:cq P tt=ae){ops}{i}{o:a4}{d:Y}(ho:ops[i]? =ad o)(hg:o.guard=none)(hd:o.dst=ad d){n}(dz:d<n)
 {st}{x}{p}(m:tO tt st o.op=ad (x,p)) (hp:p) new:iA P n ops i (oo st o.op) [(.s d,ad<|.v x)] new:=by
 refine sO ho hg hd dz _ x new ?_
 intro F D V g W a U R
 have B:∀y∈o.op.operands,∀u,st.ev y=ad u->bu g u (a.eval y)/\∀M∈u.ak,D M:=by
  intro y e u Q;have Z:∀kx∈cJ st y,V kx.1=ad kx.2:=λkx E=>R kx<|jb.2 ⟨y,by simpa using e,E⟩
  exact⟨dA U st y u Q Z,sM U st y u Q Z⟩
 have G:∀y∈o.op.operands,∀kx∈cJ st y,V kx.1=ad kx.2:=λy e kx E=>R kx<|jb.2 ⟨y,by simpa using e,E⟩
 let ⟨od,op,I,avk,avl,ogd⟩:=o
 simp only at m B G
 unfold tO at m
 split at m
 .rename_i y;split at m
  .rename_i v K;simp only[ar,bM]at m;obtain⟨rfl,rfl⟩:=m;have:=B y gU _ K;exact⟨this.2,_,by simp[execOp,pure],this.1⟩
  .simp at m
 .rename_i y;split at m
  .rename_i v K;simp only[ar,bM]at m;obtain⟨rfl,rfl⟩:=m;have:=B y gU _ K;exact⟨this.2,_,by simp[execOp,pure],this.1⟩
  .simp at m
 .rename_i c y z;unfold W7 at m;split at m
  .rename_i b hb;have Dv:=(B c gU _ hb).1;simp only[bu,c7]at Dv;split at m
   .rename_i p1 q1 e N;simp only[ar,bM]at m;obtain⟨rfl,rfl⟩:=m;have H:=(B y gU _ e).1;have X:=(B z gU _ N).1;simp only[bu,c7]at H X;refine⟨rk,.bool<|cond b p1 q1,?_,J⟩;cases b<;>simp[execOp,Dv,asBool,H,X,kp,pure]
   .rename_i v e N;simp only[ar,bM]at m;obtain⟨rfl,rfl⟩:=m;have H:=B y gU _ e;simp only[Pr.h]at hp;subst hp;exact⟨H.2,_,KD,H.1⟩
   .rename_i v e N;simp only[ar,bM]at m;obtain⟨rfl,rfl⟩:=m;have H:=B z gU _ N;simp only[Pr.h]at hp;subst hp;exact⟨H.2,_,KD,H.1⟩
   .rename_i v e N;simp only[ar,bM]at m;obtain⟨rfl,rfl⟩:=m;have H:=B y gU _ e;simp only[Pr.h]at hp;subst hp;exact⟨H.2,_,KD,H.1⟩
   .rename_i v e N;simp only[ar,bM]at m;obtain⟨rfl,rfl⟩:=m;have H:=B z gU _ N;simp only[Pr.h]at hp;subst hp;exact⟨H.2,_,KD,H.1⟩
   .simp at m
  .simp at m
 .rename_i op t y z _;split at m
  .rename_i u w Q O;split at m
   .rename_i c q hc;simp only[ar,bM]at m;obtain⟨rfl,rfl⟩:=m;have H:=(B y gU _ Q).1;have X:=(B z gU _ O).1;let ⟨v,jc,A⟩:=aio (P:=P) T hc hp g H X W y z;refine⟨?_,v,?_,A⟩
    .intro M fe;simp only[AV.ak,Xd hc]at fe;cases fe
    .simp only[execOp,dn];rw[dn]at jc;simp only[jc];simp[dx,pure]
   .simp at m
  .simp at m
 .rename_i op t y;split at m
  .rename_i v K;have H:=B y gU _ K;let ⟨⟨u,jc,A⟩,hm⟩:=aiq (P:=P) (W:=W) m hp H.1;exact⟨λM fe=>H.2 M<|hm M fe,u,AT,A⟩
  .simp at m
 .rename_i s d' y;split at m
  .rename_i v K;have H:=B y gU _ K;let ⟨⟨u,jc,A⟩,hm⟩:=air (P:=P) (W:=W) T m hp H.1;exact⟨λM fe=>Dw,u,AT,A⟩
  .simp at m
 .rename_i t y f;split at m
  .rename_i v K;split at m
   .rename_i u Q;simp only[ar,bM]at m;obtain⟨rfl,rfl⟩:=m;have H:=B y gU _ K;let ⟨⟨u,jc,A⟩,hm⟩:=ais (P:=P) (W:=W) T Q H.1;exact⟨λM fe=>H.2 M<|hm M fe,u,AT,A⟩
   .simp at m
  .simp at m
 .rename_i t y f;split at m
  .rename_i v K;split at m
   .rename_i u Q;simp only[ar,bM]at m;obtain⟨rfl,rfl⟩:=m;have H:=B y gU _ K;let ⟨⟨u,jc,A⟩,hm⟩:=ait (P:=P) (W:=W) T Q H.1;exact⟨λM fe=>H.2 M<|hm M fe,u,AT,A⟩
   .simp at m
  .simp at m
 .rename_i y k;split at m
  .rename_i v K;split at m
   .rename_i u Q;simp only[ar,bM]at m;obtain⟨rfl,rfl⟩:=m;have H:=B y gU _ K;let ⟨⟨u,jc,A⟩,hm⟩:=aiu (P:=P) (W:=W) Q H.1;exact⟨λM fe=>H.2 M<|hm M fe,u,AT,A⟩
   .simp at m
  .simp at m
 .rename_i t y z;split at m
  .rename_i v w K O;have H:=B y gU _ K;have X:=B z gU _ O;let ⟨⟨u,jc,A⟩,hm⟩:=aiv (P:=P) (W:=W) T m hp H.1 X.1;exact⟨λM fe=>H.2 M<|hm M fe,u,AT,A⟩
  .simp at m
 .rename_i t y lo hi;split at m
  .rename_i v l h K hl hh;have H:=B y gU _ K;have X:=GH U st lo l hl<|λq hq=>G q GJ;have h3:=GH U st hi h hh<|λq hq=>G q GJ;let ⟨⟨u,jc,A⟩,hm⟩:=aiy (P:=P) (W:=W) T m hp H.1 X h3;exact⟨λM fe=>Dw,u,AT,A⟩
  .simp at m
 .rename_i args j;split at m
  .rename_i y t ha ht;have L:args= #[y]:=GK;have S:j= #[t]:=Ql;subst L S;split at m
   .rename_i v K;split at m
    .rename_i u Q;simp only[ar,bM]at m;obtain⟨rfl,rfl⟩:=m;have H:=B y Dx _ K;let ⟨⟨u,jc,A⟩,hm⟩:=aiw (P:=P) (W:=W) (r:=I) T Q H.1;exact⟨λM fe=>Dw,u,Qm,A⟩
    .simp at m
   .simp at m
  .simp at m
 .rename_i args j;split at m
  .rename_i y z ha;have L:args= #[y,z]:=GK;subst L;split at m
   .rename_i v w K O;split at m
    .rename_i u Q;simp only[ar,bM]at m;obtain⟨rfl,rfl⟩:=m;have H:=B y Dx _ K;have X:=B z Dx _ O;let ⟨⟨u,jc,A⟩,hm⟩:=Xc (P:=P) (W:=W) Q J H.1 X.1 j I;simp only[cj]at jc;exact⟨λM fe=>Dw,u,Qm,A⟩
    .simp at m
   .simp at m
  .simp at m
 .rename_i args j;split at m
  .rename_i y z ha;have L:args= #[y,z]:=GK;subst L;split at m
   .rename_i v w K O;split at m
    .rename_i u Q;simp only[ar,bM]at m;obtain⟨rfl,rfl⟩:=m;have H:=B y Dx _ K;have X:=B z Dx _ O;let ⟨⟨u,jc,A⟩,hm⟩:=Xc (P:=P) (W:=W) Q J H.1 X.1 j I;simp only[iB,bN]at jc;exact⟨λM fe=>Dw,u,Qm,A⟩
    .simp at m
   .simp at m
  .simp at m
 .simp at m
end
section
variable{P:bW}{tt:TT}{g:Gh}{W:cQ}
def run_load{a:Addr}{v}(d:W.cell? a=ad v):(load a).run P W= .ok v W:=by simp[load,kp,d]
def run_loadCellsFrom(k:Y):∀(n i a:Y)(vs:V aV)(d:Array aV),Z vs=n->(∀f(m:f<Z vs),W.cell? ⟨k,a+i+f,none⟩=ad vs[f])->
  (loadCellsFrom ⟨k,a,none⟩ i n d).run P W= .ok (d++vs.toArray) W
 |0,i,a,vs,d,hl,_=>by have:vs=[]:=eT hl;subst this;simp[loadCellsFrom,pure]
 |n+1,i,a,[],d,hl,_=>by simp at hl
 |n+1,i,a,v::vs,d,hl,hc=>by have l:=hc 0 az;simp only[jy,vu]at l;have o:=run_loadCellsFrom k n (i+1) a vs (d.push v) vw (λf m=>by have:=hc (f+1) b8;simp only[AU]at this;rw[(O:a+(i+1)+f=a+i+(f+1))];exact this);simp only[loadCellsFrom,lF,dn,run_load l,dx,o];congr 1;apply Dy;simp
def aiz{t}{a}(d:vq P t=ad a){i:TypeInfo}(o:P.info? t=ad i) k off vs(m:Z vs=i.size)(f:a=ah->i.size=1)
  (n:∀l(s:l<Z vs),W.cell? ⟨k,off+l,none⟩=ad vs[l]):∃v,(loadVar t ⟨k,off,none⟩).run P W= .ok v W/\((a=ae/\v= .agg vs.toArray)\/(a=ah/\vs=[v])):=by
 cases a with
 |true=>
  refine⟨.agg vs.toArray,?_,.inl ⟨J,J⟩⟩
  simp only[loadVar,dn,Kq d,dx,cj,run_sizeOf o,loadCells]
  rw[run_loadCellsFrom k i.size 0 off vs #[] m (by simpa using n)]
  simp[pure]
 |false=>
  have p:Z vs=1:=by rw[m];exact f J
  match vs,p with
  |[v],_=>
   refine⟨v,?_,.inr ⟨J,J⟩⟩
   have:=n 0 az
   simp only[jy,vu]at this
   simp only[loadVar,dn,Kq d,dx,iB,bN,run_load this]
def qj(tt:TT)(t:Y):ax (Y×Bool):=match ja t tt with
 |some a=>if a.agg then ad (a.size,ae)else if a.size=1 then ad (1,ah)else none
 |none=>none
def KE(d:cq P tt=ae){t sz}{f}(a:qj tt t=ad (sz,f)):vq P t=ad f/\(∃i,P.info? t=ad i/\i.size=sz)/\(f=ah->sz=1):=by
 unfold qj at a;split at a
 .rename_i s o;have k:=eS d o;let ⟨i,m,n,_⟩:=k.info;split at a
  .rename_i l;simp only[ar,bM]at a;obtain⟨rfl,rfl⟩:=a;exact⟨by rw[k.agg,l],⟨i,m,n⟩,az⟩
  .rename_i l;split at a
   .rename_i p;simp only[ar,bM]at a;obtain⟨rfl,rfl⟩:=a;exact⟨by rw[k.agg];simpa using l,⟨i,m,by rw[n];exact p⟩,λ_=>rfl⟩
   .simp at a
 .simp at a
def GL(y:cq P tt=ae){t sz}{s}(T:qj tt t=ad (sz,s)){A}{vs}(B:aW g A vs){a}{x}(d:nJ A a sz s=ad x)
 H o (U:∀k(M:k<Z vs),W.cell? ⟨H,o+k,none⟩=ad vs[k]):∃v,(Xe t<|.pointer<|ad ⟨H,o+a,none⟩).run P W= .ok v W/\bu g x v:=by
 let ⟨C,⟨i,X,e⟩,f⟩:=KE y T
 have Q:=B.length
 have K:a+sz<=Z A:=by
  unfold nJ at d;cases s with
  |true=>simp only[cj]at d;split at d<;>simp_all
  |false=>
   simp only[iB,bN,cG]at d
   let ⟨c,l,_⟩:=d
   have:=(sQ.1 l).1
   have:=f J
   omega
 let ⟨v,n,m⟩:=aiz (W:=W) C X H (o+a) ((aA a vs).take sz) b8 (by rw[e];exact f) (λk M=>by simp at M;have:=U (a+k) O;simp only[qk,tQ];rw[(O:o+a+k=o+(a+k))];exact this)
 refine⟨v,by simpa[Xe,Du]using n,?_⟩
 unfold nJ at d
 cases s with
 |true=>
  simp only[cj]at d
  split at d
  .simp only[ar]at d;subst d;rcases m with⟨_,rfl⟩|⟨L,_⟩
   .exact⟨_,J,(B.drop a).take sz⟩
   .simp at L
  .rename_i q;exact absurd K q
 |false=>
  simp only[iB,bN,cG]at d
  obtain⟨c,l,rfl⟩:=d
  rcases m with⟨L,_⟩|⟨_,m⟩
  .simp at L
  .let ⟨u,hu,p⟩:=B.get l;have r:=f J;subst r;have:(aA a vs).take 1=[u]:=by rw[List.take_one,List.head?_drop,hu];rfl
   rw[this]at m;simp only[KB,and_true]at m;subst m;exact p
def GM(tt:TT)(d:St)(t:Y)(x:AV):ax (AV×Pr×V Y):=match qj tt t with
 |some (sz,a)=>(match x with
  | .c (.P id off)=>(match ja id d.mem with
   |some (.box _ _ cs)=>(match nJ cs off sz a with|some y=>ad (y,.t,[id])|none=>none)
   |some (.fz _ cs)=>(match nJ cs off sz a with|some y=>ad (y,.t,[id])|none=>none)
   |_=>none)
  | .c (.E T e off)=>(match nJ (av T e) off sz a with|some y=>ad (y,.t,[])|none=>none)
  | .c (.Y id n i off)=>(match ja id d.mem with
   |some (.vec _ T xs)=>if T.n=n then(match nJ (av T<|E xs i T.dE) off sz a with|some y=>ad (y,.AP i<|Z xs,[id])|none=>none)else none
   |_=>none)
  |_=>none)
 |none=>none
def fL(f:St)(a:V Y):V (Key×Info):=a.flatMap λd=>match ja d f.mem with
 |some b=>[(.m d,.b b)]
 |none=>[]
def vz{d}{vs}{i}{f}(k:W.heap[d]? =ad (.cells vs.toArray i f)) a(l:a<Z vs):W.cell? ⟨d,a,none⟩=ad vs[a]:=by simp[World.cell?,k,l]
def GN:∀(T:ET)(x:T.den),bV (av T x)=[]
 | .int _,_=>rfl
 | .bool,_=>rfl
 | .z,_=>rfl
 | .q,_=>rfl
 | .sl _,_=>rfl
 | .pr A B,x=>by
  have k:∀(a d:V C),bV a=[]->bV d=[]->bV (a++d)=[]:=by
   intro a;induction a with
   |nil=>intro d _ f;exact f
   |cons c a l=>
    intro d i f
    simp only[bV,Qn]at i
    simp only[m7,bV,Qn]
    exact⟨i.1,l d i.2 f⟩
  exact k _ _ (GN A x.1)<|GN B x.2
def Xf(di:cq P tt=ae){ops}{i}{o:a4}{d:Y}(ho:ops[i]? =ad o)(hg:o.guard=none)(hd:o.dst=ad d){n}(dz:d<n){t}{x}(b6:o.op= .load t x)
 {st}{v y}{p}{ids:V Y} (hx:st.ev x=ad v) (B:GM tt st t v=ad (y,p,ids)) (hp:p) (new:Y):
  iA P n ops i (cJ st x++fL st ids) [(.s d,ad<|.v y)] new:=by
 refine sO ho hg hd dz _ y new ?_
 intro F known σ g W a C I
 have Q:=dA C st x v hx<|λkx b7=>I kx<|eH _ b7
 have X:∀U∈ids,∀b,ja U st.mem=ad b->σ (.m U)=ad (.b b):=by intro U fe b hb;exact I (.m U,.b b)<|gD _<|jb.2 ⟨U,fe,by simp[hb]⟩
 have K:execOp a.eval o=(do pure (.value<|<-Xe t (a.eval x))):=vA
 unfold GM at B
 split at B
 .rename_i sz ag w;split at B
  .rename_i U J;split at B
   .rename_i cC bz cs N;split at B
    .rename_i z q;simp only[ar,bM]at B;obtain⟨rfl,rfl,rfl⟩:=B;have M:=X U az _ N;let ⟨b,vs,rest,r,R,S,_,_⟩:=C.cX U _ M;let ⟨b',f,D⟩:=Q;rw[r]at f;simp only[ar]at f;subst f;let ⟨u,A,hu⟩:=GL (W:=W) di w S q b 0 (λj G=>by have:=vz R j b8;rw[wX G]at this;simpa using this);refine⟨λL H=>C.ak _ _ M L<|yy q L H,u,?_,hu⟩;rw[K,D];simp only[ff]at A;simp[A,kp,pure]
    .simp at B
   .rename_i cC cs N;split at B
    .rename_i z q;simp only[ar,bM]at B;obtain⟨rfl,rfl,rfl⟩:=B;have M:=X U az _ N;let ⟨b,vs,rest,r,R,S,_⟩:=C.cX U _ M;let ⟨b',f,D⟩:=Q;rw[r]at f;simp only[ar]at f;subst f;let ⟨u,A,hu⟩:=GL (W:=W) di w S q b 0 (λj G=>by have:=vz R j b8;rw[wX G]at this;simpa using this);refine⟨λL H=>C.ak _ _ M L<|yy q L H,u,?_,hu⟩;rw[K,D];simp only[ff]at A;simp[A,kp,pure]
    .simp at B
   .simp at B
  .rename_i T e J;split at B
   .rename_i z q;simp only[ar,bM]at B;obtain⟨rfl,rfl,rfl⟩:=B;let ⟨b,o',cs,D,aiA,hc⟩:=Q;let ⟨u,A,hu⟩:=GL (W:=W) di w (yq T e cs aiA) q b o'<|λj G=>C.sub _ _ _<|hc j G;refine⟨λL H=>?_,u,?_,hu⟩
    .have:=yy q L H;rw[GN]at this;cases this
    .rw[K,D];simp[A,kp,pure]
   .simp at B
  .rename_i U m k J;split at B
   .rename_i cC T xs N;split at B
    .rename_i vB;split at B
     .rename_i z q;simp only[ar,bM]at B;obtain⟨rfl,rfl,rfl⟩:=B;have M:=X U az _ N;let ⟨b',l,c,f,D⟩:=Q;rcases C.cX U _ M with⟨_,h0⟩|⟨b,cap,vs,r,R,hlen,hle,_,S,_,_⟩
      .subst h0;simp[Pr.h]at hp
      .rw[r]at f;simp only[aix,ar,Addr.mk.injEq,and_true]at f;obtain⟨rfl,_,_⟩:=f;have hp:k<Z xs:=hp;have GO:=S k hp;rw[show xs[k]=E xs k T.dE by rw[aK,cO hp];rfl]at GO;have tR:(k+1)*T.n<=cap*T.n:=eC _ O;rw[gO,jn]at tR;have avn:Z ((aA (k*T.n) vs).take T.n)=T.n:=b8;let ⟨u,A,hu⟩:=GL (W:=W) di w (yq T _ _ GO) q b (k*T.n) (λj G=>by have:=vz R (k*T.n+j) O;simp only[qk,tQ];exact this);refine⟨λL H=>?_,u,?_,hu⟩
       .have:=yy q L H;rw[GN]at this;cases this
       .rw[K,D,<-vB];simp[A,kp,pure]
     .simp at B
    .simp at B
   .simp at B
  .simp at B
 .simp at B
end
section
variable{P:bW}{tt:TT}{g:Gh}{W:cQ}
def oq:aV->Bool
 | .agg _=>ah
 | .tuple _=>ah
 |_=>ae
def kq:C->Bool
 | .any=>ah
 | .V v=>oq v
 | .M _=>ah
 | .X _=>ah
 |_=>ae
def Xg{f}{v}(s:kq f=ae)(d:c7 g f v):oq v=ae:=by
 cases f with
 |any=>simp[kq]at s
 |B b=>simp only[c7]at d;subst d;rfl
 |I k n=>simp only[c7]at d;subst d;rfl
 |V u=>simp only[c7]at d;subst d;exact s
 |S T xs=>obtain⟨a,p,rfl,_⟩:=d;rfl
 |P id off=>obtain⟨b,_,rfl⟩:=d;rfl
 |X id=>simp[kq]at s
 |Y id n i off=>obtain⟨b,l,f,_,rfl⟩:=d;rfl
 |E T x off=>obtain⟨b,o,t,rfl,_⟩:=d;rfl
 |M m=>simp[kq]at s
 |L id off len p=>
  cases p with
  |some f=>obtain⟨b,_,rfl⟩:=d;rfl
  |none=>obtain⟨_,b,f,_,rfl,_⟩:=d;rfl
 |W id off len=>obtain⟨b,f,_,rfl,_⟩:=d;rfl
def jo(W:cQ)(a:Y)(vs:V aV)(d:dX):cQ:={W with heap:=W.heap.setIfInBounds a<|.cells vs.toArray d (0,0)}
def yB{a}{vs}{d}(f:a<W.heap.size):(jo W a vs d).heap[a]? =ad (.cells vs.toArray d (0,0)):=by simp[jo,f]
def yC{a k}{vs}{d}(f:a≠k):(jo W a vs d).heap[k]? =W.heap[k]? :=by simp[jo,lE f]
def aiB{a j}{vs}{d}(f:W.heap[a]? =ad (.cells vs.toArray d (0,0)))(l:j<Z vs){v}(m:oq v=ae):
  (store ⟨a,j,none⟩ v).run P W= .ok () (jo W a (vs.set j v) d):=by
 have n:a<W.heap.size:=(gL.1 f).1
 have o:W.cell? ⟨a,j,none⟩=ad vs[j]:=vz f j l
 have p:W.frozen? ⟨a,j,none⟩=ah:=by simp[World.frozen?,f]
 have s:W.setCell ⟨a,j,none⟩ v=jo W a (vs.set j v) d:=by
  unfold World.setCell jo;congr 1;apply aiC;intro k;rw[Array.getElem?_modify,aiD];have i:W.heap[a]= .cells vs.toArray d (0,0):=(gL.1 f).2;by_cases e:a=k
  .subst e;simp[n,i]
  .simp[e]
 cases v<;>simp[store,kp,o,p,s]<;>simp[oq]at m
def aiE{a}{vs d}{i f}:jo (jo W a vs i) a d f=jo W a d f:=by simp[jo]
def aiF{a}{vs}{d}(i:W.heap[a]? =ad (.cells vs.toArray d (0,0))):jo W a vs d=W:=by
 have l:a<W.heap.size:=(gL.1 i).1;have:W.heap.setIfInBounds a (.cells vs.toArray d (0,0))=W.heap:=by
  apply aiC;intro k;rw[aiD];by_cases e:a=k
  .subst e;have f:W.heap[a]= .cells vs.toArray d (0,0):=(gL.1 i).2;simp[l,f]
  .simp[e]
 unfold jo;rw[this]
def c9{d:Type}(vs f:V d)(a:Y):V d:=c a vs++f++aA (a+Z f) vs
def yD{d:Type}(vs a:V d) off(f:off+Z a<=Z vs):(c9 vs a off).length=Z vs:=by simp[c9];omega
def Xh{a:Type} vs us(u:a) off(h:off<Z vs):c9 (vs.set off u) us (off+1)=c9 vs (u::us) off:=by
 unfold c9;rw[List.drop_set_of_lt O];have d:(vs.set off u).take (off+1)=c off vs++[u]:=by rw[Qo et];simp only[List.take_set,List.getElem_set_self];rw[List.set_eq_of_length_le b8]
 rw[d];simp only[ik,l7,m7,tS];rw[(O:off+1+Z us=off+(Z us+1))]
def AW(d:Y){l:dX}:∀(f:V aV)(W:cQ)(vs:V aV)(o i:Y),W.heap[d]? =ad (.cells vs.toArray l (0,0))->o+i+Z f<=Z vs->(∀u∈f,oq u=ae)->
  (storeCells ⟨d,o,none⟩ f i).run P W= .ok () (jo W d (c9 vs f<|o+i) l)
 |[],W,vs,o,i,k,_,_=>by
  have:c9 vs [] (o+i)=vs:=by simp[c9]
  rw[this,aiF k];simp[storeCells,pure]
 |u::f,W,vs,o,i,k,hle,a=>by simp only[ik]at hle;have m:d<W.heap.size:=(gL.1 k).1;have n:=aiB (P:=P) k (j:=o+i) O<|a u az;have p:=AW d f (jo W d (vs.set (o+i) u) l) (vs.set (o+i) u) o (i+1) (yB m) b8<|λx hx=>a x mB;simp only[storeCells,lF,dn,n,dx,p,aiE];rw[(O:o+(i+1)=o+i+1),Xh _ _ _ _ O]
def kQ:AV->ax (V C)
 | .c x=>ad [x]
 | .a cs=>ad cs
 | .t _=>none
def KF{x}{k}(d:kQ x=ad k){v}(f:bu g x v)(i:∀l∈k,kq l=ae):∃vs,v.cells=vs.toArray/\aW g k vs:=by
 cases x with
 |c y=>
  simp only[kQ,ar]at d
  subst d
  have m:=Xg (i y az) f
  refine⟨[v],?_,v,[],J,f,J⟩
  cases v<;>first|rfl| (simp[oq]at m)
 |a ds=>
  simp only[kQ,ar]at d
  subst d
  obtain⟨vs,rfl,f⟩:=f
  exact⟨vs,J,f⟩
 |t _=>simp[kQ]at d
def aW.one{d}{vs}(f:aW g d vs)(a:∀i∈d,kq i=ae):∀v∈vs,oq v=ae:=by
 induction d generalizing vs with
 |nil=>simp only[aW]at f;subst f;simp
 |cons i d m=>
  obtain⟨v,r,rfl,n,o⟩:=f
  intro u k
  rcases b9.1 k with rfl|k
  .exact Xg (a i az) n
  .exact m o (λp l=>a p<|by simp[l]) u k
def aW.c9{a d}{vs f}(i:aW g a vs)(k:aW g d f) off:aW g (Go.El.c9 a d off) (Go.El.c9 vs f off):=by unfold Go.El.c9;rw[k.length];exact aW.append (aW.append (i.take off) k)<|i.drop _
def Dz a f:∀d∈bV (a++f),d∈bV a\/d∈bV f:=by
 induction a with
 |nil=>intro d h;exact .inr h
 |cons c a i=>
  intro d h
  simp only[m7,bV,bg]at h⊢
  rcases h with h|h
  .exact .inl<|.inl h
  .rcases i d h with h|h
   .exact .inl<|.inr h
   .exact .inr h
end
end Go.El
