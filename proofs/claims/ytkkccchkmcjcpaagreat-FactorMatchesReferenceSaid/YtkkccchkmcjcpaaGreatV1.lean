/- The engine, part 1: data, abstract values, what it means that they describe memory. Own work; no condition. -/
import Derived.WalkKit
import Derived.OrdersIn
import Derived.Test.YtkkccchkmcjcpaaGreatV0
set_option linter.all false
set_option maxHeartbeats 16000000
set_option maxRecDepth 100000
open Array renaming ext_getElem?->ahu,getElem?_setIfInBounds->ahv
open BitVec renaming ofInt->iq
open Bool renaming false->ah,true->ae
open Go renaming Value->bH,IntKind->Cs,TypeId->eL,World->da,Oper->dv,Program->cT
open Go.Act renaming put->jq
open Go.Instr renaming fieldAt->WO,sureAddr->WQ,extract->WS,sliceBound->PL,sliceBounds->wT,loadAt->WU
open Go.Op renaming intArith->PC
open Go.Oper renaming wp->uk,upon->sL
open Go.Region renaming binds->uo,ready->WD,wanted->nG
open Go.Result renaming andThen->eP
open Go.Sem renaming run_bind->dY,run->lU
open Go.Value.slice renaming injEq->aho
open Go.World renaming cell?->FT,block_lt_of_cell?->FZ
open Int renaming toNat->ad,lt_of_mul_lt_mul_right->agR,le_ediv_of_mul_le->agT
open List renaming length->G,take->y,drop->aE,getD->Y,filter_cons_of_pos->agX,filter_cons_of_neg->agY,range->be
open Nat renaming one_pos->Fs,strongRecOn->Wj
open _root_ renaming Nat->I,Option->bF,Int->Z,List->V
namespace Go.El
open Go Go.RowKit
abbrev FH:=I->I->bF bH
inductive ET where
 |int (k:Cs)|bool|z|q|sl (a:ET)|pr (A B:ET)
@[reducible] def ET.den : ET -> Type
 | .int _=>Z
 | .bool=>Bool
 | .z=>Z
 | .q=>Rat
 | .sl a=>V a.den
 | .pr b B=>b.den×B.den
@[reducible] def ET.cJ : (a : ET) -> a.den
 | .int _=>(0:Z)
 | .bool=>ah
 | .z=>(0:Z)
 | .q=>(0:Rat)
 | .sl _=>[]
 | .pr b B=>(b.cJ,B.cJ)
@[reducible] def ET.n : ET -> I
 | .int _=>1
 | .bool=>1
 | .z=>2
 | .q=>4
 | .sl _=>1
 | .pr a B=>a.n+B.n
def ET.Ct:∀a:ET,0<a.n
 | .int _=>Fs
 | .bool=>Fs
 | .z=>Nat.two_pos
 | .q=>by decide
 | .sl _=>Fs
 | .pr b B=>by have:=b.Ct;simp only[ET.n];omega
def yw:I->I->V Z
 |0,_=>[]
 |f+1,n=>if n=0 then[]else((n%4294967296:I):Z)::yw f (n/4294967296)
def aj(n:I):V Z:=yw n n
def bK(a:Z):Bool:=decide<|a<0
def de(a:Z):V Z:=aj<|Int.natAbs a
def m'{g:Type}(R:g->V bH->Prop)(n:I)(H:FH)(xs:V g)(v:bH):Prop:=
 ∃a c,v= .slice a (G xs) c/\G xs<=c/\G xs*n<=140737488355328/\
  (xs=[]\/∃b d,a=some ⟨b,d,none⟩/\∀i(h:i<G xs),∃f,G f=n/\R xs[i] f/\
   ∀j(k:j<G f),H b (d+i*n+j)=some f[j])
def Cu(H:FH)(a:V Z)(v:bH):Prop:=m' (λn b=>b=[.int .u32 n]) 1 H a v
def sI(H:FH)(a:Z)(vs:V bH):Prop:=∃m,vs=[.bool (bK a),m]/\Cu H (de a) m
def dk(H:FH):(c:ET)->c.den->V bH->Prop
 | .int k,n,vs=>vs=[.int k n]
 | .bool,b,vs=>vs=[.bool b]
 | .z,d,vs=>sI H d vs
 | .q,r,vs=>∃a b,vs=a++b/\sI H r.num a/\sI H (r.den:Z) b
 | .sl c,xs,vs=>∃v,vs=[v]/\m' (dk H c) c.n H xs v
 | .pr f B,x,vs=>∃a b,vs=a++b/\dk H f x.1 a/\dk H B x.2 b
def cz(H a:FH):Prop:=∀b o v,H b o=some v->a b o=some v
def cz.refl H:cz H H:=λ_ _ _ h=>h
def cz.trans{a c d}(f:cz a c)(k:cz c d):cz a d:=λb o v e=>k b o v<|f b o v e
def m'.mono{m:Type}{R g:m->V bH->Prop}{n}{H k}{xs}{v}(p:m' R n H xs v)
  (B:cz H k) (E:∀x d,R x d->g x d):m' g n k xs v:=by
 let ⟨a,cap,e,C,h2,f⟩:=p
 refine⟨a,cap,e,C,h2,?_⟩
 rcases f with f|⟨b,off,F,hc⟩
 .exact .inl f
 .refine .inr ⟨b,off,F,λi K=>?_⟩;let ⟨d,l,r,c⟩:=hc i K;exact⟨d,l,E _ _ r,λj P=>B _ _ _<|c j P⟩
def Cu.mono{H b:FH}{c v}(a:Cu H c v)(d:cz H b):Cu b c v:=m'.mono a d λ_ _ a=>a
def sI.mono{H b:FH}{c vs}(a:sI H c vs)(d:cz H b):sI b c vs:=by let ⟨m,e,a⟩:=a;exact⟨m,e,a.mono d⟩
def dk.mono{H k:FH}(d:cz H k):∀(f:ET)(x:f.den)(vs:V bH),dk H f x vs->dk k f x vs
 | .int _,_,_,c=>c
 | .bool,_,_,c=>c
 | .z,_,_,c=>sI.mono c d
 | .q,_,_,c=>by let ⟨a,b,g,i,h2⟩:=c;exact⟨a,b,g,i.mono d,h2.mono d⟩
 | .sl f,_,_,c=>by let ⟨v,g,i⟩:=c;exact⟨v,g,i.mono d<|λx l=>dk.mono d f x l⟩
 | .pr A B,_,_,c=>by let ⟨a,b,g,i,h2⟩:=c;exact⟨a,b,g,dk.mono d A _ _ i,dk.mono d B _ _ h2⟩
def sI.length{H a vs}(b:sI H a vs):G vs=2:=by obtain⟨m,rfl,_⟩:=b;rfl
def dk.length{H:FH}:∀(d:ET)(x:d.den)(vs:V bH),dk H d x vs->G vs=d.n
 | .int _,_,_,c=>by simp only[dk]at c;subst c;rfl
 | .bool,_,_,c=>by simp only[dk]at c;subst c;rfl
 | .z,_,_,c=>sI.length c
 | .q,_,_,c=>by obtain⟨a,b,rfl,f,g⟩:=c;simp[f.length,g.length]
 | .sl d,_,_,c=>by obtain⟨v,rfl,_⟩:=c;rfl
 | .pr A B,_,_,c=>by obtain⟨a,b,rfl,f,g⟩:=c;simp[dk.length A _ _ f,dk.length B _ _ g]
structure MP where
 p:FH->bH->Prop
 mono:∀H a v,cz H a->p H v->p a v
inductive C where
 |any
 |B (b:Bool)
 |I (k:Cs) (n:Z)
 |V (v:bH)
 |S (d:ET) (xs:List d.den)
 |P (c a:Nat)
 |X (c:Nat)
 |Y (c:Nat) (n i a:Nat)
 |E (d:ET) (x:d.den) (a:Nat)
 |M (m:MP)
 |L (c a len:Nat) (cap:bF Nat)
 |W (c a len:Nat)
inductive AV where
 |c (x:C)
 |a (b:V C)
 |t (vs:V (Bool×V C))
def av:(a:ET)->a.den->V C
 | .int k,n=>[.I k n]
 | .bool,b=>[.B b]
 | .z,c=>[.B (bK c),.S (.int .u32)<|de c]
 | .q,r=>[.B (bK r.num),.S (.int .u32)<|de r.num,.B<|bK (r.den:Z),.S (.int .u32)<|de (r.den:Z)]
 | .sl a,xs=>[.S a xs]
 | .pr d B,x=>av d x.1++av B x.2
structure Gh where
 H:FH
 γ:I->bH
def cP:bH->bF I
 | .pointer (some a)=>some a.block
 | .slice (some a) _ _=>some a.block
 |_=>none
def dn(g:Gh):C->bH->Prop
 | .any,_=>True
 | .B b,v=>v= .bool b
 | .I k n,v=>v= .int k n
 | .V Q,v=>v=Q
 | .S d xs,v=>m' (dk g.H d) d.n g.H xs v
 | .P id off,v=>∃b,cP (g.γ id)=some b/\v= .pointer (some ⟨b,off,none⟩)
 | .X id,v=>v=g.γ id
 | .Y id n i off,v=>∃b a f,g.γ id= .slice (some ⟨b,0,none⟩) a f/\v= .pointer (some ⟨b,i*n+off,none⟩)
 | .E d x off,v=>∃b F l,v= .pointer (some ⟨b,F+off,none⟩)/\dk g.H d x l/\∀r(R:r<G l),g.H b (F+r)=some l[r]
 | .M m,v=>m.p g.H v
 | .L id off a (some c),v=>∃b,cP (g.γ id)=some b/\v= .slice (some ⟨b,off,none⟩) a c
 | .L id off a none,v=>off=0/\∃b c,g.γ id= .slice (some ⟨b,0,none⟩) 0 c/\v= .slice (some ⟨b,0,none⟩) a c/\a<=c
 | .W id off a,v=>∃b c,cP (g.γ id)=some b/\v= .slice (some ⟨b,off,none⟩) a c/\a<=c
def bL(g:Gh):V C->V bH->Prop
 |[],vs=>vs=[]
 |c::cs,vs=>∃v r,vs=v::r/\dn g c v/\bL g cs r
def Ah(g:Gh):Bool×V C->bH->Prop
 | (ae,cs),v=>∃vs,v= .agg vs.toArray/\bL g cs vs
 | (ah,[c]),v=>dn g c v
 | (ah,_),_=>False
def dt(g:Gh):V (Bool×V C)->V bH->Prop
 |[],vs=>vs=[]
 |a::b,vs=>∃v r,vs=v::r/\Ah g a v/\dt g b r
def bI(g:Gh):AV->bH->Prop
 | .c x,v=>dn g x v
 | .a cs,v=>∃vs,v= .agg vs.toArray/\bL g cs vs
 | .t b,v=>∃vs,v= .tuple vs.toArray/\dt g b vs
def bL.length{g:Gh}:∀{b:V C}{vs:V bH},bL g b vs->G vs=G b
 |[],_,a=>by simp only[bL]at a;subst a;rfl
 |_::b,_,a=>by obtain⟨v,r,rfl,_,a⟩:=a;simp[bL.length a]
def bL.append{g:Gh}:∀{b c:V C}{vs d:V bH},bL g b vs->bL g c d->bL g (b++c) (vs++d)
 |[],_,_,_,a,k=>by simp only[bL]at a;subst a;exact k
 |_::b,_,_,_,a,k=>by obtain⟨v,r,rfl,f,i⟩:=a;exact⟨v,_,J,f,bL.append i k⟩
def agI{g:Gh}{a v}(b:Cu g.H a v):dn g (.S (.int .u32) a) v:=b
def JF{g:Gh}{b vs}(a:sI g.H b vs):bL g (av .z b) vs:=by obtain⟨m,rfl,a⟩:=a;exact⟨_,_,J,J,_,_,J,agI a,J⟩
def Cv{g:Gh}:∀(d:ET)(x:d.den)(vs:V bH),dk g.H d x vs->bL g (av d x) vs
 | .int _,_,_,c=>by simp only[dk]at c;subst c;exact⟨_,_,J,J,J⟩
 | .bool,_,_,c=>by simp only[dk]at c;subst c;exact⟨_,_,J,J,J⟩
 | .z,_,_,c=>JF c
 | .q,r,_,c=>by obtain⟨a,b,rfl,f,i⟩:=c;exact bL.append (JF f)<|JF i
 | .sl d,_,_,c=>by obtain⟨v,rfl,c⟩:=c;exact⟨_,_,J,c,J⟩
 | .pr A B,_,_,c=>by obtain⟨a,b,rfl,f,i⟩:=c;exact bL.append (Cv A _ _ f)<|Cv B _ _ i
def Ft{g:Gh}:∀{cs ds:V C}{vs:V bH},bL g (cs++ds) vs->∃a b,vs=a++b/\bL g cs a/\bL g ds b
 |[],_,vs,c=>⟨[],vs,J,J,c⟩
 |_::cs,_,_,c=>by obtain⟨v,r,rfl,d,f⟩:=c;obtain⟨a,b,rfl,i,k⟩:=Ft f;exact⟨v::a,b,J,⟨v,a,J,d,i⟩,k⟩
def Pk{g:Gh}{a vs}(d:bL g (av .z a) vs):sI g.H a vs:=by obtain⟨v,r,rfl,b,m,i,rfl,f,c⟩:=d;simp only[bL]at c;simp only[dn]at b;subst c b;exact⟨m,J,f⟩
def yx{g:Gh}:∀(i:ET)(x:i.den)(vs:V bH),bL g (av i x) vs->dk g.H i x vs
 | .int _,_,_,d=>by obtain⟨v,r,rfl,f,c⟩:=d;simp only[bL]at c;simp only[dn]at f;subst f c;rfl
 | .bool,_,_,d=>by obtain⟨v,r,rfl,f,c⟩:=d;simp only[bL]at c;simp only[dn]at f;subst f c;rfl
 | .z,_,_,d=>Pk d
 | .q,r,vs,d=>by obtain⟨a,b,rfl,f,c⟩:=Ft (cs:=av .z r.num) (ds:=av .z (r.den:Z)) d;exact⟨a,b,J,Pk f,Pk c⟩
 | .sl i,_,_,d=>by obtain⟨v,r,rfl,f,c⟩:=d;simp only[bL]at c;subst c;exact⟨v,J,f⟩
 | .pr A B,x,vs,d=>by obtain⟨a,b,rfl,f,c⟩:=Ft (cs:=av A x.1) (ds:=av B x.2) d;exact⟨a,b,J,yx A _ _ f,yx B _ _ c⟩
def C.ar:C->List Nat
 | .P id _=>[id]
 | .X id=>[id]
 | .Y id _ _ _=>[id]
 | .L id _ _ _=>[id]
 | .W id _ _=>[id]
 |_=>[]
def cy:V C->V I
 |[]=>[]
 |c::cs=>c.ar++cy cs
def fN:V (Bool×V C)->V I
 |[]=>[]
 |a::b=>cy a.2++fN b
def AV.ar:AV->V I
 | .c x=>x.ar
 | .a cs=>cy cs
 | .t b=>fN b
structure iT(a:I->Prop)(g c:Gh):Prop where
 H:cz g.H c.H
 γ:∀b,a b->c.γ b=g.γ b
def dn.mono{known:I->Prop}{g r:Gh}(f:iT known g r):∀{c:C}{v:bH},(∀d∈c.ar,known d)->dn g c v->dn r c v
 | .any,_,_,_=>trivial
 | .B _,_,_,a=>a
 | .I _ _,_,_,a=>a
 | .V _,_,_,a=>a
 | .S n _,_,_,a=>m'.mono a f.H<|λx p=>dk.mono f.H n x p
 | .P d _,_,i,a=>by let ⟨b,k,a⟩:=a;exact⟨b,by rw[f.γ d (i d Cw)];exact k,a⟩
 | .X d,_,i,a=>by simp only[dn]at a⊢;rw[f.γ d (i d Cw)];exact a
 | .Y d _ _ _,_,i,a=>by let ⟨b,l,c,k,a⟩:=a;exact⟨b,l,c,by rw[f.γ d (i d Cw)];exact k,a⟩
 | .E n _ _,_,_,a=>by let ⟨b,o,p,k,F,h2⟩:=a;exact⟨b,o,p,k,dk.mono f.H n _ _ F,λj K=>f.H _ _ _<|h2 j K⟩
 | .M m,_,_,a=>m.mono _ _ _ f.H a
 | .L d _ _ (some _),_,i,a=>by let ⟨b,k,a⟩:=a;exact⟨b,by rw[f.γ d (i d Cw)];exact k,a⟩
 | .L d _ _ none,_,i,a=>by let ⟨Q,b,c,k,a⟩:=a;exact⟨Q,b,c,by rw[f.γ d (i d Cw)];exact k,a⟩
 | .W d _ _,_,i,a=>by let ⟨b,c,k,a⟩:=a;exact⟨b,c,by rw[f.γ d (i d Cw)];exact k,a⟩
def bL.mono{known:I->Prop}{g f:Gh}(i:iT known g f):∀{c:V C}{vs:V bH},(∀b∈cy c,known b)->bL g c vs->bL f c vs
 |[],_,_,d=>d
 |_::_,_,k,d=>by let ⟨v,r,l,m,h2⟩:=d;exact⟨v,r,l,dn.mono i (λb a=>k b<|by simp[cy,a]) m,bL.mono i (λb a=>k b<|by simp[cy,a]) h2⟩
def Ah.mono{known:I->Prop}{g k:Gh}(l:iT known g k):∀{b:Bool×V C}{v:bH},(∀d∈cy b.2,known d)->Ah g b v->Ah k b v
 | (ae,_),_,f,a=>by let ⟨vs,m,a⟩:=a;exact⟨vs,m,bL.mono l f a⟩
 | (ah,[c]),_,f,a=>dn.mono l (λd i=>f d<|by simp[cy,i]) a
 | (ah,[]),_,_,a=>a
 | (ah,_::_::_),_,_,a=>a
def dt.mono{known:I->Prop}{g f:Gh}(i:iT known g f):∀{c:V (Bool×V C)}{vs:V bH},(∀b∈fN c,known b)->dt g c vs->dt f c vs
 |[],_,_,d=>d
 |_::_,_,k,d=>by let ⟨v,r,l,m,h2⟩:=d;exact⟨v,r,l,Ah.mono i (λb a=>k b<|by simp[fN,a]) m,dt.mono i (λb a=>k b<|by simp[fN,a]) h2⟩
def bI.mono{known:I->Prop}{g k:Gh}(f:iT known g k):∀{x:AV}{v:bH},(∀l∈x.ar,known l)->bI g x v->bI k x v
 | .c _,_,d,b=>dn.mono f d b
 | .a _,_,d,b=>by let ⟨vs,i,b⟩:=b;exact⟨vs,i,bL.mono f d b⟩
 | .t _,_,d,b=>by let ⟨vs,i,b⟩:=b;exact⟨vs,i,dt.mono f d b⟩
def val:V Z->Z
 |[]=>0
 |a::r=>a+4294967296*val r
def bM(a:V Z):Prop:=∀w∈a,0<=w/\w<4294967296
def Pl:bM []:=λ_ h=>by cases h
def yy{a}{b}:bM (a::b)↔(0<=a/\a<4294967296)/\bM b:=by simp[bM]
def j5{a}(b:bM a) n:bM (y n a):=λw c=>b w<|Ai c
def yz{a}(b:bM a) n:bM (aE n a):=λw c=>b w<|List.mem_of_mem_drop c
def Pm{a b}(c:bM a)(k:bM b):bM (a++b):=λw d=>(b8.mp d).elim (c w)<|k w
def yA{b}(c:bM b) i{a}(d:0<=a/\a<4294967296):bM (b.set i a):=λx f=>(List.mem_or_eq_of_mem_set f).elim (c x)<|λe=>e▸d
def rh n:bM (List.replicate n 0):=λw a=>by have:=Fu a;subst this;decide
def dp{a}(c:bM a) i:0<=Y a i 0/\Y a i 0<4294967296:=by
 by_cases b:i<G a
 .simp only[aF,bD b,Aj];exact c _<|j6 b
 .simp[aF,lG<|yB b]
def Cx a b:val (a++b)=val a+4294967296^G a*val b:=by
 induction a with
 |nil=>simp[val]
 |cons w r c=>simp only[kU,val,c,fu,dK];grind
def agJ ws i(a:i<G ws):val (y (i+1) ws)=val (y i ws)+Y ws i 0*4294967296^i:=by rw[mM,Cx,il,pj<|Cy a];simp[bD a,val,aF];grind
def na ws i(a:G ws<=i):val (y i ws)=val ws:=by rw[iI a]
def lH ws i:val (y (i+1) ws)=val (y i ws)+Y ws i 0*4294967296^i:=by
 by_cases h:i<G ws
 .exact agJ ws i h
 .rw[na ws _ S,na ws i S];simp[aF,lG<|yB h]
def Pn ws i a(h:i<G ws):val (ws.set i a)=val ws+(a-Y ws i 0)*4294967296^i:=by
 induction ws generalizing i with
 |nil=>simp at h
 |cons x r b=>
  cases i with
  |zero=>simp[val];omega
  |succ i=>
   have:=b i du
   simp only[Fv,val,this,Po,dK];grind
def JG n:val (List.replicate n 0)=0:=by
 induction n with
 |zero=>rfl
 |succ n a=>simp[uc,val,a]
def mN{a}(b:bM a):0<=val a:=by
 induction a with
 |nil=>exact gk _
 |cons w r c=>
  let ⟨d,h2⟩:=yy.mp b
  have:=c h2
  simp only[val];omega
def nC{a}(b:bM a):val a<4294967296^G a:=by
 induction a with
 |nil=>decide
 |cons w r c=>
  let ⟨d,h2⟩:=yy.mp b
  have:=c h2
  simp only[val,fu,dK];omega
def agK:∀(f g n:I),n<=f->n<=g->yw f n=yw g n:=by
 intro f;induction f with
 |zero=>
  intro g n h _;have:n=0:=by omega
  subst this;cases g<;>simp[yw]
 |succ f a=>
  intro g n b c
  cases g with
  |zero=>
   have:n=0:=by omega
   subst this;simp[yw]
  |succ g=>
   simp only[yw]
   split
   .rfl
   .rw[a g (n/4294967296) S S]
def Cz:aj 0=[]:=rfl
def wP{n}(a:n≠0):aj n=((n%4294967296:I):Z)::aj (n/4294967296):=by
 unfold aj;obtain⟨m,rfl⟩:∃m,n=m+1:=⟨n-1,S⟩;conv=>lhs;unfold yw
 rw[M a,agK m _ _ S<|a8 _]
def eN n:val (aj n)=n:=by
 induction n using Wj with
 |ind n a=>
  by_cases h:n=0
  .subst h;rfl
  .rw[wP h];simp only[val,a (n/4294967296) S];omega
def eh n:bM (aj n):=by
 induction n using Wj with
 |ind n a=>
  by_cases h:n=0
  .subst h;exact Pl
  .rw[wP h];exact yy.mpr ⟨S,a _ S⟩
def can(a:V Z):Prop:=a=[]\/Y a (G a-1) 0≠0
def agL{b}(i:bM b)(a:can b):b=aj (ad<|val b):=by
 induction b with
 |nil=>rfl
 |cons w r d=>
  let ⟨m,h2⟩:=yy.mp i
  have f:can r:=by
   cases r with
   |nil=>exact .inl J
   |cons x s=>exact .inr (by rcases a with a|a;cases a;simpa using a)
  have n:=mN h2
  have c:ad (val<|w::r)≠0:=by
   simp only[val];intro p;have g:w=0/\val r=0:=S;cases r with
   |nil=>rcases a with a|a;cases a;simp at a;exact a g.1
   |cons x s=>
    have:=d h2 f
    rw[g.2]at this
    exact absurd this (by simp[Cz])
  rw[wP c]
  have k:ad (val<|w::r)/4294967296=ad (val r):=by simp only[val];omega
  have l:((ad (val<|w::r)%4294967296:I):Z)=w:=by simp only[val];omega
  rw[k,l,<-d h2 f]
def ud n:can (aj n):=by
 induction n using Wj with
 |ind n b=>
  by_cases h:n=0
  .subst h;exact .inl J
  .rw[wP h];refine .inr ?_;by_cases h2:n/4294967296=0
   .rw[h2,Cz];simp;omega
   .have:=b (n/4294967296) S;rcases this with a|a
    .exfalso;have:=eN<|n/4294967296;rw[a]at this;simp[val]at this;omega
    .cases hw:aj (n/4294967296)with
     |nil=>rw[hw]at a;simp at a
     |cons x s=>rw[hw]at a;simpa using a
def gY(a:V Z):I->I
 |0=>0
 |n+1=>if Y a n 0=0 then gY a n else n+1
def au(a:V Z):V Z:=y (gY a<|G a) a
def Wl(a:V Z):∀n,gY a n<=n
 |0=>a8 _
 |n+1=>by simp only[gY];split;exact Nat.le_succ_of_le<|Wl a n;exact a8 _
def Wm(a:V Z):∀n,val (y (gY a n) a)=val (y n a)
 |0=>rfl
 |n+1=>by
  simp only[gY];split
  .rename_i b;rw[Wm a n,lH,b];omega
  .rfl
def Wn(a:V Z):∀n,gY a n=0\/Y a (gY a n-1) 0≠0
 |0=> .inl J
 |n+1=>by
  simp only[gY];split
  .exact Wn a n
  .rename_i h;exact .inr du
def Wo ws:val (au ws)=val ws:=by unfold au;rw[Wm,eE]
def Wp{a}(b:bM a):bM (au a):=j5 b _
def Fw ws:can (au ws):=by
 unfold au can;have a:=Wl ws<|G ws;rcases Wn ws (G ws)with h|h
 .left;rw[h];rfl
 .by_cases b:gY ws (G ws)=0
  .left;rw[b];rfl
  .right;rw[il,pj a,aF,yC S,<-aF];exact h
def pn{a}(b:bM a):au a=aj (ad<|val a):=by have:=agL (Wp b)<|Fw a;rwa[Wo]at this
def Pp n:au (aj n)=aj n:=by rw[pn (eh n),eN];simp
def uf{n:I}:(n:Z)<4294967296^G (aj n):=by have:=nC<|eh n;rwa[eN]at this
def kE n:(0:Z)<4294967296^n:=kV A
def ug{m n}(a:m<=n):(4294967296:Z)^m<=4294967296^n:=by obtain⟨k,rfl⟩:=Nat.exists_eq_add_of_le a;rw[Int.pow_add];have b:=kE m;have c:=kE k;have:(4294967296:Z)^m*1<=4294967296^m*4294967296^k:=ja S S;omega
def JH{a}(c:bM a)(d:can a)(b:a≠[]):(4294967296:Z)^(G a-1)<=val a:=by have f:0<G a:=bX.mpr b;have g:=lH a<|G a-1;rw[Nat.sub_add_cancel f,eE]at g;have i:Y a (G a-1) 0≠0:=d.resolve_left b;have k:=dp c<|G a-1;have l:=mN<|j5 c<|G a-1;have m:=kE<|G a-1;have n:1*(4294967296:Z)^(G a-1)<=Y a (G a-1) 0*4294967296^(G a-1):=iU S S;omega
def Ak{n k:I}(f:(n:Z)<4294967296^k):G (aj n)<=k:=by
 apply Decidable.byContradiction;intro b;have a:aj n≠[]:=by intro c;rw[c]at b;simp at b
 have d:=JH (eh n) (ud n) a;rw[eN]at d;have g:(4294967296:Z)^k<=4294967296^(G (aj n)-1):=ug S;omega
def JI{a b}(d:bM a)(f:bM b)(g:can b)(c:G a<G b):val a<val b:=by have k:=nC d;have l:=JH f g (by intro i;rw[i]at c;simp at c);have m:(4294967296:Z)^G a<=4294967296^(G b-1):=ug S;omega
def JJ{a b}(d:bM a)(f:bM b) i(g:aE (i+1) a=aE (i+1) b)(n:G a=G b)(p:i<G a)(r:Y a i 0<Y b i 0):val a<val b:=by
 have c:val a=val (y (i+1) a)+4294967296^(i+1)*val (aE (i+1) a):=by have:=Cx (y (i+1) a)<|aE (i+1) a;rwa[ri,il,pj S]at this
 have k:val b=val (y (i+1) b)+4294967296^(i+1)*val (aE (i+1) b):=by have:=Cx (y (i+1) b)<|aE (i+1) b;rwa[ri,il,pj S]at this
 rw[g]at c;rw[lH]at c k;have l:=nC<|j5 d i;rw[il,pj S]at l;have v:=mN<|j5 f i;have x:=kE i;have m:(Y a i 0+1)*(4294967296:Z)^i<=Y b i 0*4294967296^i:=iU S S;rw[nb]at m;omega
structure Kn1(M a b c v t u2 d f:Z):Prop where
 hM:0<M
 nD:2147483648<=a
 agM:a<4294967296
 Fy:0<=b
 Wq:b<4294967296
 Al:0<=c
 Wr:c<M
 ht:0<=t
 po:0<=u2
 agN:u2<4294967296
 JK:0<=d
 agO:d<M
 ev:v=(a*4294967296+b)*M+c
 eu:f=(t*4294967296+u2)*M+d
 lt:f<v*4294967296
namespace Kn1
variable{M v1 v2 v' v t u2 u' u:Z}(h:Kn1 M v1 v2 v' v t u2 u' u)
include h
def CA:0<v:=by have a:=h.ev;have:0<(v1*4294967296+v2)*M:=Am (by have:=h.nD;have:=h.Fy;omega) h.hM;have:=h.Al;omega
def vge:4294967296*M<=v:=by have a:=h.ev;have b:4294967296*M<=(v1*4294967296+v2)*M:=iU (by have:=h.nD;have:=h.Fy;omega) vw;have:=h.Al;omega
def vlt:v<(v1+1)*4294967296*M:=by have a:=h.ev;have b:(v1*4294967296+v2+1)*M<=(v1+1)*4294967296*M:=iU (by have:=h.Wq;omega) vw;have c:(v1*4294967296+v2+1)*M=(v1*4294967296+v2)*M+M:=Fz;have:=h.Wr;omega
def Ws:t*4294967296*M<=u:=by have a:=h.eu;have b:t*4294967296*M<=(t*4294967296+u2)*M:=iU (by have:=h.po;omega) vw;have:=h.JK;omega
def Wt:u<(t*4294967296+u2+1)*M:=by have a:=h.eu;have b:(t*4294967296+u2+1)*M=(t*4294967296+u2)*M+M:=Fz;have:=h.agO;omega
def Wu:t<(v1+1)*4294967296:=by
 have d:=h.Ws;have f:=h.lt;have g:=h.vlt;have a:t*(4294967296*M)<(v1+1)*4294967296*(4294967296*M):=by
  have b:t*(4294967296*M)=t*4294967296*M:=by rw[jb]
  have c:(v1+1)*4294967296*(4294967296*M)=(v1+1)*4294967296*M*4294967296:=by rw[jb _ M,ew M]
  rw[b,c];omega
 exact agR a vw
def CB:u/v<4294967296:=CC h.CA (by rw[ew];exact h.lt)
def q0:0<=u/v:=by refine uh ?_ (by have:=h.CA;omega);have:=h.Ws;have:0<=t*4294967296*M:=jm (by have:=h.ht;omega) vw;omega
def agS:u/v*v<=u:=Int.ediv_mul_le u (by have:=h.CA;omega)
def first:u/v<=t/v1:=by
 apply agT (by have:=h.nD;omega);have a:=h.agS;have g:u/v*(v1*4294967296*M)<=u/v*v:=ja (by have a:=h.ev;have b:v1*4294967296*M<=(v1*4294967296+v2)*M:=iU (by have:=h.Fy;omega) vw;have:=h.Al;omega) h.q0;have b:=h.Wt;have i:(t*4294967296+u2+1)*M<=(t+1)*4294967296*M:=iU (by have:=h.agN;omega) vw;have c:u/v*v1*(4294967296*M)<(t+1)*(4294967296*M):=by
  have d:u/v*v1*(4294967296*M)=u/v*(v1*4294967296*M):=by simp only[jb]
  have f:(t+1)*(4294967296*M)=(t+1)*4294967296*M:=by simp only[jb]
  rw[d,f];omega
 have:=agR c vw;omega
def down{a r:Z}(c:t=a*v1+r)(b:0<=a)(d:a*v2>r*4294967296+u2):u/v<a:=by
 apply CC h.CA;have f:=h.Wt;have g:(t*4294967296+u2+1)*M<=a*(v1*4294967296+v2)*M:=iU (by
  have e:a*(v1*4294967296+v2)=a*v1*4294967296+a*v2:=by rw[nc,jb]
  rw[e];generalize a*v1=x at*;generalize a*v2=y at*;omega) vw
 have i:a*v=a*(v1*4294967296+v2)*M+a*v':=by rw[h.ev,nc,jb a]
 have k:0<=a*v':=jm b h.Al;omega
def close{a r:Z}(b:t=a*v1+r)(c:0<=a)(d:a<4294967296)(f:a*v2<=r*4294967296+u2):a-1<=u/v:=by
 apply agT h.CA;have g:a*(v1*4294967296+v2)*M<=(t*4294967296+u2)*M:=iU (by
  have e:a*(v1*4294967296+v2)=a*v1*4294967296+a*v2:=by rw[nc,jb]
  rw[e];generalize a*v1=x at*;generalize a*v2=y at*;omega) vw
 have i:a*v=a*(v1*4294967296+v2)*M+a*v':=by rw[h.ev,nc,jb a]
 have k:a*v'<=4294967296*M:=wQ S (by have:=h.Wr;omega) h.Al A;have l:=h.vge;have m:=h.eu;have n:=h.JK;have p:(a-1)*v=a*v-v:=by rw[An,j7]
 omega
def agU{a r:Z}(d:t=a*v1+r)(f:4294967296<=r):a<4294967296:=by
 have b:=h.Wu;have g:=h.nD;by_cases c:a<4294967296
 .exact c
 .exfalso;have:4294967296*v1<=a*v1:=iU S S;have e:(v1+1)*4294967296=v1*4294967296+4294967296:=Fz;rw[e]at b;omega
def small{a r:Z}(f:t=a*v1+r)(g:0<=r):a<=4294967297:=by
 have b:=h.Wu;have i:=h.nD;have c:=h.agM;by_cases d:a<=4294967297
 .exact d
 .exfalso;have:4294967298*v1<=a*v1:=iU S S;have e:(v1+1)*4294967296=v1*4294967296+4294967296:=Fz;rw[e]at b;omega
end Kn1
section
variable{κ ι:Type}[DecidableEq κ]
def bf(a:V (κ×bF ι))(k:κ):bF (bF ι):=
 match a with
 |[]=>none
 | (b,x)::r=>if b=k then some x else bf r k
def dB(a:κ->bF ι)(b:V (κ×bF ι)):κ->bF ι:=λk=>
 match bf b k with
 |some x=>x
 |none=>a k
def fold(b:I->V (κ×bF ι))(a:κ->bF ι)(c:V I):κ->bF ι:=c.foldl (λa i=>dB a<|b i) a
def qo(a:V (κ×bF ι))(k:κ):Bool:=(bf a k).isSome
def agV{c:κ->bF ι}{a:V (κ×bF ι)}{k:κ}(b:qo a k=ah):dB c a k=c k:=by
 unfold qo at b;unfold dB;cases d:bf a k with
 |none=>rfl
 |some x=>rw[d]at b;simp at b
def agW{b a:κ->bF ι}{c:V (κ×bF ι)}{k:κ}(d:b k=a k):dB b c k=dB a c k:=by unfold dB;rw[d]
def Wv(c:I->V (κ×bF ι))(k:κ):∀(b:V I){f a:κ->bF ι},f k=a k->fold c f b k=fold c a b k
 |[],_,_,d=>d
 |i::b,_,_,d=>Wv c k b<|agW d
def fold_filter(a:I->V (κ×bF ι))(k:κ):∀(b:V I)(c:κ->bF ι),fold a c b k=fold a c (b.filter λi=>qo (a i) k) k
 |[],_=>rfl
 |i::b,c=>by
  cases h:qo (a i) k with
  |true=>
   rw[agX du]
   exact fold_filter a k b _
  |false=>
   rw[agY (by simp[h])]
   have d:=fold_filter a k b c
   rw[<-d]
   exact Wv a k b<|agV h
def Pq(a:I->V (κ×bF ι))(b:κ->bF ι)(c:V I)(i:I):fold a b (c++[i])=dB (fold a b c) (a i):=by simp[fold]
def Ps:∀{l m:V I},l.Pairwise (·<·)->m.Pairwise (·<·)->(∀x,x∈l↔x∈m)->l=m
 |[],[],_,_,_=>rfl
 |[],i::m,_,_,c=>absurd ((c i).2<|Ao) ax
 |x::l,[],_,_,c=>absurd ((c x).1<|Ao) ax
 |x::l,i::m,hl,hm,c=>by
  have d:=im.1 hl;have f:=im.1 hm;have n:x=i:=by
   have g:=(c x).1<|Ao;have p:=(c i).2<|Ao;rcases df.1 g with e|g
   .exact e
   .rcases df.1 p with e|p
    .exact e.symm
    .have a:=f.1 x g;have b:=d.1 i p;omega
  subst n;congr 1;refine Ps d.2 f.2<|λz=>?_;constructor
  .intro k;rcases df.1 ((c z).1<|uj _ k)with e|g
   .have:=d.1 z k;omega
   .exact g
  .intro k;rcases df.1 ((c z).2<|uj _ k)with e|g
   .have:=f.1 z k;omega
   .exact g
def agZ(n:I):(be n).Pairwise (·<·):=FA
structure rj(n:I)(a:I->I->Prop)(s:V I):Prop where
 nodup:s.Nodup
 lt:∀i∈s,i<n
 closed:∀p i r,s=p++i::r->∀b,a b i->b∈p
def rj.nil(n:I)(a:I->I->Prop):rj n a []:=⟨List.nodup_nil,ax,λp i r h=>by simp at h⟩
def rj.snoc{n:I}{f:I->I->Prop}{c:V I}(l:rj n f c){i:I}(Q:i<n)(H:i∉c)(P:∀g,f g i->g∈c):rj n f (c++[i]):=by
 refine⟨?_,?_,?_⟩
 .rw[Pt];exact⟨l.nodup,ax,λa m b E=>by simp at E;subst E;exact λe=>H<|e▸m⟩
 .intro g d;rcases b8.1 d with d|d
  .exact l.lt g d
  .simp at d;omega
 .intro p k r F g d;rcases List.eq_nil_or_concat r with rfl|⟨v,x,rfl⟩
  .have B:c=p/\i=k:=by have:=List.append_inj' (s₁:=c) (t₁:=[i]) (s₂:=p) (t₂:=[k]) F J;exact⟨this.1,by simpa using this.2⟩
   obtain⟨rfl,rfl⟩:=B;exact P g d
  .have B:c=p++k::v:=by
    have C:c++[i]=(p++k::v)++[x]:=by rw[F];simp
    exact(List.append_inj' C J).1
   exact l.closed p k v B g d
def rj.Ww{n:I}{b:I->I->Prop}{c:V I}(l:rj n b c)(d:I->Bool)
  (E:∀i m,i<m->m<n->d i=ae->d m=ae->b i m):(c.filter d).Pairwise (·<·):=by
 have v:∀p r,c=p++r->(r.filter d).Pairwise (·<·):=by
  intro p r;induction r generalizing p with
  |nil=>intro _;simp
  |cons x r F=>
   intro f
   have g:=F (p++[x]) (by rw[f];simp)
   cases hx:d x with
   |false=>rw[agY iB];exact g
   |true=>
    rw[agX hx,im]
    refine⟨λy H=>?_,g⟩
    let ⟨k,B⟩:=sJ.1 H
    have C:x∈c:=by rw[f];simp
    have K:x≠y:=by intro e;have:=l.nodup;rw[f,Pt]at this;have:=this.2.1;rw[yD]at this;exact this.1<|e▸k
    rcases oG x y with a|P
    .exact a
    .have a:y<x:=by omega
     have Q:=E y x a (l.lt x C) B hx;have R:=l.closed p x r f y Q;have:=l.nodup;rw[f,Pt]at this;exact absurd J<|this.2.2 y R y<|uj _ k
 exact v [] c J
def Wx(n:I)(a:I->Bool):((be n).filter a).Pairwise (·<·):=(agZ n).filter _
def rj.read{n:I}{c:I->I->Prop}{f:V I}(m:rj n c f)(d:I->V (κ×bF ι))(F:κ->bF ι)(k:κ)(i:I)(hi:i<n)(H:i∉f)
  (Q:∀P,c P i->P∈f)
  (R:∀a b,a<b->b<n->qo (d a) k=ae->qo (d b) k=ae->c a b)
  (U:∀a,a<i->qo (d a) k=ae->c a i) (W:∀b,i<b->b<n->qo (d b) k=ae->c i b):
  fold d F f k=fold d F (be i) k:=by
 rw[fold_filter d k f,fold_filter d k<|be i]
 congr 1
 refine Ps (m.Ww _<|λa b v B X e=>R a b v B X e) (Wx i _)<|λx=>?_
 rw[sJ,sJ,jO]
 constructor
 .rintro⟨g,l⟩;refine⟨?_,l⟩;rcases CE x i with C|he|E
  .exact C
  .exact absurd g<|he▸H
  .have B:=W x E (m.lt x g) l;let ⟨p,r,K⟩:=yE g;have:=m.closed p x r K i B;exact absurd (by rw[K];exact fC _ this) H
 .rintro⟨g,l⟩;exact⟨Q x<|U x g l,l⟩
def rj.all{n:I}{d:I->I->Prop}{g:V I}(p:rj n d g)(c:I->V (κ×bF ι))(r:κ->bF ι)(f:∀i,i<n->i∈g)
  (v:∀k a b,a<b->b<n->qo (c a) k=ae->qo (c b) k=ae->d a b):fold c r g=fold c r (be n):=by
 funext k
 rw[fold_filter c k g,fold_filter c k<|be n]
 congr 1
 refine Ps (p.Ww _<|λa b l B C E=>v k a b l B C E) (Wx n _)<|λx=>?_
 rw[sJ,sJ,jO]
 exact⟨λ⟨m,q⟩=>⟨p.lt x m,q⟩,λ⟨m,q⟩=>⟨f x m,q⟩⟩
end
inductive aH where
 |box (E:eL) (sz:I) (a:V C)
 |vec (E:eL) (b:ET) (xs:V b.den)
 |fX (f:FuncId) (first caps:V (Bool×V C))
 |fz (E:eL) (a:V C)
inductive Key where
 |s (t:I)
 |m (a:I)
 deriving DecidableEq
inductive Info where
 |v (x:AV)
 |b (x:aH)
def aH.ar:aH->V I
 | .box _ _ cs=>cy cs
 | .vec _ _ _=>[]
 | .fX _ first caps=>fN first++fN caps
 | .fz _ cs=>cy cs
def Info.ar:Info->V I
 | .v x=>x.ar
 | .b x=>x.ar
abbrev Kn:=Key->bF Info
def Sub(H:FH)(a:da):Prop:=∀b o v,H b o=some v->a.cell? ⟨b,o,none⟩=some v
def jn(m:I->Prop)(g:Gh)(W:da)(d:I):aH->Prop
 | .box E sz cs=>∃b,∃vs rest:V bH,cP (g.γ d)=some b/\W.heap[b]? =some (.cells (vs++rest).toArray E (0,0))/\bL g cs vs/\m b/\(∀k,g.H b k=none)/\(sz≠0->∃c,g.γ d= .slice (some ⟨b,0,none⟩) 0 c/\G (vs++rest)=c*sz)
 | .vec E l xs=>(g.γ d= .slice none 0 0/\xs=[])\/∃b a,∃vs:V bH,g.γ d= .slice (some ⟨b,0,none⟩) (G xs) a/\W.heap[b]? =some (.cells vs.toArray E (0,0))/\
   G vs=a*l.n/\G xs<=a/\G xs*l.n<=140737488355328/\(∀i(v:i<G xs),dk g.H l xs[i] ((aE (i*l.n) vs).take l.n))/\m b/\∀k,g.H b k=none
 | .fX f first caps=>∃p r:V bH,g.γ d= .func (.func f) p.toArray r.toArray/\dt g first p/\dt g caps r
 | .fz E cs=>∃b,∃vs rest:V bH,cP (g.γ d)=some b/\W.heap[b]? =some (.cells (vs++rest).toArray E (0,0))/\bL g cs vs/\m b/\(∀k,g.H b k=(vs++rest)[k]?)
structure eF where
 w0:da
 H0:FH
 n:I
 own:I->Prop:=λ_=>False
 k0:I:=0
 γ0:I->bH:=λ_=>undef
 ds:V Deferred:=[]
 rd:bF I:=none
def eF.N(F:eF)(b:I):Prop:=F.w0.heap.size<=b\/F.own b
structure CF(own:I->Prop)(w a:da):Prop where
 os:a.os=w.os
 tape:a.tape=w.tape
 output:a.output=w.output
 size:w.heap.size<=a.heap.size
 block:∀k,k<w.heap.size->¬own k->a.heap[k]? =w.heap[k]?
structure bu(F:eF)(d:I->Prop)(i:Kn)(g:Gh)(W:da)(a:Act):Prop where
 size:a.tmps.size=F.n
 defers:a.defers=F.ds
 gM:∀t v,i (.s t)=some (.v v)->bI g v (a.tmps.getD t undef)
 db:∀c b,i (.m c)=some (.b b)->jn F.N g W c b
 inj:∀c f b l k,i (.m c)=some (.b b)->i (.m f)=some (.b l)->cP (g.γ c)=some k->cP (g.γ f)=some k->c=f
 ar:∀k x,i k=some x->∀c∈x.ar,d c
 fD:∀c x,i (.m c)=some x->d c
 sub:Sub g.H W
 below:CF F.own F.w0 W
 le:cz F.H0 g.H
 fresh:∀b o,b<F.w0.heap.size->¬F.own b->g.H b o=F.H0 b o
 iJ:∀c,c<F.k0->d c/\g.γ c=F.γ0 c
structure Ext(a d:I->Prop)(g:Gh)(W:da)(f:Gh)(c:da):Prop where
 le:iT a g f
 fresh:∀b o,b<W.heap.size->f.H b o=g.H b o
 sub:Sub f.H c
 size:W.heap.size<=c.heap.size
 heap:∀k,k<W.heap.size->(∀i,d i->cP (g.γ i)≠some k)->c.heap[k]? =W.heap[k]?
 os:c.os=W.os
 tape:c.tape=W.tape
 output:c.output=W.output
def jn.block{l:I->Prop}{g}{W}{m}{b}(i:jn l g W m b){k}(a:cP (g.γ m)=some k):l k/\k<W.heap.size:=by
 cases b with
 |box E sz cs=>
  let ⟨b,vs,rest,e,c,_,d,_⟩:=i
  rw[e]at a
  simp only[aR]at a
  subst a
  exact⟨d,(jP.1 c).1⟩
 |vec E T xs=>
  rcases i with⟨e,_⟩|⟨b,n,vs,e,c,_,_,_,_,d,_⟩
  .rw[e]at a;simp[cP]at a
  .rw[e]at a;simp only[cP,aR]at a;subst a;exact⟨d,(jP.1 c).1⟩
 |fX f first caps=>
  let ⟨us,ws,e,_⟩:=i
  rw[e]at a;simp[cP]at a
 |fz E cs=>
  let ⟨b,vs,rest,e,c,_,d,_⟩:=i
  rw[e]at a
  simp only[aR]at a
  subst a
  exact⟨d,(jP.1 c).1⟩
def jn.step{known chg:I->Prop}{Q:I->Prop}{g g'}{W W'}{id}{b}(r:jn Q g W id b)(hx:Ext known chg g W g' W')
  (eo:known id) (v:∀a∈b.ar,known a) (m:∀a k,chg a->cP (g.γ id)=some k->cP (g.γ a)≠some k):jn Q g' W' id b:=by
 cases b with
 |box E sz cs=>
  let ⟨b,vs,rest,e,d,x,n,p,hc⟩:=r
  have l:b<W.heap.size:=(jP.1 d).1
  refine⟨b,vs,rest,FC,?_,bL.mono hx.le v x,n,λo=>by rw[hx.fresh b o l];exact p o,by rw[hx.le.γ id eo];exact hc⟩
  rw[hx.heap b l (λa c=>m a b c e)];exact d
 |vec E T xs=>
  rcases r with⟨e,B⟩|⟨b,C,vs,e,d,F,K,P,R,n,p⟩
  .exact .inl ⟨FC,B⟩
  .have l:b<W.heap.size:=(jP.1 d).1;refine .inr ⟨b,C,vs,FC,?_,F,K,P,λi U=>dk.mono hx.le.H T _ _<|R i U,n,λo=>by rw[hx.fresh b o l];exact p o⟩;rw[hx.heap b l (λa c=>m a b c sK)];exact d
 |fX f first caps=>
  let ⟨us,ws,e,F,K⟩:=r
  exact⟨us,ws,FC,dt.mono hx.le (λa c=>v a<|fC _ c) F,dt.mono hx.le (λa c=>v a<|jo _ c) K⟩
 |fz E cs=>
  let ⟨b,vs,rest,e,d,x,n,p⟩:=r
  have l:b<W.heap.size:=(jP.1 d).1
  refine⟨b,vs,rest,FC,?_,bL.mono hx.le v x,n,λo=>by rw[hx.fresh b o l];exact p o⟩
  rw[hx.heap b l (λa c=>m a b c e)];exact d
def bu.step{F}{known chg:I->Prop}{P}{g g'}{W W'}{a a'}(i:bu F known P g W a)(E:Ext known chg g W g' W')
 wr new (FD:¬known new)
  (ki:a'.tmps.size=a.tmps.size) (hdf:a'.defers=F.ds)
  (ag1:∀Q,bf wr (.s Q)=none->a'.tmps.getD Q undef=a.tmps.getD Q undef)
  (Wy:∀d,chg d->bf wr (.m d)≠none/\∃b,P (.m d)=some (.b b))
  (hs:∀Q v,bf wr (.s Q)=some (some<|.v v)->bI g' v (a'.tmps.getD Q undef))
  (hb:∀d b,bf wr (.m d)=some (some<|.b b)->jn F.N g' W' d b/\((known d/\∃R,P (.m d)=some (.b R))\/(d=new/\∀k,cP (g'.γ d)=some k->W.heap.size<=k\/∃B R,P (.m B)=some (.b R)/\bf wr (.m B)=some none/\cP (g.γ B)=some k)))
  (hm:∀k x,bf wr k=some (some x)->∀d∈x.ar,known d\/d=new)
  (wR:∀d x,bf wr (.m d)=some (some x)->known d\/d=new):
  bu F (λd=>known d\/d=new) (dB P wr) g' W' a':=by
 have r:∀k x,dB P wr k=some x->(bf wr k=none/\P k=some x)\/bf wr k=some (some x):=by
  intro k x l;unfold dB at l;cases e:bf wr k with
  |none=>rw[e]at l;exact .inl ⟨J,l⟩
  |some y=>rw[e]at l;simp only at l;rw[l];exact .inr J
 refine⟨by rw[ki];exact i.size,hdf,?_,?_,?_,?_,?_,E.sub,?_,i.le.trans E.le.H,?_,λd f=>⟨.inl (i.iJ d f).1,by rw[E.le.γ d (i.iJ d f).1];exact(i.iJ d f).2⟩⟩
 .intro Q v ht;rcases r _ _ ht with⟨n,p⟩|n
  .rw[ag1 Q n];exact bI.mono E.le (λd f=>i.ar _ _ p d f)<|i.gM Q v p
  .exact hs Q v n
 .intro d b f;rcases r _ _ f with⟨n,p⟩|n
  .refine(i.db d b p).step E (i.fD _ _ p) (λB O=>i.ar _ _ p B O)<|λB k O l S=>?_;let ⟨C,R,K⟩:=Wy B O;have:=i.inj d B b R k p K l S;subst this;exact C n
  .exact(hb d b n).1
 .intro d q b R k f D l u;have low:∀d b,(bf wr (.m d)=none/\P (.m d)=some (.b b))\/bf wr (.m d)=some (some<|.b b)->cP (g'.γ d)=some k->
    (∃U,P (.m d)=some (.b U)/\cP (g.γ d)=some k/\k<W.heap.size/\bf wr (.m d)≠some none)\/(d=new/\(W.heap.size<=k\/∃B R,P (.m B)=some (.b R)/\bf wr (.m B)=some none/\cP (g.γ B)=some k)):=by
   intro d b w l
   rcases w with⟨n,p⟩|n
   .rw[E.le.γ d (i.fD _ _ p)]at l;exact .inl ⟨b,p,l,((i.db d b p).block l).2,by rw[n];simp⟩
   .rcases(hb d b n).2 with⟨T,U,p⟩|⟨rfl,V⟩
    .rw[E.le.γ d T]at l;exact .inl ⟨U,p,l,((i.db d U p).block l).2,by rw[n];simp⟩
    .exact .inr ⟨J,V k l⟩
  rcases low d b (r _ _ f) l with⟨c,n,p,Y,h4⟩|⟨e1,Y⟩<;>rcases low q R (r _ _ D) u with⟨c',G,L,z,Z⟩|⟨e1',z⟩
  .exact i.inj d q c c' k n G p L
  .rcases z with z|⟨B,bj,C,K,A⟩
   .omega
   .have:=i.inj d B c bj k n C p A;subst this;exact absurd K h4
  .rcases Y with Y|⟨B,bj,C,K,A⟩
   .omega
   .have:=i.inj q B c' bj k G C L A;subst this;exact absurd K Z
  .rw[e1,e1']
 .intro k x l d f;rcases r _ _ l with⟨_,p⟩|n
  .exact .inl<|i.ar _ _ p d f
  .exact hm k x n d f
 .intro d x l;rcases r _ _ l with⟨_,p⟩|n
  .exact .inl<|i.fD _ _ p
  .exact wR d x n
 .refine⟨E.os.trans i.below.os,E.tape.trans i.below.tape,E.output.trans i.below.output,cQ i.below.size E.size,λk l X=>?_⟩;have u:k<W.heap.size:=jD l i.below.size;rw[<-i.below.block k l X];refine E.heap k u<|λd f qq=>?_;let ⟨_,b,hσ⟩:=Wy d f;rcases((i.db d b hσ).block qq).1 with n|n
  .omega
  .exact X n
 .intro b o M X;rw[E.fresh b o (jD M i.below.size)];exact i.fresh b o M X
def bu.weaken{F}{d b:I->Prop}{m}{g}{W}{a}(c:bu F d m g W a)(l:∀f,d f->b f):bu F b m g W a:=
 ⟨c.size,c.defers,c.gM,c.db,c.inj,λk x e f i=>l _<|c.ar k x e f i,λf x e=>l _<|c.fD f x e,c.sub,c.below,c.le,c.fresh,λf i=>⟨l _ (c.iJ f i).1,(c.iJ f i).2⟩⟩
def bu.drew{F}{d:I->Prop}{i}{g}{W}{a}(c:bu F d i g W a):bu F d i g {W with drawn:=W.drawn+1} a:=by
 refine⟨c.size,c.defers,c.gM,?_,c.inj,c.ar,c.fD,c.sub,⟨c.below.os,c.below.tape,c.below.output,c.below.size,c.below.block⟩,c.le,c.fresh,c.iJ⟩;intro k b e;have:=c.db k b e;cases b with
 |box E sz cs=>exact this
 |vec E T xs=>exact this
 |fX f first caps=>exact this
 |fz E cs=>exact this
def iC(r:bF I):Fence:={Fence.wide with round:=r}
def yF(r:bF I)(a:Array dv):Prop:=∀(i:I)(o:dv),a[i]? =some o->r=none\/∀c,o.op≠ .defer c
def ag3{a}:yF none a:=λ_ _ _=> .inl J
def ag4{P}{c:Code}{Q:Exit->Act->da->Prop}{a}{b}{r}(d:r=none):c.wpIn (iC r) 0 P Q a b↔c.wp P Q a b:=by subst d;exact wpIn_wide
def Pu{P}{d}{i}{K:Act->da->Prop}{a}{W}{r}{Q:Exit->Act->da->Prop}(H:∀g,d[i]? =some g->r=none\/∀c,g.op≠ .defer c)(b:wpOp P d (λ_ _ _=>False) i K a W):
  wpOpIn (iC r) 0 P d Q i K a W:=by
 unfold wpOp at b
 unfold wpOpIn
 cases m:d[i]? with
 |none=>rw[m]at b;exact b
 |some g=>
  rw[m]at b
  simp only at b⊢
  split
  .rename_i p;rw[s p]at b;have f:g.wp P a W K (λ_ _ _=>False):=by
    rcases b with b|⟨_,_,_,B⟩
    .exact b
    .exact B.elim
   refine⟨λ_ _=>trivial,?_⟩;have k:(g.semAt (iC r).round a.eval)=execOp a.eval g:=by
    rcases H g m with C|C
    .subst C;exact Oper.semAt_none _ _
    .exact Oper.semAt_eq _ _ _ C
   rw[k];unfold uk at f;generalize (execOp a.eval g).run P W=x at f;cases x with
   |ok y R=>
    cases y<;>simp only[sL,Oper.uponIn]at f⊢
    all_goals first
     |exact f
     |exact f.elim
     |skip
    .refine⟨λhh=>JL,?_⟩;have U:=(callsIn_wide (n:=0)).2 f;refine CallsIn.mono (F:=iC r) U<|λe l k=>?_;cases e with
     |returned v=>exact k
     |panicked c=>exact k.elim
     |outgrown=>let ⟨_,_,B⟩:=k;exact B.elim
    .refine⟨λhh=>JL,?_⟩;intro c X _;let ⟨v,l,j,E⟩:=f c X;exact⟨v,l,j,stepsIn_wide.2 E⟩
   |halt y R=>
    cases y<;>simp only[sL]at f⊢<;>exact f.elim
  .rename_i p;rw[M p]at b;exact⟨λ_ _=>trivial,b⟩
def ml(P:cT)(n:I)(d:Array dv)(i:I)(r:V (Key×Info))(v:V (Key×bF Info))(c:I):Prop:=
 ∀(F:eF),F.n=n->∀(Q:Exit->Act->da->Prop)(b:I->Prop)(f:Kn)(g:Gh)(W:da)(a:Act)(K:Act->da->Prop),¬b c->bu F b f g W a->
  (∀k∈r,f k.1=some k.2)->(∀x l m,bu F (λp=>b p\/p=c) (dB f v) x l m->K m l)->wpOp P d Q i K a W
def yG(P:cT)(n:I)(f:Array dv)(i:I)(r:V (Key×Info))(v:V (Key×bF Info))(c:I->Prop):Prop:=
 ∀(F:eF),F.n=n->∀(Q:Exit->Act->da->Prop)(b:I->Prop)(k:Kn)(g:Gh)(W:da)(a:Act)(K:Act->da->Prop),(∀d,c d->¬b d)->bu F b k g W a->
  (∀l∈r,k l.1=some l.2)->(∀x m p,bu F (λd=>b d\/c d) (dB k v) x m p->K p m)->wpOp P f Q i K a W
def ml.Wz{P}{n}{c}{i}{p}{r}{m}(k:ml P n c i p r m){new:I->Prop}(v:new m):yG P n c i p r new:=by
 intro F x Q b B g W a K d f l C;refine k F x Q b B g W a K (d m v) f l<|λE H R U=>C E H R<|U.weaken ?_;rintro id (k|rfl)
 .exact .inl k
 .exact .inr v
def rq(c:I->I)(i:I):I->Prop:=λa=>c i<=a/\a<c (i+1)
def FE{c:I->I}(b:∀i,c i<=c (i+1)){i a}(d:i<=a):c i<=c a:=by
 induction d with
 |refl=>exact a8 _
 |step _ f=>exact cQ f<|b _
section
variable{P:cT}{ops:Array dv}{Q:Exit->Act->da->Prop}{F:eF}{σ:Kn}{rd:I->V (Key×Info)}{wr:I->V (Key×bF Info)}{nx:I}
def WA{b}{g}{W}{a}{c:I->I}(v:∀i,c i<=c (i+1))(x:bu F (·<c 0) σ g W a)
  (B:∀i,i<ops.size->yG P F.n ops i (rd i) (wr i) (rq c i))
  (E:∀i,i<ops.size->∀r∈rd i,fold wr σ (be i) r.1=some r.2)
  (H:∀g W a,bu F (·<c ops.size) (fold wr σ<|be ops.size) g W a->Q .normal a W) (d:yF F.rd ops):(Code.region b ops ah).wpIn (iC F.rd) 0 P Q a W:=by
 refine wpIn_region ?_
 have f:∀m k,k+m=ops.size->∀g W a,bu F (·<c k) (fold wr σ<|be k) g W a->wpOpsIn (iC F.rd) 0 P ops Q (List.range' k m) a W:=by
  intro m;induction m with
  |zero=>intro k l g W a h;simp only[jE]at l;subst l;exact H g W a h
  |succ m C=>
   intro k l g W a h
   rw[List.range'_succ,wpOpsIn_cons]
   refine Pu (d k) ?_
   refine B k S F J _ (·<c k) _ g W a _ (λb K j=>by simp only[rq]at K;omega) h (E k S)<|λR U X e=>?_
   refine C (k+1) S R U X ?_
   rw[nE,Pq]
   exact e.weaken (λb p=>by have:=v k;simp only[rq]at p;omega)
 have:=f ops.size 0 S g W a x
 rwa[<-List.range_eq_range']at this
inductive ob(ops:Array dv):I->I->Prop where
 |one {i a:I} {o:dv} {e:Edge} (b:ops[i]? =some o) (c:e∈o.after) (d:uo .any e=ae) (f:e.on=a):ob ops a i
 |more {i a k:I} {o:dv} {e:Edge} (b:ops[i]? =some o) (c:e∈o.after) (d:uo .any e=ae) (g:e.on=k) (h:ob ops a k):ob ops a i
def ob.closed{c:V I}{i}(d:∀k∈c,∀b,ob ops b k->b∈c)(a:∀m,ops[i]? =some m->∀n∈m.after,uo .any n=ae->n.on∈c):∀b,ob ops b i->b∈c:=by
 intro b f;cases f with
 |one g he l f=>subst f;exact a _ g _ he l
 |more g he l p h=>subst p;exact d _ (a _ g _ he l) b h
def oc(a:V (Key×bF Info)):V Key:=a.map (·.1)
def gn(a:V (Key×Info)):V Key:=a.map (·.1)
def CG{a}{k:Key}(b:qo a k=ae):k∈oc a:=by
 induction a with
 |nil=>simp[qo,bf]at b
 |cons p a c=>
  let ⟨d,x⟩:=p
  by_cases e:d=k
  .simp[oc,e]
  .have:qo a k=ae:=by simpa[qo,bf,e]using b
   have:=c this;simp only[oc,gZ,df];exact .inr this
def WB{id}{g}{W}{a}{c:I->I}(hc:∀i,c i<=c (i+1))(Ap:P.follows .mixedOrders=ae)(iD:∀i br B,ops[i]? =some br->B∈br.after->uo .any B=ae->B.on<i)(h0:bu F (·<c 0) σ g W a)
  (hs:∀i,i<ops.size->yG P F.n ops i (rd i) (wr i) (rq c i))
  (ht:∀i,i<ops.size->∀kx∈rd i,fold wr σ (be i) kx.1=some kx.2)
  (WC:∀i f,i<f->f<ops.size->∀k,k∈oc (wr i)->k∈oc (wr f)->ob ops i f)
  (yH:∀i f,i<f->f<ops.size->∀k,k∈oc (wr i)->k∈gn (rd f)->ob ops i f)
  (Pv:∀i f,i<f->f<ops.size->∀k,k∈gn (rd i)->k∈oc (wr f)->ob ops i f)
  (hQ:∀g W a,bu F (·<c ops.size) (fold wr σ<|be ops.size) g W a->Q .normal a W) (vz:yF F.rd ops):(Code.region id ops ae).wpIn (iC F.rd) 0 P Q a W:=by
 refine wpIn_region_any Ap ?_
 have key:∀E d s g W a,d.size=ops.size->rj ops.size (ob ops) s->(∀i,i<ops.size->(d.getD i ae=ae↔i∈s))->E+s.length=ops.size->
   bu F (λid=>id<c 0\/∃i∈s,rq c i id) (fold wr σ s) g W a->wpAnyIn (iC F.rd) 0 P .any ops Q E d a W:=by
  intro E
  induction E with
  |zero=>
   intro d s g W a M l y z h
   have C:∀i,i<ops.size->i∈s:=by
    intro i K;refine dQ λX=>?_
    have vz:(i::s).Nodup:=yD.2 ⟨X,l.nodup⟩;have N:i::s⊆be ops.size:=λx O=>by
     rcases df.1 O with rfl|O
     .exact jO.2 K
     .exact jO.2<|l.lt x O
    have:=vz.length_le_of_subset N;simp at this;omega
   refine⟨?_,?_⟩
   .cases hr:WD .any ops d with
    |nil=>rfl
    |cons x xs=>
     have O:x∈WD .any ops d:=by rw[hr];exact Ao
     let ⟨T,br,ho,_⟩:=mem_ready.1 O
     have V:x<ops.size:=(jP.1 ho).1
     have:=(y x V).2<|C x V
     rw[this]at T
     cases T
   .refine hQ g W a ?_;rw[<-l.all wr σ C (λk i f hij R H A=>WC i f hij R k (CG H)<|CG A)];refine h.weaken<|λid v=>?_;rcases v with v|⟨i,K,hf⟩
    .exact jD v<|FE hc<|aW _
    .have:=FE hc (show i+1<=ops.size from l.lt i K);simp only[rq]at hf;omega
  |succ E ih=>
   intro d s g W a M l y z h
   refine⟨λhr=>?_,λi K=>?_⟩
   .exfalso;have hex:∃i,i<ops.size/\i∉s:=by
     refine dQ λkj=>?_
     have C:∀i∈be ops.size,i∈s:=λi K=>dQ λX=>kj ⟨i,jO.1 K,X⟩
     have:=(List.nodup_range (n:=ops.size)).length_le_of_subset C;simp at this;omega
    have q:∀m,∀i,i<=m->i<ops.size->i∉s->∃i,i<ops.size/\i∉s/\∀f,f<i->f∈s:=by
     intro m;induction m with
     |zero=>intro i U u Y;exact⟨i,u,Y,λf R=>S⟩
     |succ m ihm=>
      intro i U u Y
      by_cases R:∃f,f<i/\f∉s
      .let ⟨f,WE,Aq⟩:=R;exact ihm f S S Aq
      .exact⟨i,u,Y,λf A=>dQ λX=>R ⟨f,A,X⟩⟩
    let ⟨i0,CH,WG⟩:=hex;let ⟨i,K,X,t⟩:=q i0 i0 (a8 _) CH WG;have:i∈WD .any ops d:=by
     rw[mem_ready];refine⟨?_,ops[i],by simp[K],λB he D=>?_⟩
     .cases hg:d.getD i ae with
      |false=>rfl
      |true=>exact absurd ((y i K).1 hg) X
     .have U:=iD i ops[i] B (by simp[K]) he D;have u:=(y B.on S).2<|t B.on U;have Y:B.on<d.size:=S;simpa[Y]using u
    rw[hr]at this;cases this
   .let ⟨Z,br,ho,C⟩:=mem_ready.1 K;have H:i<ops.size:=(jP.1 ho).1;have X:i∉s:=λCI=>by rw[(y i H).2 CI]at Z;cases Z
    have sM:∀k∈s,∀f,ob ops f k->f∈s:=by intro k hk f R;let ⟨p,r,Pw⟩:=yE hk;rw[Pw];exact fC _<|l.closed p k r Pw f R
    have G:∀o',ops[i]? =some o'->∀B∈o'.after,uo .any B=ae->B.on∈s:=by
     intro o' WH B he D;rw[ho]at WH;cases WH;have U:=C B he D;have iD:B.on<ops.size:=by
      rcases oG B.on d.size with u|u
      .omega
      .simp[Array.getElem?_eq_none u]at U
     refine(y B.on iD).1 ?_;have ag7:B.on<d.size:=S;simpa[ag7]using U
    have w:=ob.closed sM G;have kX:∀kx∈rd i,fold wr σ s kx.1=some kx.2:=by intro kx dL;have hk:kx.1∈gn (rd i):=kY.2 ⟨kx,dL,J⟩;rw[l.read wr σ kx.1 i H X w (λa b Ar D ha' vA=>WC a b Ar D _ (CG ha')<|CG vA) (λa ha hwa=>yH a i ha H _ (CG hwa) hk) (λb D hbn hwb=>Pv i b D hbn _ hk<|CG hwb)];exact ht i H kx dL
    refine Pu (vz i) ?_;refine hs i H F J _ _ _ g W a _ (λid hf WI=>?_) h kX<|λg' W' a' h'=>?_
    .rcases WI with WI|⟨f,R,B⟩
     .have:=FE hc<|aW i;simp only[rq]at hf;omega
     .have:i=f:=by
       simp only[rq]at hf B;rcases CE i f with U|U|U
       .have:=FE hc (show i+1<=f from U);omega
       .exact U
       .have:=FE hc (show f+1<=i from U);omega
      exact X<|this▸R
    .refine ih (d.setIfInBounds i ae) (s++[i]) g' W' a' (by simp[M]) (l.snoc H X w) (λf R=>?_) bP ?_
     .by_cases L:f=i
      .subst L;have:f<d.size:=S;simp[this]
      .rw[getD_set_ne ae (Ne.symm L),y f R];simp[L]
     .rw[Pq];refine h'.weaken<|λid v=>?_;rcases v with(v|⟨f,R,B⟩)|v
      .exact .inl v
      .exact .inr ⟨f,fC _ R,B⟩
      .exact .inr ⟨i,ax,v⟩
 refine key ops.size _ [] g _ a ax (rj.nil _ _) (λi K=>?_) ax ?_
 .simp[K]
 .exact h0.drew.weaken<|λid v=> .inl v
end
def kZ{a:Type}(b:I):V (I×a)->bF a
 |[]=>none
 | (k,x)::r=>if k=b then some x else kZ b r
inductive ZV where
 |b|i (k:Cs)|s|f|t|p
def ZV.gq:ZV->bH
 | .b=> .bool ah
 | .i k=> .int k 0
 | .s=> .slice none 0 0
 | .f=> .nilFunc
 | .t=> .string ⟨⟨[]⟩⟩
 | .p=> .pointer none
def ZV.ru:ZV->C
 | .b=> .B ah
 | .i k=> .I k 0
 | .s=> .V<|.slice none 0 0
 | .f=> .V .nilFunc
 | .t=> .V<|.string ⟨⟨[]⟩⟩
 | .p=> .V<|.pointer none
def ZV.ok:ZV->bH->Bool
 | .b,.bool ah=>ae
 | .i k,.int a n=>k=a&&n=0
 | .s,.slice none 0 0=>ae
 | .f,.nilFunc=>ae
 | .t,.string ⟨⟨[]⟩⟩=>ae
 | .p,.pointer none=>ae
 |_,_=>ah
def ZV.ok_eq:∀{a:ZV}{v:bH},a.ok v=ae->v=a.gq:=by
 intro a v h;unfold ZV.ok at h;split at h
 .rfl
 .simp only[eG,decide_eq_true_eq]at h;obtain⟨rfl,rfl⟩:=h;rfl
 .rfl
 .rfl
 .rfl
 .rfl
 .cases h
inductive TK where
 |int (k:Cs)|bool|sl (E:I)|st|arr (len E:I)|str|other
structure TI where
 kind:TK
 size:I
 bytes:I
 fields:V (I×I×Bool)
 zero:V ZV
abbrev TT:=V<|I×TI
def TI.agg(a:TI):Bool:=match a.kind with| .st=>ae| .arr _ _=>ae|_=>ah
def vB(P:cT)(a:eL):bF Bool:=match P.underlying a with
 |some (.struct _)=>some ae
 |some (.array _ _)=>some ae
 |some _=>some ah
 |none=>none
def CJ:V ZV->V bH->Bool
 |[],[]=>ae
 |a::b,v::vs=>a.ok v&&CJ b vs
 |_,_=>ah
def WJ:∀{b:V ZV}{vs:V bH},CJ b vs=ae->vs=b.map ZV.gq
 |[],[],_=>rfl
 |_::_,_::_,a=>by simp only[CJ,eG]at a;simp[ZV.ok_eq a.1,WJ a.2]
 |[],_::_,a=>by simp[CJ]at a
 |_::_,[],a=>by simp[CJ]at a
def sO(P:cT):V (I×I×Bool)->V Field->Bool
 |[],[]=>ae
 | (off,sz,a)::r,f::fs=>f.offset=off&&((P.info? f.type).map (·.size)==some sz)&&sz≠0&&(vB P f.type==some a)&&sO P r fs
 |_,_=>ah
def Px(P:cT)(b:I)(a:TI):Bool:=
 match P.info? b with
 |none=>ah
 |some i=>i.size=a.size&&G a.zero=a.size&&i.bytes=a.bytes&&(match i.zero with|some z=>CJ a.zero z.cells.toList|none=>ah)&&
  match a.kind,P.underlying b with
  | .int k,some (.int c)=>k=c
  | .bool,some .bool=>ae
  | .sl E,some (.slice f)=>E=f
  | .st,some (.struct fs)=>sO P a.fields fs.toList
  | .arr n e,some (.array g l)=>n=g&&e=l
  | .str,some .string=>ae
  | .other,some d=>(match d with| .struct _=>ah| .array _ _=>ah|_=>ae)
  |_,_=>ah
structure WK(P:cT)(t:I)(a:TI):Prop where
 Py:a.zero.length=a.size
 info:∃i,P.info? t=some i/\i.size=a.size/\i.bytes=a.bytes/\∃z,i.zero=some z/\z.cells.toList=a.zero.map ZV.gq
 agg:vB P t=some a.agg
 kind:match a.kind with
  | .int k=>P.underlying t=some (.int k)
  | .bool=>P.underlying t=some .bool
  | .sl E=>P.underlying t=some (.slice E)
  | .st=>∃fs,P.underlying t=some (.struct fs)/\sO P a.fields fs.toList=ae
  | .arr n e=>P.underlying t=some (.array n e)
  | .str=>P.underlying t=some .string
  | .other=>True
def ahb{P}{c}{f}(b:Px P c f=ae):WK P c f:=by
 unfold Px at b;cases l:P.info? c with
 |none=>rw[l]at b;simp at b
 |some i=>
  rw[l]at b
  simp only[eG,decide_eq_true_eq]at b
  let ⟨⟨⟨⟨n,p⟩,h2⟩,g⟩,a⟩:=b
  have k:∃z,i.zero=some z/\z.cells.toList=f.zero.map ZV.gq:=by
   cases k:i.zero with
   |none=>rw[k]at g;simp at g
   |some z=>rw[k]at g;exact⟨z,J,WJ g⟩
  refine⟨p,⟨i,l,n,h2,k⟩,?_,?_⟩
  .unfold vB TI.agg;cases m:f.kind<;>rw[m]at a<;>cases hu:P.underlying c<;>rw[hu]at a<;>try(simp at a;done)
   all_goals (rename_i d;cases d<;>first|rfl| (simp at a;done))
  .cases m:f.kind<;>rw[m]at a<;>cases hu:P.underlying c<;>rw[hu]at a<;>try(simp at a;done)
   all_goals (rename_i d;cases d<;>first|trivial| (simp at a;done)| (simp at a;subst a;rfl)| (simp at a;let ⟨r,v⟩:=a;subst r v;rfl)|exact⟨_,rfl,a⟩)
def cN(P:cT):TT->Bool
 |[]=>ae
 | (a,b)::r=>Px P a b&&cN P r
def g5{P:cT}:∀{f:TT},cN P f=ae->∀{b c},kZ b f=some c->WK P b c
 |[],_,_,_,a=>by simp[kZ]at a
 | (k,x)::r,d,b,c,a=>by
  simp only[cN,eG]at d;simp only[kZ]at a;split at a
  .rename_i g;subst g;cases a;exact ahb d.1
  .exact g5 d.2 a
structure St where
 sl:V (I×AV)
 mem:V (I×aH)
 nx:I
 gd:V (I×Bool):=[]
def St.kn(a:St):Kn
 | .s c=>(kZ c a.sl).map .v
 | .m id=>(kZ id a.mem).map .b
def Pz:bH->AV
 | .bool b=> .c<|.B b
 | .int k n=> .c<|.I k n
 |v=> .c<|.V v
def St.ev(a:St):Operand->bF AV
 | .tmp b=>kZ b a.sl
 | .const v=>some<|Pz v
 | .func f=>some<|.c<|.V<|.func (.func f) #[] #[]
 | .global _=>none
def dO(b:St):Operand->V (Key×Info)
 | .tmp a=>match kZ a b.sl with
  |some v=>[(.s a,.v v)]
  |none=>[]
 |_=>[]
def ahc g v:bI g (Pz v) v:=by cases v<;>exact J
def gO{F}{b:I->Prop}{d}{g}{W}{a}(k:bu F b d g W a) st x v(c:st.ev x=some v)
  (l:∀i∈dO st x,d i.1=some i.2):bI g v (a.eval x):=by
 cases x with
 |tmp t=>
  simp only[St.ev]at c
  have:=l (.s t,.v v) (by simp[dO,c])
  exact k.gM t v this
 |const u=>simp only[St.ev,aR]at c;subst c;exact ahc g u
 |func f=>simp only[St.ev,aR]at c;subst c;rfl
 |global _=>simp[St.ev]at c
def uq{F}{b:I->Prop}{k}{g}{W}{a}(m:bu F b k g W a) st x v(d:st.ev x=some v)
  (n:∀l∈dO st x,k l.1=some l.2):∀i∈v.ar,b i:=by
 cases x with
 |tmp t=>
  simp only[St.ev]at d
  have:=n (.s t,.v v) (by simp[dO,d])
  exact λi c=>m.ar _ _ this i c
 |const u=>simp only[St.ev,aR]at d;subst d;intro i c;cases u<;>simp[Pz,AV.ar,C.ar]at c
 |func f=>simp only[St.ev,aR]at d;subst d;intro i c;simp[AV.ar,C.ar]at c
 |global _=>simp[St.ev]at d
def uu{P}{l}{i}{E:dv}{d:I}(ho:l[i]? =some E)(hg:E.guard=none)(hd:E.dst=some d){n}(dC:d<n)
 rd x new
  (R:∀(F:eF)(c:I->Prop)(H:Kn)(g:Gh)(W:da)(a:Act),bu F c H g W a->(∀kx∈rd,H kx.1=some kx.2)->
   (∀m∈x.ar,c m)/\∃v,(execOp a.eval E).run P W= .ok (.value v) W/\bI g x v):
  ml P n l i rd [(.s d,some<|.v x)] new:=by
 intro F nF Q c H g W a K p bC C q
 let ⟨hm,v,r,B⟩:=R F c H g W a bC C
 unfold wpOp
 simp only[ho,nG,hg,cA]
 refine .inl ?_
 unfold uk
 rw[r]
 simp only[sL,hd]
 have U:d<a.tmps.size:=pq
 refine q g W _<|bC.step (chg:=λ_=>False) (g':=g) (W':=W) ⟨⟨cz.refl _,λ_ _=>rfl⟩,λ_ _ _=>rfl,bC.sub,a8 _,λ_ _ _=>rfl,J,J,J⟩ _ new p qt bC.defers ?_ (λ_ R=>R.elim) ?_ ?_ ?_ ?_
 .intro t f;have X:d≠t:=by intro e;subst e;simp[bf]at f
  simp[jq,nf X]
 .intro t u f;simp only[bf]at f;split at f
  .rename_i e;simp only[Key.s.injEq]at e;simp only[aR,Info.v.injEq]at f;subst e;subst f;simpa[jq,U]using B
  .simp at f
 .intro m b f;simp[bf]at f
 .intro k y f;simp only[bf]at f;split at f
  .simp only[aR]at f;subst f;exact λm j=> .inl<|hm m j
  .simp at f
 .intro m y f;simp[bf]at f
def eO(n:Z):Prop:= -9223372036854775808<=n/\n<=9223372036854775807
inductive Pr where
 |t
 |i64 (n:Z)
 |PA (b:Z)
 |le (a b:Z)
 |lt (a b:Z)
 |JM (a b:I)
 |As (a b:Bool)
 |and (p q:Pr)
def Pr.h:Pr->Prop
 | .t=>True
 | .i64 n=>eO n
 | .PA b=>b≠0
 | .le a b=>a<=b
 | .lt a b=>a<b
 | .JM a b=>a<b
 | .As a b=>a=b
 | .and p c=>p.h/\c.h
def Pr.an:Pr->Pr->Pr
 | .t,a=>a
 |p,.t=>p
 |p,a=> .and p a
def Pr.CK{p b:Pr}(a:(p.an b).h):p.h/\b.h:=by
 unfold Pr.an at a;split at a
 .exact⟨T,a⟩
 .exact⟨a,T⟩
 .exact a
instance:CoeSort Pr Prop:=⟨Pr.h⟩
def num(k:Cs)(n:Z):C×Pr:=match k with
 | .i64=>(.I .i64 n,.i64 n)
 |k=>(.I k<|k.wrap n,.t)
def CL k n(a:(num k n).2.h) g:dn g (num k n).1 (.int k<|k.wrap n):=by cases k<;>first|exact rfl| (show Value.int .i64 _=_;rw[Go.IntWalk.i64_in n a])
def FF(op:BinOp)(k:Cs)(a b:Z):bF (C×Pr):=match op with
 | .add=>some<|num k<|a+b
 | .sub=>some<|num k<|a-b
 | .mul=>some<|num k<|a*b
 | .quo=>some ((num k<|a.tdiv b).1,.and (.PA b) (num k<|a.tdiv b).2)
 | .rem=>some (.I k<|a.tmod b,.PA b)
 | .and=>some (.I k<|k.wrap (iq k.bits a&&& iq k.bits b).toNat,.t)
 | .or=>some (.I k<|k.wrap (iq k.bits a|||iq k.bits b).toNat,.t)
 | .eql=>some (.B<|a==b,.t)
 | .neq=>some (.B<|a !=b,.t)
 | .lss=>some (.B<|decide<|a<b,.t)
 | .leq=>some (.B<|decide<|a<=b,.t)
 | .gtr=>some (.B<|decide<|a>b,.t)
 | .geq=>some (.B<|decide<|a>=b,.t)
 |_=>none
def CM(op:BinOp)(k:Cs)(a b:Z):bF (C×Pr):=match op with
 | .shl=>some (.I k<|k.wrap<|a*2^(min (ad b) k.bits),.le 0 b)
 | .shr=>some (.I k<|a.fdiv<|2^(min (ad b) k.bits),.le 0 b)
 |_=>none
def JN(op:BinOp):C->C->bF (C×Pr)
 | .I k a,.I c b=>match op with
  | .shl=>CM .shl k a b
  | .shr=>CM .shr k a b
  |op=>if k=c then FF op k a b else none
 | .B a,.B b=>match op with
  | .eql=>some (.B<|a==b,.t)
  | .neq=>some (.B<|a !=b,.t)
  |_=>none
 |_,_=>none
def ahd{P}{op:BinOp}{k}{a b}{c}{pre}(d:FF op k a b=some (c,pre))(i:pre) g l W:
  ∃v,(binOp op l (.int k a)<|.int k b).run P W= .ok v W/\dn g c v:=by
 cases op<;>simp only[FF,aR,cG,reduceCtorEq]at d
 case add=>have f:num k (a+b)=(c,pre):=d;refine⟨.int k<|k.wrap<|a+b,by simp[binOp,PC,pure],?_⟩;have:=CL k (a+b) (by rw[f];exact i) g;rw[f]at this;exact this
 case sub=>have f:num k (a-b)=(c,pre):=d;refine⟨.int k<|k.wrap<|a-b,by simp[binOp,PC,pure],?_⟩;have:=CL k (a-b) (by rw[f];exact i) g;rw[f]at this;exact this
 case mul=>have f:num k (a*b)=(c,pre):=d;refine⟨.int k<|k.wrap<|a*b,by simp[binOp,PC,pure],?_⟩;have:=CL k (a*b) (by rw[f];exact i) g;rw[f]at this;exact this
 case quo=>
  obtain⟨rfl,rfl⟩:=d
  exact⟨.int k<|k.wrap<|a.tdiv b,by simp[binOp,Op.intDiv,show b≠0 from(show b≠0/\_ from i).1,pure],CL k _ (show b≠0/\_ from i).2 g⟩
 case rem=>
  obtain⟨rfl,rfl⟩:=d
  exact⟨.int k<|a.tmod b,by simp[binOp,Op.intDiv,show b≠0 from i,pure],J⟩
 case and=>obtain⟨rfl,rfl⟩:=d;exact⟨_,by simp[binOp,Op.intBits,pure],J⟩
 case or=>obtain⟨rfl,rfl⟩:=d;exact⟨_,by simp[binOp,Op.intBits,pure],J⟩
 case eql=>obtain⟨rfl,rfl⟩:=d;exact⟨_,CN,J⟩
 case neq=>obtain⟨rfl,rfl⟩:=d;exact⟨_,CN,J⟩
 case lss=>obtain⟨rfl,rfl⟩:=d;exact⟨_,CN,J⟩
 case leq=>obtain⟨rfl,rfl⟩:=d;exact⟨_,CN,J⟩
 case gtr=>obtain⟨rfl,rfl⟩:=d;exact⟨_,CN,J⟩
 case geq=>obtain⟨rfl,rfl⟩:=d;exact⟨_,CN,J⟩
def run_equal_bool{P}{c}(d:P.underlying c=some .bool) a b W:(Op.equal c (.bool a)<|.bool b).run P W= .ok (a==b) W:=by rw[Op.equal,show Op.maxDepth=9999+1 from J,Op.equalIn];simp[run_underlying d]
def WL(a:TT)(b:I):Bool:=match kZ b a with
 |some c=>(match c.kind with| .bool=>ae|_=>ah)
 |none=>ah
def FG(d:TT)(op:BinOp)(f:I)(x c:C):bF (C×Pr):=match x,c with
 | .B a,.B b=>if WL d f then JN op (.B a) (.B b)else none
 |x,c=>JN op x c
def ahe{P}{n}(p:cN P n=ae){op:BinOp}{f:eL}{x r}{c}{pre}(d:FG n op f x r=some (c,pre))(E:pre) g{F H}(l:dn g x F)(m:dn g r H) W
 Q R:∃v,(do eqGuard op f Q R F H;binOp op f F H:Sem bH).run P W= .ok v W/\dn g c v:=by
 cases x<;>cases r<;>simp only[FG,JN,reduceCtorEq]at d
 case B.B a b=>
  split at d
  .rename_i i;have K:P.underlying f=some .bool:=by
    unfold WL at i;cases hl:kZ f n with
    |none=>rw[hl]at i;simp at i
    |some U=>
     rw[hl]at i
     have:=(g5 p hl).kind
     cases X:U.kind<;>simp only[X]at i this<;>first|exact this| (simp at i)
   simp only[dn]at l m;subst l m;cases op<;>simp only[aR,cG,reduceCtorEq]at d
   .obtain⟨rfl,rfl⟩:=d;exact⟨.bool<|a==b,by simp[eqGuard,binOp,run_equal_bool K],J⟩
   .obtain⟨rfl,rfl⟩:=d;exact⟨.bool<|a !=b,by simp[eqGuard,binOp,run_equal_bool K,bne],J⟩
  .simp at d
 case I.I k a C b=>
  simp only[dn]at l m
  subst l m
  have j:∀op,(do eqGuard op f Q R (.int k a) (.int C b);binOp op f (.int k a) (.int C b):Sem bH).run P W=(binOp op f (.int k a)<|.int C b).run P W:=by intro op;cases op<;>simp[eqGuard]
  rw[j]
  cases op
  case shl=>
   simp only[CM,aR,cG]at d
   obtain⟨rfl,rfl⟩:=d
   exact⟨_,by simp[binOp,Op.shift,Int.not_lt.2 (show(0:Z)<=_ from E),pure],J⟩
  case shr=>
   simp only[CM,aR,cG]at d
   obtain⟨rfl,rfl⟩:=d
   exact⟨_,by simp[binOp,Op.shift,Int.not_lt.2 (show(0:Z)<=_ from E),pure],J⟩
  all_goals
   simp only at d
   split at d
   .rename_i e;subst e;exact ahd d E g f W
   .simp at d
def JO{P}{c}{b}(a:vB P c=some b) W:(isAgg c).run P W= .ok b W:=by
 unfold vB at a;cases hu:P.underlying c with
 |none=>rw[hu]at a;simp at a
 |some d=>
  rw[hu]at a
  simp only[isAgg,dY,run_underlying hu,eP]
  cases d<;>simp at a<;>subst a<;>rfl
def run_sizeOf{P}{a}{i:TypeInfo}(b:P.info? a=some i) W:(sizeOf a).run P W= .ok i.size W:=by simp[sizeOf,typeInfo,b]
def JP{P:cT}:∀{l:V (I×I×Bool)}{d:V Field},sO P l d=ae->∀{k:I}{a sz:I}{m:Bool},l[k]? =some (a,sz,m)->
  ∃f,d[k]? =some f/\f.offset=a/\(∃i,P.info? f.type=some i/\i.size=sz)/\sz≠0/\vB P f.type=some m
 |[],_,_,_,_,_,_,b=>by simp at b
 | (p,v,g)::r,[],c,_,_,_,_,_=>by simp[sO]at c
 | (p,v,g)::r,f::d,c,0,a,sz,m,b=>by
  simp only[sO,eG,decide_eq_true_eq,beq_iff_eq]at c;simp only[yI,aR,cG]at b;obtain⟨rfl,rfl,rfl⟩:=b;let ⟨⟨⟨⟨n,h2⟩,h3⟩,B⟩,_⟩:=c;refine⟨f,ax,n,?_,wS,B⟩;cases x:P.info? f.type with
  |none=>rw[x]at h2;simp at h2
  |some i=>rw[x]at h2;simp at h2;exact⟨i,J,h2⟩
 | (p,v,g)::r,f::d,c,k+1,a,sz,m,b=>by simp only[sO,eG]at c;simp only[At]at b;let ⟨C,n,h2⟩:=JP c.2 b;exact⟨C,by simpa using n,h2⟩
def oH(d:V C)(b sz:I)(f:Bool):bF AV:=
 if f then(if b+sz<=G d then some (.a<|(aE b d).take sz)else none)else(d[b]?).map .c
def bL.get{g:Gh}:∀{d:V C}{vs:V bH},bL g d vs->∀{k:I}{c:C},d[k]? =some c->∃v,vs[k]? =some v/\dn g c v
 |[],_,_,_,_,a=>by simp at a
 |_::_,_,b,0,c,a=>by obtain⟨v,r,rfl,f,_⟩:=b;simp at a;subst a;exact⟨v,ax,f⟩
 |_::_,_,b,k+1,c,a=>by obtain⟨v,r,rfl,_,i⟩:=b;simp at a;let ⟨u,h3,l⟩:=bL.get i a;exact⟨u,wS,l⟩
def bL.drop{g:Gh}:∀{b:V C}{vs:V bH},bL g b vs->∀k,bL g (aE k b) (aE k vs)
 |[],_,a,k=>by simp only[bL]at a;subst a;simp[bL]
 |_::_,_,a,0=>by simpa using a
 |_::_,_,a,k+1=>by obtain⟨v,r,rfl,_,c⟩:=a;simpa using bL.drop c k
def bL.take{g:Gh}:∀{b:V C}{vs:V bH},bL g b vs->∀k,bL g (y k b) (y k vs)
 |[],_,a,k=>by simp only[bL]at a;subst a;simp[bL]
 |_::_,_,_,0=>by simp[bL]
 |_::_,_,a,k+1=>by obtain⟨v,r,rfl,c,d⟩:=a;simpa using⟨v,_,J,c,bL.take d k⟩
def JQ cs k:∀a∈cy (aE k cs),a∈cy cs:=by
 induction cs generalizing k with
 |nil=>simp
 |cons c cs b=>cases k with
  |zero=>simp
  |succ k=>intro a h;simp only[List.drop_succ_cons]at h;simp only[cy,b8];exact .inr<|b k a h
def JR cs k:∀a∈cy (y k cs),a∈cy cs:=by
 induction cs generalizing k with
 |nil=>simp
 |cons c cs b=>cases k with
  |zero=>simp[cy]
  |succ k=>
   intro a h
   simp only[List.take_succ_cons,cy,b8]at h⊢
   exact h.imp (λx=>x)<|b k a
def ahf{f}{k:I}{c}(b:f[k]? =some c):∀g∈c.ar,g∈cy f:=by
 induction f generalizing k with
 |nil=>simp at b
 |cons d f i=>cases k with
  |zero=>simp at b;subst b;intro g a;simp[cy,a]
  |succ k=>simp at b;intro g a;simp only[cy,b8];exact .inr<|i b g a
def WM{P}{g}{m}{vs}(n:bL g m vs){a sz}{k}{x}(b:oH m a sz k=some x){l}(d:vB P l=some k)
  {i:TypeInfo} (p:P.info? l=some i) (r:i.size=sz) W:∃v,(part l vs.toArray a).run P W= .ok v W/\bI g x v:=by
 unfold oH at b
 cases k with
 |true=>
  simp only[cA]at b
  split at b
  .rename_i B;simp only[aR]at b;subst b;refine⟨.agg<|vs.toArray.extract a<|a+sz,?_,⟨(aE a vs).take sz,?_,(n.drop a).take sz⟩⟩
   .simp only[part,dY,JO d,eP,cA,run_sizeOf p,r];rfl
   .congr 1;simp[List.extract_toArray,List.extract_eq_take_drop]
  .simp at b
 |false=>
  simp only[jQ,cC,cd]at b
  obtain⟨c,C,rfl⟩:=b
  let ⟨v,E,f⟩:=n.get C
  refine⟨v,?_,f⟩
  simp only[part,dY,JO d,eP,jQ,cC,FI,E];rfl
def CO{g}{d sz}{i}{x}(a:oH g d sz i=some x):∀b∈x.ar,b∈cy g:=by
 unfold oH at a;cases i with
 |true=>
  simp only[cA]at a
  split at a
  .simp only[aR]at a;subst a;exact λb f=>JQ _ _ b<|JR _ _ b f
  .simp at a
 |false=>
  simp only[jQ,cC,cd]at a
  obtain⟨c,k,rfl⟩:=a
  exact ahf k
def WN(c x a:bF AV):bF (AV×Pr):=match c with
 |some (.c<|.B b)=>match x,a with
  |some (.c<|.B p),some (.c<|.B q)=>some (.c<|.B<|cond b p q,.t)
  |some v,none=>some (v,.As b ae)
  |none,some v=>some (v,.As b ah)
  |some v,some (.c .any)=>some (v,.As b ae)
  |some (.c .any),some v=>some (v,.As b ah)
  |_,_=>none
 |_=>none
def PD(op:UnOp)(x:AV):bF (AV×Pr):=match op,x with
 | .not,.c (.B b)=>some (.c<|.B<|!b,.t)
 | .neg,.c (.I k n)=>some (.c (num k<|0-n).1,(num k<|0-n).2)
 |_,_=>none
def PE(d:TT)(a b:I)(x:AV):bF (AV×Pr):=match kZ a d,kZ b d,x with
 |some _,some f,.c (.I _ n)=>(match f.kind with
  | .int k=>some (.c (num k n).1,(num k n).2)
  |_=>none)
 |_,_,_=>none
def PF(c:TT)(d:I)(x:AV)(f:I):bF AV:=match x,kZ d c with
 | .a cs,some b=>(match b.kind,b.fields[f]? with
  | .st,some (off,sz,g)=>oH cs off sz g
  |_,_=>none)
 |_,_=>none
def PG(b:TT)(d:I)(x:AV)(f:I):bF AV:=match kZ d b with
 |some a=>(match a.kind,a.fields[f]? with
  | .st,some (off,_,_)=>(match x with
   | .c (.P id o)=>some<|.c<|.P id<|o+off
   | .c (.E T e o)=>some<|.c<|.E T e<|o+off
   | .c (.Y id n i o)=>some<|.c<|.Y id n i<|o+off
   |_=>none)
  |_,_=>none)
 |none=>none
def PH(x:AV)(k:I):bF AV:=match x with
 | .t b=>(match b[k]? with
  |some (ae,cs)=>some<|.a cs
  |some (ah,[c])=>some<|.c c
  |_=>none)
 |_=>none
def vC(a:TT)(b:I)(n:I):Bool:=match kZ b a with
 |some c=>(match c.kind with
  | .sl e=>(match kZ e a with|some d=>d.size=n|none=>ah)
  |_=>ah)
 |none=>ah
def PI(a:TT)(b:I)(x i:AV):bF (AV×Pr):=match x,i with
 | .c (.S T xs),.c (.I _ k)=>if vC a b T.n then some (.c<|.E T (Y xs (ad k) T.cJ) 0,.and (.le 0 k)<|.lt k<|G xs)else none
 |_,_=>none
def JS(a:TT)(b:I)(x:AV):bF AV:=match kZ b a with
 |some d=>(match d.kind with
  | .sl _=>(match x with
   | .c (.S _ xs)=>some<|.c<|.I .i64<|G xs
   | .c (.V<|.slice none 0 0)=>some<|.c<|.I .i64 0
   | .c (.W _ _ len)=>some<|.c<|.I .i64 len
   |_=>none)
  |_=>none)
 |none=>none
def JT(n:I):bF AV->I->bF (I×Pr)
 |none,d=>some (d,.t)
 |some (.c<|.I _ k),_=>some (ad k,.and (.le 0 k)<|.le k n)
 |_,_=>none
def PJ(a:TT)(b:I)(x:AV)(d f:bF AV):bF (AV×Pr):=match x with
 | .c (.S T xs)=>if vC a b T.n then
   (match JT (G xs) f (G xs)with
   |some (h,p)=>(match JT h d 0 with
    |some (l,q)=>some (.c<|.S T<|(y h xs).drop l,.and p q)
    |none=>none)
   |none=>none)
  else none
 |_=>none
def JU(d:Bool):V AV->bF AV
 |[.c (.I k a),.c<|.I f b]=>if k=f then some (.c<|.I k (if d then(if b>a then b else a)else(if b<a then b else a)))else none
 |_=>none
def yJ(a:St):bF Operand->bF (bF AV)
 |none=>some none
 |some x=>(a.ev x).map some
def FJ(r:TT)(g:St):Op->bF (AV×Pr)
 | .move x=>(match g.ev x with|some v=>some (v,.t)|none=>none)
 | .assign x=>(match g.ev x with|some v=>some (v,.t)|none=>none)
 | .pick c x B=>WN (g.ev c) (g.ev x)<|g.ev B
 | .binOp op m x B _=>(match g.ev x,g.ev B with
  |some (.c a),some (.c b)=>(match FG r op m a b with|some (c,p)=>some (.c c,p)|none=>none)
  |_,_=>none)
 | .unOp op _ x=>(match g.ev x with|some v=>PD op v|none=>none)
 | .convert H d x=>(match g.ev x with|some v=>PE r H d v|none=>none)
 | .field m x f=>(match g.ev x with|some v=>(match PF r m v f with|some n=>some (n,.t)|none=>none)|none=>none)
 | .fieldAddr m x f=>(match g.ev x with|some v=>(match PG r m v f with|some n=>some (n,.t)|none=>none)|none=>none)
 | .extract x k=>(match g.ev x with|some v=>(match PH v k with|some n=>some (n,.t)|none=>none)|none=>none)
 | .indexAddr m x i=>(match g.ev x,g.ev i with|some v,some E=>PI r m v E|_,_=>none)
 | .slice m x P Q none=>(match g.ev x,yJ g P,yJ g Q with|some v,some l,some R=>PJ r m v l R|_,_,_=>none)
 | .call ⟨.builtin .len,args,F⟩=>(match args.toList,F.toList with
  |[x],[m]=>(match g.ev x with|some v=>(match JS r m v with|some n=>some (n,.t)|none=>none)|none=>none)
  |_,_=>none)
 | .call ⟨.builtin .max,args,_⟩=>(match args.toList with
  |[x,B]=>(match g.ev x,g.ev B with|some v,some E=>(match JU ae [v,E]with|some n=>some (n,.t)|none=>none)|_,_=>none)
  |_=>none)
 | .call ⟨.builtin .min,args,_⟩=>(match args.toList with
  |[x,B]=>(match g.ev x,g.ev B with|some v,some E=>(match JU ah [v,E]with|some n=>some (n,.t)|none=>none)|_,_=>none)
  |_=>none)
 |_=>none
def qu(a:St)(op:Op):V (Key×Info):=op.operands.toList.flatMap<|dO a
section
variable{P:cT}{tt:TT}{g:Gh}{W:da}
def ahg{op:UnOp}{x}{c}{p}(a:PD op x=some (c,p))(l:p){v}(b:bI g x v):(∃f,(Op.unary op v).run P W= .ok f W/\bI g c f)/\∀i∈c.ar,i∈x.ar:=by
 unfold PD at a;split at a
 .simp only[aR,cG]at a;obtain⟨rfl,rfl⟩:=a;simp only[bI,dn]at b;subst b;exact⟨⟨_,by simp[Op.unary,pure],J⟩,sQ⟩
 .rename_i k n;simp only[aR,cG]at a;obtain⟨rfl,rfl⟩:=a;simp only[bI,dn]at b;subst b;refine⟨⟨.int k<|k.wrap<|0-n,by simp[Op.unary,PC,pure],CL k _ l g⟩,?_⟩;intro i d;cases k<;>simp[num,AV.ar,C.ar]at d
 .simp at a
def FK k n:(num k n).1.ar=[]:=by cases k<;>rfl
def ahh(b:cN P tt=ae){f d}{x i}{p}(a:PE tt f d x=some (i,p))(E:p){v}(m:bI g x v):(∃r,(convert f d v).run P W= .ok r W/\bI g i r)/\i.ar=[]:=by
 unfold PE at a;split at a
 .rename_i C Q R n F H;split at a
  .rename_i k K;simp only[aR,cG]at a;obtain⟨rfl,rfl⟩:=a;simp only[bI,dn]at m;subst m;have B:=(g5 b H).kind;rw[K]at B;have l:∃c,P.underlying f=some c:=by
    have:=(g5 b F).agg;unfold vB at this;cases hu:P.underlying f with
    |none=>rw[hu]at this;simp at this
    |some c=>exact⟨c,J⟩
   let ⟨c,l⟩:=l;refine⟨⟨.int k<|k.wrap n,?_,CL k n E g⟩,FK k n⟩;simp only[convert,dY,run_underlying l,run_underlying B,eP];cases c<;>rfl
  .simp at a
 .simp at a
def ahi(l:cN P tt=ae){E f}{x m}(a:PF tt E x f=some m){v}(F:bI g x v):(∃k,(Instr.field E v f).run P W= .ok k W/\bI g m k)/\∀H∈m.ar,H∈x.ar:=by
 unfold PF at a;split at a
 .rename_i o q K;split at a
  .rename_i Q sz s R U;have C:=(g5 l K).kind;rw[R]at C;let ⟨fs,hu,n⟩:=C;obtain⟨X,p,rfl,⟨i,e,r⟩,_,B⟩:=JP n U;obtain⟨vs,rfl,j⟩:=F;let ⟨k,b,c⟩:=WM (W:=W) j a B e r;refine⟨⟨k,?_,c⟩,CO a⟩;have d:fs[f]? =some X:=by simpa using p
   simp only[Instr.field,dY,run_underlying hu,eP,d,asAgg];simpa using b
  .simp at a
 .simp at a
def pv b a n:(Addr.mk b a none).add n=⟨b,a+n,none⟩:=by
 unfold Addr.add;split
 .rename_i e;subst e;rfl
 .rfl
def ahj(m:cN P tt=ae){n f}{x p}(a:PG tt n x f=some p){v}(r:bI g x v):(∃Q,(WO n v f).run P W= .ok Q W/\bI g p Q)/\∀id∈p.ar,id∈x.ar:=by
 unfold PG at a;split at a
 .rename_i G X;split at a
  .rename_i e sz I j q;have R:=(g5 m X).kind;rw[j]at R;let ⟨fs,hu,B⟩:=R;obtain⟨U,E,rfl,⟨i,s,F⟩,H,w⟩:=JP B q;have k:fs[f]? =some U:=by simpa using E
   have d:∀b o,(WO n (.pointer<|some ⟨b,o,none⟩) f).run P W= .ok (.pointer<|some ⟨b,o+U.offset,none⟩) W:=by intro b o;simp only[WO,dY,run_underlying hu,eP,k,WQ,fieldPlace,run_sizeOf s];simp[F,H,pv]
   split at a
   .simp only[aR]at a;subst a;obtain⟨b,K,rfl⟩:=r;exact⟨⟨_,d _ _,b,K,J⟩,sQ⟩
   .simp only[aR]at a;subst a;obtain⟨b,o,z,rfl,A,D⟩:=r;exact⟨⟨_,d _ _,b,o,z,by simp[qv],A,D⟩,sQ⟩
   .simp only[aR]at a;subst a;obtain⟨b,l,c,K,rfl⟩:=r;exact⟨⟨_,d _ _,b,l,c,K,by simp[qv]⟩,sQ⟩
   .simp at a
  .simp at a
 .simp at a
def dt.get{g:Gh}:∀{d:V (Bool×V C)}{vs:V bH},dt g d vs->∀{k:I}{f:Bool×V C},d[k]? =some f->∃v,vs[k]? =some v/\Ah g f v
 |[],_,_,_,_,a=>by simp at a
 |_::_,_,b,0,c,a=>by obtain⟨v,r,rfl,i,_⟩:=b;simp at a;subst a;exact⟨v,ax,i⟩
 |_::_,_,b,k+1,c,a=>by obtain⟨v,r,rfl,_,l⟩:=b;simp at a;let ⟨u,h3,m⟩:=dt.get l a;exact⟨u,wS,m⟩
def WR{f}{k:I}{c}(b:f[k]? =some c):∀i∈cy c.2,i∈fN f:=by
 induction f generalizing k with
 |nil=>simp at b
 |cons d f l=>cases k with
  |zero=>simp at b;subst b;intro i a;simp[fN,a]
  |succ k=>simp at b;intro i a;simp only[fN,b8];exact .inr<|l b i a
def ahk{x i}{k}(b:PH x k=some i){v}(p:bI g x v):(∃d,(WS v k).run P W= .ok d W/\bI g i d)/\∀l∈i.ar,l∈x.ar:=by
 unfold PH at b;split at b
 .rename_i r;obtain⟨vs,rfl,n⟩:=p;split at b
  .rename_i B f;simp only[aR]at b;subst b;let ⟨d,hu,a⟩:=n.get f;exact⟨⟨d,by simp[WS,hu,pure],a⟩,WR f⟩
  .rename_i c f;simp only[aR]at b;subst b;let ⟨d,hu,a⟩:=n.get f;exact⟨⟨d,by simp[WS,hu,pure],a⟩,λl m=>WR f l<|by simp[cy];exact m⟩
  .simp at b
 .simp at b
def CP(b:cN P tt=ae){d n}(a:vC tt d n=ae):∃c i,P.underlying d=some (.slice c)/\P.info? c=some i/\i.size=n:=by
 unfold vC at a;split at a
 .rename_i v k;split at a
  .rename_i c l;split at a
   .rename_i x m;have f:=(g5 b k).kind;rw[l]at f;let ⟨i,p,r,_⟩:=(g5 b m).info;exact⟨c,i,f,p,by rw[r];simpa using a⟩
   .simp at a
  .simp at a
 .simp at a
def ahl(m:cN P tt=ae){H}{x i r}{p}(c:PI tt H x i=some (r,p))(hp:p){v Q}(hv:bI g x v)(R:bI g i Q):(∃U,(Instr.indexAt H v Q).run P W= .ok U W/\bI g r U)/\r.ar=[]:=by
 unfold PI at c;split at c
 .rename_i T xs w k;split at c
  .rename_i B;simp only[aR,cG]at c;obtain⟨rfl,rfl⟩:=c;let ⟨e,i,C,K,X⟩:=CP m B;simp only[bI,dn]at R;subst R;obtain⟨a,o,rfl,A,D,l⟩:=hv;let ⟨E,F⟩:=(show 0<=k/\k<(G xs:Z)from hp);have d:ad k<G xs:=S;rcases l with l|⟨b,off,rfl,l⟩
   .subst l;simp at d
   .let ⟨cs,hl,q,hc⟩:=l (ad k) d;refine⟨⟨.pointer<|some ⟨b,off+ad k*T.n,none⟩,?_,b,off+ad k*T.n,cs,J,?_,?_⟩,J⟩
    .have f:(0<=k/\k<(G xs:Z)):=⟨E,F⟩;simp only[Instr.indexAt,asIntOf,dY,run_underlying C,eP];simp[f,run_sizeOf K,X,pv]
    .rw[aF,bD d];exact q
    .intro j s;have:=hc j s;rw[this]
  .simp at c
 .simp at c
def ahm(i:cN P tt=ae){l r:I}{x k}(d:JS tt l x=some k){v}(f:bI g x v):(∃m,(Builtin.len_ #[l] r #[v]).run P W= .ok m W/\bI g k m)/\k.ar=[]:=by
 unfold JS at d;split at d
 .rename_i C n;split at d
  .rename_i e p;have h2:=(g5 i n).kind;rw[p]at h2;split at d
   .rename_i T xs;simp only[aR]at d;subst d;obtain⟨a,B,rfl,_⟩:=f;exact⟨⟨_,JV,J⟩,J⟩
   .simp only[aR]at d;subst d;simp only[bI,dn]at f;subst f;exact⟨⟨_,JV,J⟩,J⟩
   .simp only[aR]at d;subst d;obtain⟨b,c,_,rfl,_⟩:=f;exact⟨⟨_,JV,J⟩,J⟩
   .simp at d
  .simp at d
 .simp at d
def WT{d}{l}{f}(c:JU d l=some f){v i}{m n}(p:l=[m,n])(x:bI g m v)(B:bI g n i) E r:
  (∃F,(if d then Builtin.max_ E r #[v,i]else Builtin.min_ E r #[v,i]).run P W= .ok F W/\bI g f F)/\f.ar=[]:=by
 unfold JU at c
 split at c
 .rename_i k a C b;split at c
  .rename_i e;subst e;simp only[aR]at c;subst c;simp only[JW,and_true]at p;obtain⟨rfl,rfl⟩:=p;simp only[bI,dn]at x B;subst x B;cases d
   .exact⟨⟨_,by simp[Builtin.min_,Builtin.min2,lU,pure],J⟩,J⟩
   .exact⟨⟨_,by simp[Builtin.max_,Builtin.max2,lU,pure],J⟩,J⟩
  .simp at c
 .simp at c
end
section
variable{P:cT}{tt:TT}{g:Gh}{W:da}
def yK(g:Gh):bF AV->bF bH->Prop
 |none,none=>True
 |some a,some b=>bI g a b
 |_,_=>False
def ahn{op:BinOp}{i}{x f c}{p}(d:FG tt op i x f=some (c,p)):c.ar=[]:=by
 cases x<;>cases f<;>simp only[FG,JN,reduceCtorEq]at d;case B.B a b=>
  split at d
  .cases op<;>simp only[aR,cG,reduceCtorEq]at d;all_goals (obtain⟨rfl,_⟩:=d;rfl)
  .simp at d
 case I.I k a m b=>
  have l:∀op,FF op k a b=some (c,p)->c.ar=[]:=by
   intro op d;cases op<;>simp only[FF,aR,reduceCtorEq]at d;case add=>have:=aC Prod.fst d;simp only at this;rw[<-this];exact FK _ _
   case sub=>have:=aC Prod.fst d;simp only at this;rw[<-this];exact FK _ _
   case mul=>have:=aC Prod.fst d;simp only at this;rw[<-this];exact FK _ _
   all_goals
    simp only[cG]at d
    obtain⟨rfl,_⟩:=d
    first|rfl|exact FK _ _
  cases op
  case shl=>simp only[CM,aR,cG]at d;obtain⟨rfl,_⟩:=d;rfl
  case shr=>simp only[CM,aR,cG]at d;obtain⟨rfl,_⟩:=d;rfl
  all_goals
   simp only at d
   split at d
   .exact l _ d
   .simp at d
def PK{n}{x}{d h}{p}(a:JT n x d=some (h,p))(l:p){v}(c:yK g x v)
 m (B:n<=m) (code:BoundsCode):
  (x=none/\v=none/\h=d)\/(∃b,v=some b/\h<=n/\(PL b m code).run P W= .ok h W):=by
 unfold JT at a
 split at a
 .simp only[aR,cG]at a;cases v with
  |none=>exact .inl ⟨J,J,a.1.symm⟩
  |some b=>exact c.elim
 .rename_i r k;simp only[aR,cG]at a;obtain⟨rfl,rfl⟩:=a;cases v with
  |none=>exact c.elim
  |some b=>
   have f:b= .int r k:=c
   subst f
   have i:0<=k/\k<=(n:Z):=l
   refine .inr ⟨_,J,S,?_⟩
   have:0<=k/\k<=(m:Z):=⟨i.1,S⟩
   simp[PL,asIntOf,this,lU,pure]
 .simp at a
def m'.sub{p:Type}{R:p->V bH->Prop}{n}{H}{xs}{a}{c}(r:m' R n H xs (.slice a (G xs) c)){l f}(E:l<=f)(v:f<=G xs):
  m' R n H ((y f xs).drop l) (.slice (if c=l then a else a.map (·.add (l*n))) (f-l)<|c-l):=by
 let ⟨F,m,e,K,x,k⟩:=r
 simp only[aho,true_and]at e
 obtain⟨rfl,rfl⟩:=e
 have d:G ((y f xs).drop l)=f-l:=bP
 refine⟨_,c-l,by rw[d],S,?_,?_⟩
 .rw[d];exact cQ (eB n S) x
 .by_cases Q:f=l
  .left;apply et;omega
  .right;rcases k with k|⟨b,off,rfl,k⟩
   .subst k;simp at v;omega
   .refine⟨b,off+l*n,?_,λi U=>?_⟩
    .rw[M S];simp[pv]
    .let ⟨cs,hl,B,hc⟩:=k (l+i) S;refine⟨cs,hl,?_,λj C=>?_⟩
     .simpa using B
     .have:=hc j C;rw[(JX:off+l*n+i*n+j=off+(l+i)*n+j)];exact this
def ahp(r:cN P tt=ae){b9}{x B}{lo hi}{p}(b:PJ tt b9 x lo hi=some (B,p))(hp:p){v}{E F}(hv:bI g x v)
  (hl:yK g lo E) (hh:yK g hi F):
  (∃g6,(Instr.sliceAt b9 v E F none).run P W= .ok g6 W/\bI g B g6)/\B.ar=[]:=by
 unfold PJ at b
 split at b
 .rename_i T xs;split at b
  .rename_i C;let ⟨e,i,H,K,s⟩:=CP r C;split at b
   .rename_i c I Q;split at b
    .rename_i l L R;simp only[aR,cG]at b;obtain⟨rfl,rfl⟩:=b;let ⟨U,X⟩:=hp;have j:=hv;obtain⟨a,k,rfl,w,M,N⟩:=j;have d:=PK (P:=P) (W:=W) Q U hh k w<|.sliceAcap;have o:c<=G xs:=by rcases d with⟨_,_,e⟩|⟨_,_,b,_⟩<;>omega
     have f:=PK (P:=P) (W:=W) R X hl c (a8 _)<|.sliceB;have m:l<=c:=by rcases f with⟨_,_,e⟩|⟨_,_,b,_⟩<;>omega
     have n:=m'.sub hv m o;refine⟨⟨_,?_,n⟩,J⟩;have q:(wT ae (G xs) k E F none).run P W= .ok (l,c,k) W:=by rcases d with⟨_,rfl,rfl⟩|⟨u,rfl,_,A⟩<;>rcases f with⟨_,rfl,rfl⟩|⟨O,rfl,_,D⟩<;>simp[wT, *]
     simp only[Instr.sliceAt,dY,run_underlying H,eP,Instr.slice,q,run_sizeOf K,s];rfl
    .simp at b
   .simp at b
  .simp at b
 .simp at b
def FM{F}{b:I->Prop}{f}{a}(k:bu F b f g W a) st x v(d:yJ st x=some v)
  (l:∀c,x=some c->∀i∈dO st c,f i.1=some i.2):yK g v (x.map a.eval):=by
 cases x with
 |none=>simp only[yJ,aR]at d;subst d;trivial
 |some c=>
  simp only[yJ,cd]at d
  obtain⟨u,m,rfl⟩:=d
  exact gO k st c u m<|l c J
def PM(fc:cN P tt=ae){ops}{i}{br:dv}{d:I}(ho:ops[i]? =some br)(hg:br.guard=none)(hd:br.dst=some d){n}(dC:d<n)
 {st}{x}{p}(m:FJ tt st br.op=some (x,p)) (hp:p) new:ml P n ops i (qu st br.op) [(.s d,some<|.v x)] new:=by
 refine uu ho hg hd dC _ x new ?_
 intro F G Y g W a X T
 have E:∀y∈br.op.operands,∀u,st.ev y=some u->bI g u (a.eval y)/\∀R∈u.ar,G R:=by
  intro y j u U;have Z:∀D∈dO st y,Y D.1=some D.2:=λD L=>T D<|jF.2 ⟨y,by simpa using j,L⟩
  exact⟨gO X st y u U Z,uq X st y u U Z⟩
 have M:∀y∈br.op.operands,∀D∈dO st y,Y D.1=some D.2:=λy j D L=>T D<|jF.2 ⟨y,by simpa using j,L⟩
 let ⟨od,op,N,auC,auD,ogd⟩:=br
 simp only at m E M
 unfold FJ at m
 split at m
 .rename_i y;split at m
  .rename_i v K;simp only[aR,cG]at m;obtain⟨rfl,rfl⟩:=m;have:=E y iK _ K;exact⟨this.2,_,by simp[execOp,pure],this.1⟩
  .simp at m
 .rename_i y;split at m
  .rename_i v K;simp only[aR,cG]at m;obtain⟨rfl,rfl⟩:=m;have:=E y iK _ K;exact⟨this.2,_,by simp[execOp,pure],this.1⟩
  .simp at m
 .rename_i c y z;unfold WN at m;split at m
  .rename_i b hb;have vD:=(E c iK _ hb).1;simp only[bI,dn]at vD;split at m
   .rename_i p1 q1 j O;simp only[aR,cG]at m;obtain⟨rfl,rfl⟩:=m;have H:=(E y iK _ j).1;have e:=(E z iK _ O).1;simp only[bI,dn]at H e;refine⟨sQ,.bool<|cond b p1 q1,?_,J⟩;cases b<;>simp[execOp,vD,asBool,H,e,lU,pure]
   .rename_i v j O;simp only[aR,cG]at m;obtain⟨rfl,rfl⟩:=m;have H:=E y iK _ j;simp only[Pr.h]at hp;subst hp;exact⟨H.2,_,JY,H.1⟩
   .rename_i v j O;simp only[aR,cG]at m;obtain⟨rfl,rfl⟩:=m;have H:=E z iK _ O;simp only[Pr.h]at hp;subst hp;exact⟨H.2,_,JY,H.1⟩
   .rename_i v j O;simp only[aR,cG]at m;obtain⟨rfl,rfl⟩:=m;have H:=E y iK _ j;simp only[Pr.h]at hp;subst hp;exact⟨H.2,_,JY,H.1⟩
   .rename_i v j O;simp only[aR,cG]at m;obtain⟨rfl,rfl⟩:=m;have H:=E z iK _ O;simp only[Pr.h]at hp;subst hp;exact⟨H.2,_,JY,H.1⟩
   .simp at m
  .simp at m
 .rename_i op t y z _;split at m
  .rename_i u w U S;split at m
   .rename_i c q hc;simp only[aR,cG]at m;obtain⟨rfl,rfl⟩:=m;have H:=(E y iK _ U).1;have e:=(E z iK _ S).1;let ⟨v,k4,B⟩:=ahe (P:=P) fc hc hp g H e W y z;refine⟨?_,v,?_,B⟩
    .intro R eo;simp only[AV.ar,ahn hc]at eo;cases eo
    .simp only[execOp,dY];rw[dY]at k4;simp only[k4];simp[eP,pure]
   .simp at m
  .simp at m
 .rename_i op t y;split at m
  .rename_i v K;have H:=E y iK _ K;let ⟨⟨u,k4,B⟩,hm⟩:=ahg (P:=P) (W:=W) m hp H.1;exact⟨λR eo=>H.2 R<|hm R eo,u,Au,B⟩
  .simp at m
 .rename_i s d' y;split at m
  .rename_i v K;have H:=E y iK _ K;let ⟨⟨u,k4,B⟩,hm⟩:=ahh (P:=P) (W:=W) fc m hp H.1;exact⟨λR eo=>yL,u,Au,B⟩
  .simp at m
 .rename_i t y f;split at m
  .rename_i v K;split at m
   .rename_i u U;simp only[aR,cG]at m;obtain⟨rfl,rfl⟩:=m;have H:=E y iK _ K;let ⟨⟨u,k4,B⟩,hm⟩:=ahi (P:=P) (W:=W) fc U H.1;exact⟨λR eo=>H.2 R<|hm R eo,u,Au,B⟩
   .simp at m
  .simp at m
 .rename_i t y f;split at m
  .rename_i v K;split at m
   .rename_i u U;simp only[aR,cG]at m;obtain⟨rfl,rfl⟩:=m;have H:=E y iK _ K;let ⟨⟨u,k4,B⟩,hm⟩:=ahj (P:=P) (W:=W) fc U H.1;exact⟨λR eo=>H.2 R<|hm R eo,u,Au,B⟩
   .simp at m
  .simp at m
 .rename_i y k;split at m
  .rename_i v K;split at m
   .rename_i u U;simp only[aR,cG]at m;obtain⟨rfl,rfl⟩:=m;have H:=E y iK _ K;let ⟨⟨u,k4,B⟩,hm⟩:=ahk (P:=P) (W:=W) U H.1;exact⟨λR eo=>H.2 R<|hm R eo,u,Au,B⟩
   .simp at m
  .simp at m
 .rename_i t y z;split at m
  .rename_i v w K S;have H:=E y iK _ K;have e:=E z iK _ S;let ⟨⟨u,k4,B⟩,hm⟩:=ahl (P:=P) (W:=W) fc m hp H.1 e.1;exact⟨λR eo=>yL,u,Au,B⟩
  .simp at m
 .rename_i t y lo hi;split at m
  .rename_i v l h K hl hh;have H:=E y iK _ K;have e:=FM X st lo l hl<|λq hq=>M q FN;have h3:=FM X st hi h hh<|λq hq=>M q FN;let ⟨⟨u,k4,B⟩,hm⟩:=ahp (P:=P) (W:=W) fc m hp H.1 e h3;exact⟨λR eo=>yL,u,Au,B⟩
  .simp at m
 .rename_i args A;split at m
  .rename_i y t ha ht;have Q:args= #[y]:=FO;have V:A= #[t]:=PN;subst Q V;split at m
   .rename_i v K;split at m
    .rename_i u U;simp only[aR,cG]at m;obtain⟨rfl,rfl⟩:=m;have H:=E y CQ _ K;let ⟨⟨u,k4,B⟩,hm⟩:=ahm (P:=P) (W:=W) (r:=N) fc U H.1;exact⟨λR eo=>yL,u,PO,B⟩
    .simp at m
   .simp at m
  .simp at m
 .rename_i args A;split at m
  .rename_i y z ha;have Q:args= #[y,z]:=FO;subst Q;split at m
   .rename_i v w K S;split at m
    .rename_i u U;simp only[aR,cG]at m;obtain⟨rfl,rfl⟩:=m;have H:=E y CQ _ K;have e:=E z CQ _ S;let ⟨⟨u,k4,B⟩,hm⟩:=WT (P:=P) (W:=W) U J H.1 e.1 A N;simp only[cA]at k4;exact⟨λR eo=>yL,u,PO,B⟩
    .simp at m
   .simp at m
  .simp at m
 .rename_i args A;split at m
  .rename_i y z ha;have Q:args= #[y,z]:=FO;subst Q;split at m
   .rename_i v w K S;split at m
    .rename_i u U;simp only[aR,cG]at m;obtain⟨rfl,rfl⟩:=m;have H:=E y CQ _ K;have e:=E z CQ _ S;let ⟨⟨u,k4,B⟩,hm⟩:=WT (P:=P) (W:=W) U J H.1 e.1 A N;simp only[jQ,cC]at k4;exact⟨λR eo=>yL,u,PO,B⟩
    .simp at m
   .simp at m
  .simp at m
 .simp at m
end
section
variable{P:cT}{tt:TT}{g:Gh}{W:da}
def run_load{a:Addr}{v}(b:W.cell? a=some v):(load a).run P W= .ok v W:=by simp[load,lU,b]
def run_loadCellsFrom(b:I):∀(n i a:I)(vs:V bH)(c:Array bH),G vs=n->(∀d(k:d<G vs),W.cell? ⟨b,a+i+d,none⟩=some vs[d])->
  (loadCellsFrom ⟨b,a,none⟩ i n c).run P W= .ok (c++vs.toArray) W
 |0,i,a,vs,c,hl,_=>by have:vs=[]:=et hl;subst this;simp[loadCellsFrom,pure]
 |n+1,i,a,[],c,hl,_=>by simp at hl
 |n+1,i,a,v::vs,c,hl,hc=>by have f:=hc 0 ax;simp only[jE,vE]at f;have l:=run_loadCellsFrom b n (i+1) a vs (c.push v) wU (λd k=>by have:=hc (d+1) bP;simp only[CR]at this;rw[(S:a+(i+1)+d=a+i+(d+1))];exact this);simp only[loadCellsFrom,pv,dY,run_load f,eP,l];congr 1;apply PQ;simp
def ahq{f}{a}(c:vB P f=some a){i:TypeInfo}(n:P.info? f=some i) b off vs(l:G vs=i.size)(d:a=ah->i.size=1)
  (m:∀k(r:k<G vs),W.cell? ⟨b,off+k,none⟩=some vs[k]):∃v,(loadVar f ⟨b,off,none⟩).run P W= .ok v W/\((a=ae/\v= .agg vs.toArray)\/(a=ah/\vs=[v])):=by
 cases a with
 |true=>
  refine⟨.agg vs.toArray,?_,.inl ⟨J,J⟩⟩
  simp only[loadVar,dY,JO c,eP,cA,run_sizeOf n,loadCells]
  rw[run_loadCellsFrom b i.size 0 off vs #[] l (by simpa using m)]
  simp[pure]
 |false=>
  have p:G vs=1:=by rw[l];exact d J
  match vs,p with
  |[v],_=>
   refine⟨v,?_,.inr ⟨J,J⟩⟩
   have:=m 0 ax
   simp only[jE,vE]at this
   simp only[loadVar,dY,JO c,eP,jQ,cC,run_load this]
def px(tt:TT)(b:I):bF (I×Bool):=match kZ b tt with
 |some a=>if a.agg then some (a.size,ae)else if a.size=1 then some (1,ah)else none
 |none=>none
def FP(b:cN P tt=ae){c sz}{d}(a:px tt c=some (sz,d)):vB P c=some d/\(∃i,P.info? c=some i/\i.size=sz)/\(d=ah->sz=1):=by
 unfold px at a;split at a
 .rename_i r n;have f:=g5 b n;let ⟨i,l,m,_⟩:=f.info;split at a
  .rename_i k;simp only[aR,cG]at a;obtain⟨rfl,rfl⟩:=a;exact⟨by rw[f.agg,k],⟨i,l,m⟩,ax⟩
  .rename_i k;split at a
   .rename_i p;simp only[aR,cG]at a;obtain⟨rfl,rfl⟩:=a;exact⟨by rw[f.agg];simpa using k,⟨i,l,by rw[m];exact p⟩,λ_=>rfl⟩
   .simp at a
 .simp at a
def FQ(E:cN P tt=ae){R sz}{B}(bW:px tt R=some (sz,B)){F}{vs}(H:bL g F vs){a}{x}(d:oH F a sz B=some x)
 b n (hc:∀k(U:k<G vs),W.cell? ⟨b,n+k,none⟩=some vs[k]):∃v,(WU R<|.pointer<|some ⟨b,n+a,none⟩).run P W= .ok v W/\bI g x v:=by
 let ⟨C,⟨i,e,q⟩,f⟩:=FP E bW
 have X:=H.length
 have K:a+sz<=G F:=by
  unfold oH at d;cases B with
  |true=>simp only[cA]at d;split at d<;>simp_all
  |false=>
   simp only[jQ,cC,cd]at d
   let ⟨c,l,_⟩:=d
   have:=(uv.1 l).1
   have:=f J
   omega
 let ⟨v,p,m⟩:=ahq (W:=W) C e b (n+a) ((aE a vs).take sz) bP (by rw[q];exact f) (λk U=>by simp at U;have:=hc (a+k) S;simp only[sT,uw];rw[(S:n+a+k=n+(a+k))];exact this)
 refine⟨v,by simpa[WU,WQ]using p,?_⟩
 unfold oH at d
 cases B with
 |true=>
  simp only[cA]at d
  split at d
  .simp only[aR]at d;subst d;rcases m with⟨_,rfl⟩|⟨Q,_⟩
   .exact⟨_,J,(H.drop a).take sz⟩
   .simp at Q
  .rename_i s;exact absurd K s
 |false=>
  simp only[jQ,cC,cd]at d
  obtain⟨c,l,rfl⟩:=d
  rcases m with⟨Q,_⟩|⟨_,m⟩
  .simp at Q
  .let ⟨u,hu,r⟩:=H.get l;have w:=f J;subst w;have:(aE a vs).take 1=[u]:=by rw[List.take_one,List.head?_drop,hu];rfl
   rw[this]at m;simp only[JW,and_true]at m;subst m;exact r
def FR(tt:TT)(b:St)(d:I)(x:AV):bF (AV×Pr×V I):=match px tt d with
 |some (sz,a)=>(match x with
  | .c (.P id off)=>(match kZ id b.mem with
   |some (.box _ _ cs)=>(match oH cs off sz a with|some y=>some (y,.t,[id])|none=>none)
   |some (.fz _ cs)=>(match oH cs off sz a with|some y=>some (y,.t,[id])|none=>none)
   |_=>none)
  | .c (.E T e off)=>(match oH (av T e) off sz a with|some y=>some (y,.t,[])|none=>none)
  | .c (.Y id n i off)=>(match kZ id b.mem with
   |some (.vec _ T xs)=>if T.n=n then(match oH (av T<|Y xs i T.cJ) off sz a with|some y=>some (y,.JM i<|G xs,[id])|none=>none)else none
   |_=>none)
  |_=>none)
 |none=>none
def k5(d:St)(a:V I):V (Key×Info):=a.flatMap λc=>match kZ c d.mem with
 |some b=>[(.m c,.b b)]
 |none=>[]
def sU{b}{vs}{E}{f}(c:W.heap[b]? =some (.cells vs.toArray E f)) a(d:a<G vs):W.cell? ⟨b,a,none⟩=some vs[a]:=by simp[FT,c,d]
def FU:∀(i:ET)(x:i.den),cy (av i x)=[]
 | .int _,_=>rfl
 | .bool,_=>rfl
 | .z,_=>rfl
 | .q,_=>rfl
 | .sl _,_=>rfl
 | .pr k B,x=>by
  have l:∀(a b:V C),cy a=[]->cy b=[]->cy (a++b)=[]:=by
   intro a;induction a with
   |nil=>intro b _ d;exact d
   |cons c a m=>
    intro b f d
    simp only[cy,CS]at f
    simp only[kU,cy,CS]
    exact⟨f.1,m b f.2 d⟩
  exact l _ _ (FU k x.1)<|FU B x.2
def ahr(fc:cN P tt=ae){ops}{i}{br:dv}{d:I}(ho:ops[i]? =some br)(hg:br.guard=none)(hd:br.dst=some d){n}(dC:d<n){b9}{x}(dZ:br.op= .load b9 x)
 {st}{v dT}{p}{ids:V I} (hx:st.ev x=some v) (B:FR tt st b9 v=some (dT,p,ids)) (hp:p) (new:I):
  ml P n ops i (dO st x++k5 st ids) [(.s d,some<|.v dT)] new:=by
 refine uu ho hg hd dC _ dT new ?_
 intro F known σ g W a C M
 have U:=gO C st x v hx<|λkx dL=>M kx<|fC _ dL
 have q:∀X∈ids,∀b,kZ X st.mem=some b->σ (.m X)=some (.b b):=by intro X eo b hb;exact M (.m X,.b b)<|jo _<|jF.2 ⟨X,eo,by simp[hb]⟩
 have K:execOp a.eval br=(do pure (.value<|<-WU b9 (a.eval x))):=wV
 unfold FR at B
 split at B
 .rename_i sz ag D;split at B
  .rename_i X N;split at B
   .rename_i E bz cs O;split at B
    .rename_i z w;simp only[aR,cG]at B;obtain⟨rfl,rfl,rfl⟩:=B;have R:=q X ax _ O;let ⟨b,vs,rest,A,Z,hr,_,_⟩:=C.db X _ R;let ⟨b',f,J⟩:=U;rw[A]at f;simp only[aR]at f;subst f;let ⟨u,r,hu⟩:=FQ (W:=W) fc D hr w b 0 (λj L=>by have:=sU Z j bP;rw[wW L]at this;simpa using this);refine⟨λQ H=>C.ar _ _ R Q<|CO w Q H,u,?_,hu⟩;rw[K,J];simp only[dU]at r;simp[r,lU,pure]
    .simp at B
   .rename_i E cs O;split at B
    .rename_i z w;simp only[aR,cG]at B;obtain⟨rfl,rfl,rfl⟩:=B;have R:=q X ax _ O;let ⟨b,vs,rest,A,Z,hr,_⟩:=C.db X _ R;let ⟨b',f,J⟩:=U;rw[A]at f;simp only[aR]at f;subst f;let ⟨u,r,hu⟩:=FQ (W:=W) fc D hr w b 0 (λj L=>by have:=sU Z j bP;rw[wW L]at this;simpa using this);refine⟨λQ H=>C.ar _ _ R Q<|CO w Q H,u,?_,hu⟩;rw[K,J];simp only[dU]at r;simp[r,lU,pure]
    .simp at B
   .simp at B
  .rename_i T e N;split at B
   .rename_i z w;simp only[aR,cG]at B;obtain⟨rfl,rfl,rfl⟩:=B;let ⟨b,o',cs,J,ahs,hc⟩:=U;let ⟨u,r,hu⟩:=FQ (W:=W) fc D (Cv T e cs ahs) w b o'<|λj L=>C.sub _ _ _<|hc j L;refine⟨λQ H=>?_,u,?_,hu⟩
    .have:=CO w Q H;rw[FU]at this;cases this
    .rw[K,J];simp[r,lU,pure]
   .simp at B
  .rename_i X m k N;split at B
   .rename_i E T xs O;split at B
    .rename_i qx;split at B
     .rename_i z w;simp only[aR,cG]at B;obtain⟨rfl,rfl,rfl⟩:=B;have R:=q X ax _ O;let ⟨b',l,c,f,J⟩:=U;rcases C.db X _ R with⟨_,h0⟩|⟨b,cap,vs,A,Z,hlen,hle,_,hr,_,_⟩
      .subst h0;simp[Pr.h]at hp
      .rw[A]at f;simp only[aho,aR,Addr.mk.injEq,and_true]at f;obtain⟨rfl,_,_⟩:=f;have hp:k<G xs:=hp;have JZ:=hr k hp;rw[show xs[k]=Y xs k T.cJ by rw[aF,bD hp];rfl]at JZ;have CT:(k+1)*T.n<=cap*T.n:=eB _ S;rw[g7,iL]at CT;have auF:G ((aE (k*T.n) vs).take T.n)=T.n:=bP;let ⟨u,r,hu⟩:=FQ (W:=W) fc D (Cv T _ _ JZ) w b (k*T.n) (λj L=>by have:=sU Z (k*T.n+j) S;simp only[sT,uw];exact this);refine⟨λQ H=>?_,u,?_,hu⟩
       .have:=CO w Q H;rw[FU]at this;cases this
       .rw[K,J,<-qx];simp[r,lU,pure]
     .simp at B
    .simp at B
   .simp at B
  .simp at B
 .simp at B
end
section
variable{P:cT}{tt:TT}{g:Gh}{W:da}
def oI:bH->Bool
 | .agg _=>ah
 | .tuple _=>ah
 |_=>ae
def qy:C->Bool
 | .any=>ah
 | .V v=>oI v
 | .M _=>ah
 | .X _=>ah
 |_=>ae
def WV{c}{v}(p:qy c=ae)(d:dn g c v):oI v=ae:=by
 cases c with
 |any=>simp[qy]at p
 |B b=>simp only[dn]at d;subst d;rfl
 |I k n=>simp only[dn]at d;subst d;rfl
 |V u=>simp only[dn]at d;subst d;exact p
 |S T xs=>obtain⟨a,f,rfl,_⟩:=d;rfl
 |P id off=>obtain⟨b,_,rfl⟩:=d;rfl
 |X id=>simp[qy]at p
 |Y id n i off=>obtain⟨b,l,c,_,rfl⟩:=d;rfl
 |E T x off=>obtain⟨b,o,r,rfl,_⟩:=d;rfl
 |M m=>simp[qy]at p
 |L id off len f=>
  cases f with
  |some c=>obtain⟨b,_,rfl⟩:=d;rfl
  |none=>obtain⟨_,b,c,_,rfl,_⟩:=d;rfl
 |W id off len=>obtain⟨b,c,_,rfl,_⟩:=d;rfl
def jr(W:da)(b:I)(vs:V bH)(E:eL):da:={W with heap:=W.heap.setIfInBounds b<|.cells vs.toArray E (0,0)}
def CU{b}{vs}{E}(a:b<W.heap.size):(jr W b vs E).heap[b]? =some (.cells vs.toArray E (0,0)):=by simp[jr,a]
def CV{b k}{vs}{E}(a:b≠k):(jr W b vs E).heap[k]? =W.heap[k]? :=by simp[jr,nf a]
def aht{b j}{vs}{E}(a:W.heap[b]? =some (.cells vs.toArray E (0,0)))(d:j<G vs){v}(f:oI v=ae):
  (store ⟨b,j,none⟩ v).run P W= .ok () (jr W b (vs.set j v) E):=by
 have i:b<W.heap.size:=(jP.1 a).1
 have l:W.cell? ⟨b,j,none⟩=some vs[j]:=sU a j d
 have m:W.frozen? ⟨b,j,none⟩=ah:=by simp[World.frozen?,a]
 have n:W.setCell ⟨b,j,none⟩ v=jr W b (vs.set j v) E:=by
  unfold World.setCell jr;congr 1;apply ahu;intro k;rw[Array.getElem?_modify,ahv];have c:W.heap[b]= .cells vs.toArray E (0,0):=(jP.1 a).2;by_cases e:b=k
  .subst e;simp[i,c]
  .simp[e]
 cases v<;>simp[store,lU,l,m,n]<;>simp[oI]at f
def ahw{b}{vs a}{E c}:jr (jr W b vs E) b a c=jr W b a c:=by simp[jr]
def ahx{b}{vs}{E}(c:W.heap[b]? =some (.cells vs.toArray E (0,0))):jr W b vs E=W:=by
 have d:b<W.heap.size:=(jP.1 c).1;have:W.heap.setIfInBounds b (.cells vs.toArray E (0,0))=W.heap:=by
  apply ahu;intro k;rw[ahv];by_cases e:b=k
  .subst e;have a:W.heap[b]= .cells vs.toArray E (0,0):=(jP.1 c).2;simp[d,a]
  .simp[e]
 unfold jr;rw[this]
def dx{b:Type}(vs c:V b)(a:I):V b:=y a vs++c++aE (a+G c) vs
def CW{b:Type}(vs a:V b) off(c:off+G a<=G vs):(dx vs a off).length=G vs:=by simp[dx];omega
def WW{b:Type} vs us(a:b) off(h:off<G vs):dx (vs.set off a) us (off+1)=dx vs (a::us) off:=by
 unfold dx;rw[List.drop_set_of_lt S];have c:y (off+1) (vs.set off a)=y off vs++[a]:=by rw[FV du];simp only[List.take_set,List.getElem_set_self];rw[List.set_eq_of_length_le bP]
 rw[c];simp only[fu,jR,kU,sV];rw[(S:off+1+G us=off+(G us+1))]
def CY(b:I){E:eL}:∀(d:V bH)(W:da)(vs:V bH)(a i:I),W.heap[b]? =some (.cells vs.toArray E (0,0))->a+i+G d<=G vs->(∀f∈d,oI f=ae)->
  (storeCells ⟨b,a,none⟩ d i).run P W= .ok () (jr W b (dx vs d<|a+i) E)
 |[],W,vs,a,i,k,_,_=>by
  have:dx vs [] (a+i)=vs:=by simp[dx]
  rw[this,ahx k];simp[storeCells,pure]
 |f::d,W,vs,a,i,k,hle,c=>by simp only[fu]at hle;have l:b<W.heap.size:=(jP.1 k).1;have m:=aht (P:=P) k (j:=a+i) S<|c f ax;have n:=CY b d (jr W b (vs.set (a+i) f) E) (vs.set (a+i) f) a (i+1) (CU l) bP<|λx hx=>c x iB;simp only[storeCells,pv,dY,m,eP,n,ahw];rw[(S:a+(i+1)=a+i+1),WW _ _ _ _ S]
def js:AV->bF (V C)
 | .c x=>some [x]
 | .a cs=>some cs
 | .t _=>none
def J0{x}{i}(b:js x=some i){v}(d:bI g x v)(f:∀c∈i,qy c=ae):∃vs,v.cells=vs.toArray/\bL g i vs:=by
 cases x with
 |c y=>
  simp only[js,aR]at b
  subst b
  have k:=WV (f y ax) d
  refine⟨[v],?_,v,[],J,d,J⟩
  cases v<;>first|rfl| (simp[oI]at k)
 |a ds=>
  simp only[js,aR]at b
  subst b
  obtain⟨vs,rfl,d⟩:=d
  exact⟨vs,J,d⟩
 |t _=>simp[js]at b
def bL.one{b}{vs}(d:bL g b vs)(a:∀c∈b,qy c=ae):∀v∈vs,oI v=ae:=by
 induction b generalizing vs with
 |nil=>simp only[bL]at d;subst d;simp
 |cons c b k=>
  obtain⟨v,r,rfl,l,m⟩:=d
  intro u f
  rcases df.1 f with rfl|f
  .exact WV (a c ax) l
  .exact k m (λn i=>a n<|by simp[i]) u f
def bL.dx{a b}{vs c}(d:bL g a vs)(f:bL g b c) off:bL g (Go.El.dx a b off) (Go.El.dx vs c off):=by unfold Go.El.dx;rw[f.length];exact bL.append (bL.append (d.take off) f)<|d.drop _
def J1 a b:∀d∈cy (a++b),d∈cy a\/d∈cy b:=by
 induction a with
 |nil=>intro d h;exact .inr h
 |cons c a f=>
  intro d h
  simp only[kU,cy,b8]at h⊢
  rcases h with h|h
  .exact .inl<|.inl h
  .rcases f d h with h|h
   .exact .inl<|.inr h
   .exact .inr h
end
section
variable{P:cT}{tt:TT}
def PR(tt:TT)(a:St)(b:I)(x v:AV):bF (I×aH):=match px tt b,x,js v with
 |some (sz,_),.c (.P id off),some us=>(match kZ id a.mem with
  |some (.box E d cs)=>if G us=sz/\off+sz<=G cs/\us.all qy=ae then some (id,.box E d<|dx cs us off)else none
  |_=>none)
 |_,_,_=>none
def PU cs us off:∀a∈cy (dx cs us off),a∈cy cs\/a∈cy us:=by
 intro a b;unfold dx at b;rcases J1 _ _ a b with h|h
 .rcases J1 _ _ a h with h|h
  .exact .inl<|JR _ _ a h
  .exact .inr h
 .exact .inl<|JQ _ _ a h
def FW{H}{W}(f:Sub H W){b}{vs}{E}(g:∀a,H b a=none):Sub H (jr W b vs E):=by
 intro d a v c;have i:=f d a v c;by_cases e:b=d
 .subst e;rw[g a]at c;cases c
 .simp only[FT,CV e];exact i
def WY{b:Type}(vs rest a:V b) off(c:off+G a<=G vs):dx (vs++rest) a off=dx vs a off++rest:=by unfold dx;rw[yM S,Av S];simp[jR]
def ahy(fc:cN P tt=ae){ops}{i}{br}(ho:ops[i]? =some br)(hg:br.guard=none)(hd:br.dst=none){n}{b9:eL}{x dT}(dZ:br.op= .store b9 x dT)
 {H}{vx vy}{id}{bk:aH} (hx:H.ev x=some vx) (hy:H.ev dT=some vy) (R:PR tt H b9 vx vy=some (id,bk)) (new:I):
  ml P n ops i (dO H x++dO H dT++k5 H [id]) [(.m id,some<|.b bk)] new:=by
 intro F nF Q M σ g W a K A d C hK
 have N:=gO d H x vx hx<|λD dL=>C D jt
 have O:=gO d H dT vy hy<|λD dL=>C D jt
 have T:=uq d H dT vy hy<|λD dL=>C D jt
 unfold PR at R
 split at R
 .rename_i _ sz ag v l us V p;split at R
  .rename_i E bz cs hl;split at R
   .rename_i s;let ⟨h1,h2,h3⟩:=s;simp only[aR,cG]at R;obtain⟨rfl,rfl⟩:=R;have r:σ (.m v)=some (.b<|.box E bz cs):=C (.m v,.b<|.box E bz cs) sW;let ⟨b,vs,rest,u,hh,hr,hN,hz,Y⟩:=d.db v _ r;let ⟨b',B,hv⟩:=N;rw[u]at B;simp only[aR]at B;subst B;have X:∀c∈us,qy c=ae:=λc hc=>rv.1 h3 c hc
    let ⟨ws,Z,w⟩:=J0 p O X;let ⟨_,⟨ti,ry,WZ⟩,_⟩:=FP fc V;have auG:=w.length;have ahz:=hr.length;have G:(Instr.storeAt b9 (a.eval x)<|a.eval dT).run P W= .ok () (jr W b (dx (vs++rest) ws l) E):=by rw[hv];simp only[Instr.storeAt,WQ,storeVar,dY,Sem.run_pure,eP,run_sizeOf ry,Z];have:¬(ws.toArray.size≠ti.size):=bP;simp only[this,cC];have:=CY (P:=P) b ws W (vs++rest) l 0 hh bP<|w.one X;simp only[jE]at this;simpa using this
    unfold wpOp;simp only[ho,nG,hg,cA];refine .inl ?_;unfold uk;have hex:(execOp a.eval br).run P W= .ok .skip (jr W b (dx (vs++rest) ws l) E):=by rw[execOp,dZ];simp[G,lU,pure]
    rw[hex];simp only[sL,hd,jq];have hb:b<W.heap.size:=(jP.1 hh).1;refine hK g _ a<|d.step (chg:=λj=>j=v) (g':=g) ⟨⟨cz.refl _,λ_ _=>rfl⟩,λ_ _ _=>rfl,FW d.sub hz,by simp[jr],?_,J,J,J⟩ _ new A J d.defers (λ_ _=>rfl) ?_ ?_ ?_ ?_ ?_
    .intro k hk kj;have:b≠k:=λe=>kj v J (by rw[u,e])
     exact CV this
    .intro j U;subst U;exact⟨by simp[bf],_,r⟩
    .intro t' v' ht;simp[bf]at ht
    .intro j bk U;simp only[bf]at U;split at U
     .rename_i e;simp only[Key.m.injEq]at e;subst e;simp only[aR,Info.b.injEq]at U;subst U;have L:dx (vs++rest) ws l=dx vs ws l++rest:=WY vs rest ws l S;exact⟨⟨b,dx vs ws l,rest,u,by rw[CU hb,L],hr.dx w l,hN,hz,λh0=>by let ⟨c,e1,e2⟩:=Y h0;refine⟨c,e1,?_⟩;rw[<-L,CW _ _ _ bP];exact e2⟩,.inl ⟨d.fD _ _ r,_,r⟩⟩
     .simp at U
    .intro k z f;simp only[bf]at f;split at f
     .simp only[aR]at f;subst f;intro j U;rcases PU _ _ _ j U with h|h
      .exact .inl<|d.ar _ _ r j h
      .refine .inl<|T j ?_;cases vy with
       |c q=>simp only[js,aR]at p;subst p;simpa[cy,AV.ar]using h
       |a q=>simp only[js,aR]at p;subst p;exact h
       |t q=>simp[js]at p
     .simp at f
    .intro j z f;simp only[bf]at f;split at f
     .rename_i e;simp only[Key.m.injEq]at e;subst e;exact .inl<|d.fD _ _ r
     .simp at f
   .simp at R
  .simp at R
 .simp at R
def FX(W:da)(a:Obj) k(b:k<W.heap.size):(W.heap.push a)[k]? =W.heap[k]? :=by rw[Array.getElem?_push,M S]
def FY{H}{W}(f:Sub H W)(d:Obj):Sub H {W with heap:=W.heap.push d}:=by intro b a v g;have c:=f b a v g;have i:=FZ W _ c;simp only[FT]at c⊢;rw[FX W d b i];exact c
def W0{U}{i}{x:dv}{d:I}(ho:U[i]? =some x)(hg:x.guard=none)(hd:x.dst=some d){n}(dC:d<n){E}rd cs new
  (bW:∀(F:eF)(f:I->Prop)(σ:Kn)(g:Gh)(W:da)(a:Act),bu F f σ g W a->(∀kx∈rd,σ kx.1=some kx.2)->
   (∀p∈cy cs,f p)/\∃vs,bL g cs vs/\(execOp a.eval x).run P W= .ok (.value<|.pointer<|some ⟨W.heap.size,0,none⟩) {W with heap:=W.heap.push<|.cells vs.toArray E (0,0)}):
  ml P n U i rd [(.s d,some<|.v<|.c<|.P new 0),(.m new,some<|.b<|.box E 0 cs)] new:=by
 intro F nF Q f σ g W a K B bC q D
 let ⟨hm,vs,G,X⟩:=bW F f σ g W a bC q
 unfold wpOp
 simp only[ho,nG,hg,cA]
 refine .inl ?_
 unfold uk
 rw[X]
 simp only[sL,hd]
 have w:d<a.tmps.size:=pq
 let R:Gh:=⟨g.H,λp=>if p=new then .pointer (some ⟨W.heap.size,0,none⟩)else g.γ p⟩
 have j:iT f g R:=⟨cz.refl _,λp l=>by
  have:p≠new:=λe=>B<|e▸l
  simp[R,this]⟩
 have r:∀x,g.H W.heap.size x=none:=by
  intro x;cases L:g.H W.heap.size x with
  |none=>rfl
  |some v=>
   have:=FZ W _<|bC.sub _ _ _ L
   simp at this
 refine D R _ _<|bC.step (chg:=λ_=>False) (g':=R) ⟨j,λ_ _ _=>rfl,FY bC.sub _,ax,λk z _=>FX W _ k z,J,J,J⟩ _ new B qt bC.defers ?_ (λ_ bW=>bW.elim) ?_ ?_ ?_ ?_
 .intro t ht;have A:d≠t:=rz;simp[jq,nf A]
 .intro t u ht;simp only[bf]at ht;split at ht
  .rename_i e;simp only[Key.s.injEq]at e;simp only[aR,Info.v.injEq]at ht;subst e;subst ht;refine⟨W.heap.size,by simp[R,cP],?_⟩;simp[jq,w]
  .split at ht
   .simp at ht
   .simp at ht
 .intro p b ht;simp only[bf,reduceCtorEq,cC]at ht;split at ht
  .rename_i e;simp only[Key.m.injEq]at e;subst e;simp only[aR,Info.b.injEq]at ht;subst ht;refine⟨⟨W.heap.size,vs,[],by simp[R,cP],ax,bL.mono j hm G,.inl bC.below.size,r,ax⟩,.inr ⟨J,λk z=> .inl ?_⟩⟩;simp only[R,cA,cP,aR]at z;omega
  .simp at ht
 .intro k y ht;simp only[bf]at ht;split at ht
  .simp only[aR]at ht;subst ht;intro p l;simp[Info.ar,AV.ar,C.ar]at l;exact .inr l
  .split at ht
   .simp only[aR]at ht;subst ht;exact λp l=> .inl<|hm p l
   .simp at ht
 .intro p y ht;simp only[bf,reduceCtorEq,cC]at ht;split at ht
  .rename_i e;simp only[Key.m.injEq]at e;exact .inr e.symm
  .simp at ht
def ahA{p}{i}{H:dv}{d:I}(ho:p[i]? =some H)(hg:H.guard=none)(hd:H.dst=some d){n}(U:d<n){E}{x}(dZ:H.op= .box E x)
 {Q}{v}{R}(hx:Q.ev x=some v) (f:js v=some R) (PV:R.all qy=ae) (k:I):
  ml P n p i (dO Q x) [(.s d,some<|.v<|.c<|.P k 0),(.m k,some<|.b<|.box E 0 R)] k:=by
 refine W0 ho hg hd U _ R k ?_
 intro F C w g W a l r
 have e:=gO l Q x v hx r
 have h:=uq l Q x v hx r
 let ⟨vs,K,X⟩:=J0 f e<|λc j=>rv.1 PV c j
 refine⟨λu B=>h u ?_,vs,X,?_⟩
 .cases v with
  |c q=>simp only[js,aR]at f;subst f;simpa[cy,AV.ar]using B
  |a q=>simp only[js,aR]at f;subst f;exact B
  |t q=>simp[js]at f
 .rw[execOp,dZ];simp[Instr.box,newVar,newRow,newObj,K,lU,pure]
def CZ(g:Gh):∀a:V ZV,bL g (a.map ZV.ru) (a.map ZV.gq)
 |[]=>rfl
 |b::a=>⟨_,_,J,by cases b<;>rfl,CZ g a⟩
def ahB(B:cN P tt=ae){f}{i}{p:dv}{d:I}(ho:f[i]? =some p)(hg:p.guard=none)(hd:p.dst=some d){n}(H:d<n){E}(Q:p.op= .alloc E)
 {r}(R:kZ E tt=some r) new:
  ml P n f i [] [(.s d,some<|.v<|.c<|.P new 0),(.m new,some<|.b<|.box E 0<|r.zero.map ZV.ru)] new:=by
 refine W0 ho hg hd H _ _ new ?_
 intro F C q g W a U X
 let ⟨t,e,_,_,z,h,K⟩:=(g5 B R).info
 refine⟨?_,r.zero.map ZV.gq,CZ g _,?_⟩
 .intro u k;exfalso;have:∀x:V ZV,cy (x.map ZV.ru)=[]:=by
   intro x;induction x with
   |nil=>rfl
   |cons z x j=>simp only[gZ,cy,j];cases z<;>rfl
  rw[this]at k;cases k
 .have l:z.cells=(r.zero.map ZV.gq).toArray:=by rw[<-J2];simpa using K
  rw[execOp,Q];simp[Instr.alloc,zeroValue,typeInfo,e,h,newVar,newRow,newObj,l,lU,pure]
end
end Go.El
