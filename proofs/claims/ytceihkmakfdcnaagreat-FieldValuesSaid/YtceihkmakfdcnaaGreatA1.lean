/- The engine, part 1: data, abstract values, what it means that they describe memory. Own work; no condition. -/
import Derived.WalkKit
import Derived.OrdersIn
import Derived.Test.YtceihkmakfdcnaaGreatA0
set_option linter.all false
set_option maxHeartbeats 16000000
set_option maxRecDepth 100000
open Array renaming ext_getElem?->agh,getElem?_setIfInBounds->agi
open BitVec renaming ofInt->iA
open Bool renaming false->ah,true->af
open Go renaming Value->a4,IntKind->mb,TypeId->dI,World->cD,Oper->bh,Program->bZ
open Go.Instr renaming fieldAt->Vk,sureAddr->B6,extract->Vm,indexAt->zE,sliceBound->OU,sliceBounds->vq,loadAt->Vq
open Go.Op renaming intArith->OO
open Go.Region renaming binds->sx,ready->Vc
open Go.Result renaming andThen->df
open Go.Sem renaming run_bind->c9,run->jH
open Go.Value.slice renaming injEq->agb
open Int renaming toNat->ae,lt_of_mul_lt_mul_right->afE,le_ediv_of_mul_le->afG
open List renaming length->Z,take->h,drop->az,getD->E,filter_cons_of_pos->afK,filter_cons_of_neg->afL,range->cc
open List.cons renaming injEq->aga
open Nat renaming one_pos->BJ,strongRecOn->ER
open Option renaming some->ad
open _root_ renaming Nat->Y,Option->aw,Int->O,List->V
namespace Go.El
open Go Go.RowKit
abbrev FH:=Y->Y->aw a4
inductive ET where
 |int (k:mb)|bool|z|q|sl (a:ET)|pr (A B:ET)
@[reducible] def ET.den : ET -> Type
 | .int _=>O
 | .bool=>Bool
 | .z=>O
 | .q=>Rat
 | .sl a=>V a.den
 | .pr A B=>A.den×B.den
@[reducible] def ET.aD : (a : ET) -> a.den
 | .int _=>(0:O)
 | .bool=>ah
 | .z=>(0:O)
 | .q=>(0:Rat)
 | .sl _=>[]
 | .pr A B=>(A.aD,B.aD)
@[reducible] def ET.n : ET -> Y
 | .int _=>1
 | .bool=>1
 | .z=>2
 | .q=>4
 | .sl _=>1
 | .pr A B=>A.n+B.n
def ET.zl:∀a:ET,0<a.n
 | .int _=>BJ
 | .bool=>BJ
 | .z=>Nat.two_pos
 | .q=>by decide
 | .sl _=>BJ
 | .pr A B=>by have:=A.zl;simp only[ET.n];omega
def xt:Y->Y->V O
 |0,_=>[]
 |f+1,n=>if n=0 then[]else((n%4294967296:Y):O)::xt f (n/4294967296)
def mV(n:Y):V O:=xt n n
def b6(a:O):Bool:=decide<|a<0
def dN(a:O):V O:=mV<|Int.natAbs a
def kZ{g:Type}(k:g->V a4->Prop)(n:Y)(H:FH)(xs:V g)(v:a4):Prop:=
 ∃a c,v= .slice a (Z xs) c/\Z xs<=c/\Z xs*n<=140737488355328/\
  (xs=[]\/∃b d,a=ad ⟨b,d,none⟩/\∀i(h:i<Z xs),∃f,Z f=n/\k xs[i] f/\
   ∀j(l:j<Z f),H b (d+i*n+j)=ad f[j])
def BK(H:FH)(a:V O)(v:a4):Prop:=kZ (λn c=>c=[.int .u32 n]) 1 H a v
def p8(H:FH)(a:O)(vs:V a4):Prop:=∃m,vs=[.bool (b6 a),m]/\BK H (dN a) m
def cV(H:FH):(d:ET)->d.den->V a4->Prop
 | .int k,n,vs=>vs=[.int k n]
 | .bool,c,vs=>vs=[.bool c]
 | .z,f,vs=>p8 H f vs
 | .q,r,vs=>∃a c,vs=a++c/\p8 H r.num a/\p8 H (r.den:O) c
 | .sl d,xs,vs=>∃v,vs=[v]/\kZ (cV H d) d.n H xs v
 | .pr A B,x,vs=>∃a c,vs=a++c/\cV H A x.1 a/\cV H B x.2 c
def cK(H a:FH):Prop:=∀b o v,H b o=ad v->a b o=ad v
def cK.refl H:cK H H:=λ_ _ _ h=>h
def cK.trans{a c d}(f:cK a c)(k:cK c d):cK a d:=λb o v e=>k b o v<|f b o v e
def kZ.mono{p:Type}{g k:p->V a4->Prop}{n}{H m}{xs}{v}(t:kZ g n H xs v)
  (u:cK H m) (A:∀x d,g x d->k x d):kZ k n m xs v:=by
 let ⟨a,cap,e,B,h2,f⟩:=t
 refine⟨a,cap,e,B,h2,?_⟩
 rcases f with f|⟨b,off,C,hc⟩
 .exact .inl f
 .refine .inr ⟨b,off,C,λi F=>?_⟩;let ⟨d,l,r,c⟩:=hc i F;exact⟨d,l,A _ _ r,λj K=>u _ _ _<|c j K⟩
def BK.mono{H c:FH}{d v}(a:BK H d v)(f:cK H c):BK c d v:=kZ.mono a f λ_ _ a=>a
def p8.mono{H c:FH}{d vs}(a:p8 H d vs)(f:cK H c):p8 c d vs:=by let ⟨m,e,a⟩:=a;exact⟨m,e,a.mono f⟩
def cV.mono{H l:FH}(d:cK H l):∀(f:ET)(x:f.den)(vs:V a4),cV H f x vs->cV l f x vs
 | .int _,_,_,c=>c
 | .bool,_,_,c=>c
 | .z,_,_,c=>p8.mono c d
 | .q,_,_,c=>by let ⟨a,k,g,i,h2⟩:=c;exact⟨a,k,g,i.mono d,h2.mono d⟩
 | .sl f,_,_,c=>by let ⟨v,g,i⟩:=c;exact⟨v,g,i.mono d<|λx m=>cV.mono d f x m⟩
 | .pr A B,_,_,c=>by let ⟨a,k,g,i,h2⟩:=c;exact⟨a,k,g,cV.mono d A _ _ i,cV.mono d B _ _ h2⟩
def p8.length{H a vs}(c:p8 H a vs):Z vs=2:=by obtain⟨m,rfl,_⟩:=c;rfl
def cV.length{H:FH}:∀(d:ET)(x:d.den)(vs:V a4),cV H d x vs->Z vs=d.n
 | .int _,_,_,c=>by simp only[cV]at c;subst c;rfl
 | .bool,_,_,c=>by simp only[cV]at c;subst c;rfl
 | .z,_,_,c=>p8.length c
 | .q,_,_,c=>by obtain⟨a,i,rfl,f,g⟩:=c;simp[f.length,g.length]
 | .sl d,_,_,c=>by obtain⟨v,rfl,_⟩:=c;rfl
 | .pr A B,_,_,c=>by obtain⟨a,i,rfl,f,g⟩:=c;simp[cV.length A _ _ f,cV.length B _ _ g]
def rq(a:Bool)(vs:V a4):a4:=match a with
 |true=> .agg vs.toArray
 |false=>vs.headD undef
structure MP where
 p:FH->a4->Prop
 mono:∀H a v,cK H a->p H v->p a v
inductive C where
 |any
 |B (b:Bool)
 |I (k:mb) (n:O)
 |V (v:a4)
 |S (d:ET) (xs:List d.den)
 |P (c a:Nat)
 |X (c:Nat)
 |Y (c:Nat) (n i a:Nat)
 |E (d:ET) (x:d.den) (a:Nat)
 |M (m:MP)
 |L (c a len:Nat) (f:aw Nat)
 |W (c a len:Nat)
inductive AV where
 |c (x:C)
 |a (d:V C)
 |t (vs:V (Bool×V C))
def av:(a:ET)->a.den->V C
 | .int k,n=>[.I k n]
 | .bool,d=>[.B d]
 | .z,c=>[.B (b6 c),.S (.int .u32)<|dN c]
 | .q,r=>[.B (b6 r.num),.S (.int .u32)<|dN r.num,.B<|b6 (r.den:O),.S (.int .u32)<|dN (r.den:O)]
 | .sl a,xs=>[.S a xs]
 | .pr A B,x=>av A x.1++av B x.2
structure Gh where
 H:FH
 γ:Y->a4
def cy:a4->aw Y
 | .pointer (ad a)=>ad a.block
 | .slice (ad a) _ _=>ad a.block
 | .map (ad r)=>ad r
 |_=>none
def da(g:Gh):C->a4->Prop
 | .any,_=>True
 | .B a,v=>v= .bool a
 | .I k n,v=>v= .int k n
 | .V u,v=>v=u
 | .S f xs,v=>kZ (cV g.H f) f.n g.H xs v
 | .P id off,v=>∃a,cy (g.γ id)=ad a/\v= .pointer (ad ⟨a,off,none⟩)
 | .X id,v=>v=g.γ id
 | .Y id n i off,v=>∃a d l,g.γ id= .slice (ad ⟨a,0,none⟩) d l/\v= .pointer (ad ⟨a,i*n+off,none⟩)
 | .E f x off,v=>∃a A r,v= .pointer (ad ⟨a,A+off,none⟩)/\cV g.H f x r/\∀t(F:t<Z r),g.H a (A+t)=ad r[t]
 | .M m,v=>m.p g.H v
 | .L id off d (ad c),v=>∃a,cy (g.γ id)=ad a/\v= .slice (ad ⟨a,off,none⟩) d c
 | .L id off d none,v=>off=0/\∃a c,g.γ id= .slice (ad ⟨a,0,none⟩) 0 c/\v= .slice (ad ⟨a,0,none⟩) d c/\d<=c
 | .W id off d,v=>∃a c,cy (g.γ id)=ad a/\v= .slice (ad ⟨a,off,none⟩) d c/\d<=c
def bc(g:Gh):V C->V a4->Prop
 |[],vs=>vs=[]
 |c::cs,vs=>∃v r,vs=v::r/\da g c v/\bc g cs r
def zm(g:Gh):Bool×V C->a4->Prop
 | (af,cs),v=>∃vs,v= .agg vs.toArray/\bc g cs vs
 | (ah,[c]),v=>da g c v
 | (ah,_),_=>False
def fX(g:Gh):V (Bool×V C)->V a4->Prop
 |[],vs=>vs=[]
 |a::c,vs=>∃v r,vs=v::r/\zm g a v/\fX g c r
def bG(g:Gh):AV->a4->Prop
 | .c x,v=>da g x v
 | .a cs,v=>∃vs,v= .agg vs.toArray/\bc g cs vs
 | .t d,v=>∃vs,v= .tuple vs.toArray/\fX g d vs
def bc.length{g:Gh}:∀{c:V C}{vs:V a4},bc g c vs->Z vs=Z c
 |[],_,a=>by simp only[bc]at a;subst a;rfl
 |_::c,_,a=>by obtain⟨v,r,rfl,_,a⟩:=a;simp[bc.length a]
def bc.append{g:Gh}:∀{c d:V C}{vs f:V a4},bc g c vs->bc g d f->bc g (c++d) (vs++f)
 |[],_,_,_,a,k=>by simp only[bc]at a;subst a;exact k
 |_::c,_,_,_,a,k=>by obtain⟨v,r,rfl,i,l⟩:=a;exact⟨v,_,J,i,bc.append l k⟩
def afv{g:Gh}{a v}(c:BK g.H a v):da g (.S (.int .u32) a) v:=c
def I9{g:Gh}{c vs}(a:p8 g.H c vs):bc g (av .z c) vs:=by obtain⟨m,rfl,a⟩:=a;exact⟨_,_,J,J,_,_,J,afv a,J⟩
def zn{g:Gh}:∀(d:ET)(x:d.den)(vs:V a4),cV g.H d x vs->bc g (av d x) vs
 | .int _,_,_,c=>by simp only[cV]at c;subst c;exact⟨_,_,J,J,J⟩
 | .bool,_,_,c=>by simp only[cV]at c;subst c;exact⟨_,_,J,J,J⟩
 | .z,_,_,c=>I9 c
 | .q,r,_,c=>by obtain⟨a,k,rfl,f,i⟩:=c;exact bc.append (I9 f)<|I9 i
 | .sl d,_,_,c=>by obtain⟨v,rfl,c⟩:=c;exact⟨_,_,J,c,J⟩
 | .pr A B,_,_,c=>by obtain⟨a,k,rfl,f,i⟩:=c;exact bc.append (zn A _ _ f)<|zn B _ _ i
def EP{g:Gh}:∀{cs ds:V C}{vs:V a4},bc g (cs++ds) vs->∃a c,vs=a++c/\bc g cs a/\bc g ds c
 |[],_,vs,d=>⟨[],vs,J,J,d⟩
 |_::cs,_,_,d=>by obtain⟨v,r,rfl,f,i⟩:=d;obtain⟨a,c,rfl,k,l⟩:=EP i;exact⟨v::a,c,J,⟨v,a,J,f,k⟩,l⟩
def Oo{g:Gh}{a vs}(f:bc g (av .z a) vs):p8 g.H a vs:=by obtain⟨v,r,rfl,c,m,k,rfl,i,d⟩:=f;simp only[bc]at d;simp only[da]at c;subst d c;exact⟨m,J,i⟩
def zo{g:Gh}:∀(i:ET)(x:i.den)(vs:V a4),bc g (av i x) vs->cV g.H i x vs
 | .int _,_,_,d=>by obtain⟨v,r,rfl,f,c⟩:=d;simp only[bc]at c;simp only[da]at f;subst f c;rfl
 | .bool,_,_,d=>by obtain⟨v,r,rfl,f,c⟩:=d;simp only[bc]at c;simp only[da]at f;subst f c;rfl
 | .z,_,_,d=>Oo d
 | .q,r,vs,d=>by obtain⟨a,b,rfl,f,c⟩:=EP (cs:=av .z r.num) (ds:=av .z (r.den:O)) d;exact⟨a,b,J,Oo f,Oo c⟩
 | .sl i,_,_,d=>by obtain⟨v,r,rfl,f,c⟩:=d;simp only[bc]at c;subst c;exact⟨v,J,f⟩
 | .pr A B,x,vs,d=>by obtain⟨a,b,rfl,f,c⟩:=EP (cs:=av A x.1) (ds:=av B x.2) d;exact⟨a,b,J,zo A _ _ f,zo B _ _ c⟩
def C.ak:C->List Nat
 | .P id _=>[id]
 | .X id=>[id]
 | .Y id _ _ _=>[id]
 | .L id _ _ _=>[id]
 | .W id _ _=>[id]
 |_=>[]
def b7:V C->V Y
 |[]=>[]
 |c::cs=>c.ak++b7 cs
def fP:V (Bool×V C)->V Y
 |[]=>[]
 |a::c=>b7 a.2++fP c
def AV.ak:AV->V Y
 | .c x=>x.ak
 | .a cs=>b7 cs
 | .t d=>fP d
structure fY(a:Y->Prop)(g d:Gh):Prop where
 H:cK g.H d.H
 γ:∀c,a c->d.γ c=g.γ c
def da.mono{known:Y->Prop}{g g':Gh}(f:fY known g g'):∀{c:C}{v:a4},(∀d∈c.ak,known d)->da g c v->da g' c v
 | .any,_,_,_=>trivial
 | .B _,_,_,a=>a
 | .I _ _,_,_,a=>a
 | .V _,_,_,a=>a
 | .S p _,_,_,a=>kZ.mono a f.H<|λx r=>cV.mono f.H p x r
 | .P d _,_,i,a=>by let ⟨k,n,a⟩:=a;exact⟨k,by rw[f.γ d (i d BL)];exact n,a⟩
 | .X d,_,i,a=>by simp only[da]at a⊢;rw[f.γ d (i d BL)];exact a
 | .Y d _ _ _,_,i,a=>by let ⟨k,l,c,n,a⟩:=a;exact⟨k,l,c,by rw[f.γ d (i d BL)];exact n,a⟩
 | .E p _ _,_,_,a=>by let ⟨k,o,r,n,t,h2⟩:=a;exact⟨k,o,r,n,cV.mono f.H p _ _ t,λj u=>f.H _ _ _<|h2 j u⟩
 | .M m,_,_,a=>m.mono _ _ _ f.H a
 | .L d _ _ (ad _),_,i,a=>by let ⟨k,n,a⟩:=a;exact⟨k,by rw[f.γ d (i d BL)];exact n,a⟩
 | .L d _ _ none,_,i,a=>by let ⟨A,k,c,n,a⟩:=a;exact⟨A,k,c,by rw[f.γ d (i d BL)];exact n,a⟩
 | .W d _ _,_,i,a=>by let ⟨k,c,n,a⟩:=a;exact⟨k,c,by rw[f.γ d (i d BL)];exact n,a⟩
def bc.mono{known:Y->Prop}{g g':Gh}(i:fY known g g'):∀{d:V C}{vs:V a4},(∀c∈b7 d,known c)->bc g d vs->bc g' d vs
 |[],_,_,f=>f
 |_::_,_,k,f=>by let ⟨v,r,l,m,h2⟩:=f;exact⟨v,r,l,da.mono i (λc a=>k c<|by simp[b7,a]) m,bc.mono i (λc a=>k c<|by simp[b7,a]) h2⟩
def zm.mono{known:Y->Prop}{g g':Gh}(l:fY known g g'):∀{d:Bool×V C}{v:a4},(∀f∈b7 d.2,known f)->zm g d v->zm g' d v
 | (af,_),_,i,a=>by let ⟨vs,m,a⟩:=a;exact⟨vs,m,bc.mono l i a⟩
 | (ah,[c]),_,i,a=>da.mono l (λf k=>i f<|by simp[b7,k]) a
 | (ah,[]),_,_,a=>a
 | (ah,_::_::_),_,_,a=>a
def fX.mono{known:Y->Prop}{g g':Gh}(i:fY known g g'):∀{d:V (Bool×V C)}{vs:V a4},(∀c∈fP d,known c)->fX g d vs->fX g' d vs
 |[],_,_,f=>f
 |_::_,_,k,f=>by let ⟨v,r,l,m,h2⟩:=f;exact⟨v,r,l,zm.mono i (λc a=>k c<|by simp[fP,a]) m,fX.mono i (λc a=>k c<|by simp[fP,a]) h2⟩
def bG.mono{known:Y->Prop}{g g':Gh}(i:fY known g g'):∀{x:AV}{v:a4},(∀l∈x.ak,known l)->bG g x v->bG g' x v
 | .c _,_,f,d=>da.mono i f d
 | .a _,_,f,d=>by let ⟨vs,k,d⟩:=d;exact⟨vs,k,bc.mono i f d⟩
 | .t _,_,f,d=>by let ⟨vs,k,d⟩:=d;exact⟨vs,k,fX.mono i f d⟩
def val:V O->O
 |[]=>0
 |a::r=>a+4294967296*val r
def bP(a:V O):Prop:=∀w∈a,0<=w/\w<4294967296
def Oq:bP []:=λ_ h=>by cases h
def xu{a}{c}:bP (a::c)↔(0<=a/\a<4294967296)/\bP c:=by simp[bP]
def ix{a}(c:bP a) n:bP (h n a):=λw d=>c w<|BM d
def xv{a}(c:bP a) n:bP (az n a):=λw d=>c w<|List.mem_of_mem_drop d
def Ot{a c}(d:bP a)(k:bP c):bP (a++c):=λw f=>(bg.mp f).elim (d w)<|k w
def xw{c}(d:bP c) i{a}(f:0<=a/\a<4294967296):bP (c.set i a):=λx g=>(List.mem_or_eq_of_mem_set g).elim (d x)<|λe=>e▸f
def p' n:bP (List.replicate n 0):=λw a=>by have:=List.eq_of_mem_replicate a;subst this;decide
def db{a}(d:bP a) i:0<=E a i 0/\E a i 0<4294967296:=by
 by_cases c:i<Z a
 .simp only[aV,cH c,qe];exact d _<|ru c
 .simp[aV,jQ<|zp c]
def BN a c:val (a++c)=val a+4294967296^Z a*val c:=by
 induction a with
 |nil=>simp[val]
 |cons w r d=>simp only[mc,val,d,eB,eZ];grind
def afw ws i(a:i<Z ws):val (h (i+1) ws)=val (h i ws)+E ws i 0*4294967296^i:=by rw[rv,BN,fp,qf<|BO a];simp[cH a,val,aV];grind
def lE ws i(a:Z ws<=i):val (h i ws)=val ws:=by rw[iK a]
def jF ws i:val (h (i+1) ws)=val (h i ws)+E ws i 0*4294967296^i:=by
 by_cases a:i<Z ws
 .exact afw ws i a
 .rw[lE ws _ G,lE ws i G];simp[aV,jQ<|zp a]
def Ou ws i a(h:i<Z ws):val (ws.set i a)=val ws+(a-E ws i 0)*4294967296^i:=by
 induction ws generalizing i with
 |nil=>simp at h
 |cons x r c=>
  cases i with
  |zero=>simp[val];omega
  |succ i=>
   have:=c i dH
   simp only[List.set_cons_succ,val,this,Ov,eZ];grind
def I' n:val (List.replicate n 0)=0:=by
 induction n with
 |zero=>rfl
 |succ n a=>simp[xx,val,a]
def k6{a}(c:bP a):0<=val a:=by
 induction a with
 |nil=>exact eO _
 |cons w r d=>
  let ⟨f,h2⟩:=xu.mp c
  have:=d h2
  simp only[val];omega
def me{a}(c:bP a):val a<4294967296^Z a:=by
 induction a with
 |nil=>decide
 |cons w r d=>
  let ⟨f,h2⟩:=xu.mp c
  have:=d h2
  simp only[val,eB,eZ];omega
def afx:∀(f g n:Y),n<=f->n<=g->xt f n=xt g n:=by
 intro f;induction f with
 |zero=>
  intro g n h _;have:n=0:=by omega
  subst this;cases g<;>simp[xt]
 |succ f a=>
  intro g n c d
  cases g with
  |zero=>
   have:n=0:=by omega
   subst this;simp[xt]
  |succ g=>
   simp only[xt]
   split
   .rfl
   .rw[a g (n/4294967296) G G]
def BP:mV 0=[]:=rfl
def vi{n}(a:n≠0):mV n=((n%4294967296:Y):O)::mV (n/4294967296):=by
 unfold mV;obtain⟨m,rfl⟩:∃m,n=m+1:=⟨n-1,G⟩;conv=>lhs;unfold xt
 rw[b a,afx m _ _ G<|a7 _]
def dS n:val (mV n)=n:=by
 induction n using ER with
 |ind n a=>
  by_cases h:n=0
  .subst h;rfl
  .rw[vi h];simp only[val,a (n/4294967296) G];omega
def dC n:bP (mV n):=by
 induction n using ER with
 |ind n a=>
  by_cases h:n=0
  .subst h;exact Oq
  .rw[vi h];exact xu.mpr ⟨G,a _ G⟩
def can(a:V O):Prop:=a=[]\/E a (Z a-1) 0≠0
def afy{c}(k:bP c)(a:can c):c=mV (ae<|val c):=by
 induction c with
 |nil=>rfl
 |cons w r f=>
  let ⟨n,h2⟩:=xu.mp k
  have g:can r:=by
   cases r with
   |nil=>exact .inl J
   |cons x s=>exact .inr (by rcases a with a|a;cases a;simpa using a)
  have p:=k6 h2
  have d:ae (val<|w::r)≠0:=by
   simp only[val];intro t;have i:w=0/\val r=0:=G;cases r with
   |nil=>rcases a with a|a;cases a;simp at a;exact a i.1
   |cons x s=>
    have:=f h2 g
    rw[i.2]at this
    exact absurd this (by simp[BP])
  rw[vi d]
  have l:ae (val<|w::r)/4294967296=ae (val r):=by simp only[val];omega
  have m:((ae (val<|w::r)%4294967296:Y):O)=w:=by simp only[val];omega
  rw[l,m,<-f h2 g]
def tS n:can (mV n):=by
 induction n using ER with
 |ind n c=>
  by_cases h:n=0
  .subst h;exact .inl J
  .rw[vi h];refine .inr ?_;by_cases h2:n/4294967296=0
   .rw[h2,BP];simp;omega
   .have:=c (n/4294967296) G;rcases this with a|a
    .exfalso;have:=dS<|n/4294967296;rw[a]at this;simp[val]at this;omega
    .cases hw:mV (n/4294967296)with
     |nil=>rw[hw]at a;simp at a
     |cons x s=>rw[hw]at a;simpa using a
def fq(a:V O):Y->Y
 |0=>0
 |n+1=>if E a n 0=0 then fq a n else n+1
def aS(a:V O):V O:=h (fq a<|Z a) a
def US(a:V O):∀n,fq a n<=n
 |0=>a7 _
 |n+1=>by simp only[fq];split;exact Nat.le_succ_of_le<|US a n;exact a7 _
def UU(a:V O):∀n,val (h (fq a n) a)=val (h n a)
 |0=>rfl
 |n+1=>by
  simp only[fq];split
  .rename_i c;rw[UU a n,jF,c];omega
  .rfl
def UW(a:V O):∀n,fq a n=0\/E a (fq a n-1) 0≠0
 |0=> .inl J
 |n+1=>by
  simp only[fq];split
  .exact UW a n
  .rename_i h;exact .inr dH
def UX ws:val (aS ws)=val ws:=by unfold aS;rw[UU,fv]
def UY{a}(c:bP a):bP (aS a):=ix c _
def ES ws:can (aS ws):=by
 unfold aS can;have a:=US ws<|Z ws;rcases UW ws (Z ws)with h|h
 .left;rw[h];rfl
 .by_cases c:fq ws (Z ws)=0
  .left;rw[c];rfl
  .right;rw[fp,qf a,aV,EU G,<-aV];exact h
def n6{a}(c:bP a):aS a=mV (ae<|val a):=by have:=afy (UY c)<|ES a;rwa[UX]at this
def Ow n:aS (mV n)=mV n:=by rw[n6 (dC n),dS];simp
def so{n:Y}:(n:O)<4294967296^Z (mV n):=by have:=me<|dC n;rwa[dS]at this
def jc n:(0:O)<4294967296^n:=mW T
def sp{m n}(a:m<=n):(4294967296:O)^m<=4294967296^n:=by obtain⟨k,rfl⟩:=Nat.exists_eq_add_of_le a;rw[Int.pow_add];have c:=jc m;have d:=jc k;have:(4294967296:O)^m*1<=4294967296^m*4294967296^k:=jR G G;omega
def Ja{a}(d:bP a)(f:can a)(c:a≠[]):(4294967296:O)^(Z a-1)<=val a:=by have g:0<Z a:=cQ.mpr c;have i:=jF a<|Z a-1;rw[Nat.sub_add_cancel g,fv]at i;have k:E a (Z a-1) 0≠0:=f.resolve_left c;have l:=db d<|Z a-1;have m:=k6<|ix d<|Z a-1;have n:=jc<|Z a-1;have p:1*(4294967296:O)^(Z a-1)<=E a (Z a-1) 0*4294967296^(Z a-1):=gG G G;omega
def zq{n k:Y}(g:(n:O)<4294967296^k):Z (mV n)<=k:=by
 apply Decidable.byContradiction;intro c;have a:mV n≠[]:=by intro d;rw[d]at c;simp at c
 have f:=Ja (dC n) (tS n) a;rw[dS]at f;have i:(4294967296:O)^k<=4294967296^(Z (mV n)-1):=sp G;omega
def Jb{a c}(f:bP a)(g:bP c)(i:can c)(d:Z a<Z c):val a<val c:=by have l:=me f;have m:=Ja g i (by intro k;rw[k]at d;simp at d);have n:(4294967296:O)^Z a<=4294967296^(Z c-1):=sp G;omega
def Jc{a c}(f:bP a)(g:bP c) i(k:az (i+1) a=az (i+1) c)(p:Z a=Z c)(r:i<Z a)(t:E a i 0<E c i 0):val a<val c:=by
 have d:val a=val (h (i+1) a)+4294967296^(i+1)*val (az (i+1) a):=by have:=BN (h (i+1) a)<|az (i+1) a;rwa[ry,fp,qf G]at this
 have l:val c=val (h (i+1) c)+4294967296^(i+1)*val (az (i+1) c):=by have:=BN (h (i+1) c)<|az (i+1) c;rwa[ry,fp,qf G]at this
 rw[k]at d;rw[jF]at d l;have m:=me<|ix f i;rw[fp,qf G]at m;have u:=k6<|ix g i;have v:=jc i;have n:(E a i 0+1)*(4294967296:O)^i<=E c i 0*4294967296^i:=gG G G;rw[mX]at n;omega
structure Kn1(M a c d v t u2 f u:O):Prop where
 hM:0<M
 oU:2147483648<=a
 afz:a<4294967296
 zr:0<=c
 UZ:c<4294967296
 sr:0<=d
 U0:d<M
 ht:0<=t
 ij:0<=u2
 afA:u2<4294967296
 BQ:0<=f
 afB:f<M
 ev:v=(a*4294967296+c)*M+d
 eu:u=(t*4294967296+u2)*M+f
 lt:u<v*4294967296
namespace Kn1
variable{M v1 v2 v' v t u2 u' u:O}(h:Kn1 M v1 v2 v' v t u2 u' u)
include h
def BR:0<v:=by have a:=h.ev;have:0<(v1*4294967296+v2)*M:=zu (by have:=h.oU;have:=h.zr;omega) h.hM;have:=h.sr;omega
def vge:4294967296*M<=v:=by have a:=h.ev;have c:4294967296*M<=(v1*4294967296+v2)*M:=gG (by have:=h.oU;have:=h.zr;omega) tT;have:=h.sr;omega
def vlt:v<(v1+1)*4294967296*M:=by have a:=h.ev;have c:(v1*4294967296+v2+1)*M<=(v1+1)*4294967296*M:=gG (by have:=h.UZ;omega) tT;have d:(v1*4294967296+v2+1)*M=(v1*4294967296+v2)*M+M:=EV;have:=h.U0;omega
def U1:t*4294967296*M<=u:=by have a:=h.eu;have c:t*4294967296*M<=(t*4294967296+u2)*M:=gG (by have:=h.ij;omega) tT;have:=h.BQ;omega
def U2:u<(t*4294967296+u2+1)*M:=by have a:=h.eu;have c:(t*4294967296+u2+1)*M=(t*4294967296+u2)*M+M:=EV;have:=h.afB;omega
def U3:t<(v1+1)*4294967296:=by
 have f:=h.U1;have g:=h.lt;have i:=h.vlt;have a:t*(4294967296*M)<(v1+1)*4294967296*(4294967296*M):=by
  have c:t*(4294967296*M)=t*4294967296*M:=by rw[iy]
  have d:(v1+1)*4294967296*(4294967296*M)=(v1+1)*4294967296*M*4294967296:=by rw[iy _ M,ef M]
  rw[c,d];omega
 exact afE a tT
def BS:u/v<4294967296:=BT h.BR (by rw[ef];exact h.lt)
def q0:0<=u/v:=by refine xy ?_ (by have:=h.BR;omega);have:=h.U1;have:0<=t*4294967296*M:=iL (by have:=h.ht;omega) tT;omega
def afF:u/v*v<=u:=Int.ediv_mul_le u (by have:=h.BR;omega)
def first:u/v<=t/v1:=by
 apply afG (by have:=h.oU;omega);have a:=h.afF;have i:u/v*(v1*4294967296*M)<=u/v*v:=jR (by have a:=h.ev;have c:v1*4294967296*M<=(v1*4294967296+v2)*M:=gG (by have:=h.zr;omega) tT;have:=h.sr;omega) h.q0;have c:=h.U2;have k:(t*4294967296+u2+1)*M<=(t+1)*4294967296*M:=gG (by have:=h.afA;omega) tT;have d:u/v*v1*(4294967296*M)<(t+1)*(4294967296*M):=by
  have f:u/v*v1*(4294967296*M)=u/v*(v1*4294967296*M):=by simp only[iy]
  have g:(t+1)*(4294967296*M)=(t+1)*4294967296*M:=by simp only[iy]
  rw[f,g];omega
 have:=afE d tT;omega
def down{a r:O}(d:t=a*v1+r)(c:0<=a)(f:a*v2>r*4294967296+u2):u/v<a:=by
 apply BT h.BR;have g:=h.U2;have i:(t*4294967296+u2+1)*M<=a*(v1*4294967296+v2)*M:=gG (by
  have e:a*(v1*4294967296+v2)=a*v1*4294967296+a*v2:=by rw[nD,iy]
  rw[e];generalize a*v1=x at*;generalize a*v2=y at*;omega) tT
 have k:a*v=a*(v1*4294967296+v2)*M+a*v':=by rw[h.ev,nD,iy a]
 have l:0<=a*v':=iL c h.sr;omega
def close{a r:O}(c:t=a*v1+r)(d:0<=a)(f:a<4294967296)(g:a*v2<=r*4294967296+u2):a-1<=u/v:=by
 apply afG h.BR;have i:a*(v1*4294967296+v2)*M<=(t*4294967296+u2)*M:=gG (by
  have e:a*(v1*4294967296+v2)=a*v1*4294967296+a*v2:=by rw[nD,iy]
  rw[e];generalize a*v1=x at*;generalize a*v2=y at*;omega) tT
 have k:a*v=a*(v1*4294967296+v2)*M+a*v':=by rw[h.ev,nD,iy a]
 have l:a*v'<=4294967296*M:=vj G (by have:=h.U0;omega) h.sr T;have m:=h.vge;have n:=h.eu;have p:=h.BQ;have A:(a-1)*v=a*v-v:=by rw[EW,jS]
 omega
def afH{a r:O}(f:t=a*v1+r)(g:4294967296<=r):a<4294967296:=by
 have c:=h.U3;have i:=h.oU;by_cases d:a<4294967296
 .exact d
 .exfalso;have:4294967296*v1<=a*v1:=gG G G;have e:(v1+1)*4294967296=v1*4294967296+4294967296:=EV;rw[e]at c;omega
def small{a r:O}(g:t=a*v1+r)(i:0<=r):a<=4294967297:=by
 have c:=h.U3;have k:=h.oU;have d:=h.afz;by_cases f:a<=4294967297
 .exact f
 .exfalso;have:4294967298*v1<=a*v1:=gG G G;have e:(v1+1)*4294967296=v1*4294967296+4294967296:=EV;rw[e]at c;omega
end Kn1
section
variable{κ ι:Type}[DecidableEq κ]
def aE(u:V (κ×aw ι))(k:κ):aw (aw ι):=
 match u with
 |[]=>none
 | (a,x)::r=>if a=k then ad x else aE r k
def bH(a:κ->aw ι)(u:V (κ×aw ι)):κ->aw ι:=λk=>
 match aE u k with
 |some x=>x
 |none=>a k
def fold(c:Y->V (κ×aw ι))(a:κ->aw ι)(d:V Y):κ->aw ι:=d.foldl (λa i=>bH a<|c i) a
def n7(u:V (κ×aw ι))(k:κ):Bool:=(aE u k).isSome
def afI{c:κ->aw ι}{u:V (κ×aw ι)}{k:κ}(a:n7 u k=ah):bH c u k=c k:=by
 unfold n7 at a;unfold bH;cases d:aE u k with
 |none=>rfl
 |some x=>rw[d]at a;simp at a
def afJ{c a:κ->aw ι}{u:V (κ×aw ι)}{k:κ}(d:c k=a k):bH c u k=bH a u k:=by unfold bH;rw[d]
def U4(d:Y->V (κ×aw ι))(k:κ):∀(c:V Y){g a:κ->aw ι},g k=a k->fold d g c k=fold d a c k
 |[],_,_,f=>f
 |i::c,_,_,f=>U4 d k c<|afJ f
def fold_filter(a:Y->V (κ×aw ι))(k:κ):∀(c:V Y)(d:κ->aw ι),fold a d c k=fold a d (c.filter λi=>n7 (a i) k) k
 |[],_=>rfl
 |i::c,d=>by
  cases h:n7 (a i) k with
  |true=>
   rw[afK dH]
   exact fold_filter a k c _
  |false=>
   rw[afL (by simp[h])]
   have f:=fold_filter a k c d
   rw[<-f]
   exact U4 a k c<|afI h
def Ox(a:Y->V (κ×aw ι))(c:κ->aw ι)(d:V Y)(i:Y):fold a c (d++[i])=bH (fold a c d) (a i):=by simp[fold]
def Oy:∀{l m:V Y},l.Pairwise (·<·)->m.Pairwise (·<·)->(∀x,x∈l↔x∈m)->l=m
 |[],[],_,_,_=>rfl
 |[],i::m,_,_,c=>absurd ((c i).2<|BU) ay
 |x::l,[],_,_,c=>absurd ((c x).1<|BU) ay
 |x::l,i::m,hl,hm,c=>by
  have d:=ju.1 hl;have f:=ju.1 hm;have n:x=i:=by
   have g:=(c x).1<|BU;have p:=(c i).2<|BU;rcases bY.1 g with e|g
   .exact e
   .rcases bY.1 p with e|p
    .exact e.symm
    .have a:=f.1 x g;have b:=d.1 i p;omega
  subst n;congr 1;refine Oy d.2 f.2<|λz=>?_;constructor
  .intro k;rcases bY.1 ((c z).1<|jT _ k)with e|g
   .have:=d.1 z k;omega
   .exact g
  .intro k;rcases bY.1 ((c z).2<|jT _ k)with e|g
   .have:=f.1 z k;omega
   .exact g
def afM(n:Y):(cc n).Pairwise (·<·):=Jd
structure qh(n:Y)(a:Y->Y->Prop)(s:V Y):Prop where
 nodup:s.Nodup
 lt:∀i∈s,i<n
 closed:∀p i r,s=p++i::r->∀c,a c i->c∈p
def qh.nil(n:Y)(a:Y->Y->Prop):qh n a []:=⟨List.nodup_nil,ay,λp i r h=>by simp at h⟩
def qh.snoc{n:Y}{f:Y->Y->Prop}{c:V Y}(l:qh n f c){i:Y}(L:i<n)(F:i∉c)(H:∀g,f g i->g∈c):qh n f (c++[i]):=by
 refine⟨?_,?_,?_⟩
 .rw[Oz];exact⟨l.nodup,ay,λa m b A=>by simp at A;subst A;exact λe=>F<|e▸m⟩
 .intro g d;rcases bg.1 d with d|d
  .exact l.lt g d
  .simp at d;omega
 .intro p k r B g d;rcases List.eq_nil_or_concat r with rfl|⟨t,x,rfl⟩
  .have u:c=p/\i=k:=by have:=List.append_inj' (s₁:=c) (t₁:=[i]) (s₂:=p) (t₂:=[k]) B J;exact⟨this.1,by simpa using this.2⟩
   obtain⟨rfl,rfl⟩:=u;exact H g d
  .have u:c=p++k::t:=by
    have v:c++[i]=(p++k::t)++[x]:=by rw[B];simp
    exact(List.append_inj' v J).1
   exact l.closed p k t u g d
def qh.U5{n:Y}{c:Y->Y->Prop}{d:V Y}(m:qh n c d)(f:Y->Bool)
  (B:∀i t,i<t->t<n->f i=af->f t=af->c i t):(d.filter f).Pairwise (·<·):=by
 have u:∀p r,d=p++r->(r.filter f).Pairwise (·<·):=by
  intro p r;induction r generalizing p with
  |nil=>intro _;simp
  |cons x r C=>
   intro g
   have k:=C (p++[x]) (by rw[g];simp)
   cases hx:f x with
   |false=>rw[afL lF];exact k
   |true=>
    rw[afK hx,ju]
    refine⟨λy F=>?_,k⟩
    let ⟨l,v⟩:=n8.1 F
    have A:x∈d:=by rw[g];simp
    have H:x≠y:=by intro e;have:=m.nodup;rw[g,Oz]at this;have:=this.2.1;rw[BV]at this;exact this.1<|e▸l
    rcases oV x y with a|K
    .exact a
    .have a:y<x:=by omega
     have L:=B y x a (m.lt x A) v hx;have M:=m.closed p x r g y L;have:=m.nodup;rw[g,Oz]at this;exact absurd J<|this.2.2 y M y<|jT _ l
 exact u [] d J
def U6(n:Y)(a:Y->Bool):((cc n).filter a).Pairwise (·<·):=(afM n).filter _
def qh.read{n:Y}{c:Y->Y->Prop}{g:V Y}(t:qh n c g)(f:Y->V (κ×aw ι))(F:κ->aw ι)(k:κ)(i:Y)(hi:i<n)(H:i∉g)
  (M:∀L,c L i->L∈g)
  (P:∀a d,a<d->d<n->n7 (f a) k=af->n7 (f d) k=af->c a d)
  (Q:∀a,a<i->n7 (f a) k=af->c a i) (S:∀d,i<d->d<n->n7 (f d) k=af->c i d):
  fold f F g k=fold f F (cc i) k:=by
 rw[fold_filter f k g,fold_filter f k<|cc i]
 congr 1
 refine Oy (t.U5 _<|λa d u v K W=>P a d u v K W) (U6 i _)<|λx=>?_
 rw[n8,n8,oW]
 constructor
 .rintro⟨l,m⟩;refine⟨?_,m⟩;rcases OA x i with A|he|B
  .exact A
  .exact absurd l<|he▸H
  .have v:=S x B (t.lt x l) m;let ⟨p,r,C⟩:=OB l;have:=t.closed p x r C i v;exact absurd (by rw[C];exact eh _ this) H
 .rintro⟨l,m⟩;exact⟨M x<|Q x l m,m⟩
def qh.all{n:Y}{f:Y->Y->Prop}{l:V Y}(r:qh n f l)(c:Y->V (κ×aw ι))(t:κ->aw ι)(g:∀i,i<n->i∈l)
  (u:∀k a d,a<d->d<n->n7 (c a) k=af->n7 (c d) k=af->f a d):fold c t l=fold c t (cc n):=by
 funext k
 rw[fold_filter c k l,fold_filter c k<|cc n]
 congr 1
 refine Oy (r.U5 _<|λa d m v A B=>u k a d m v A B) (U6 n _)<|λx=>?_
 rw[n8,n8,oW]
 exact⟨λ⟨p,q⟩=>⟨r.lt x p,q⟩,λ⟨p,q⟩=>⟨g x p,q⟩⟩
end
inductive aN where
 |box (E:dI) (sz:Y) (d:V C)
 |vec (E:dI) (g:ET) (xs:V g.den)
 |jG (f:FuncId) (first a:V (Bool×V C))
 |fz (E:dI) (d:V C)
 |mp (i k:Bool) (xs:V (V C×V C))
 |it (m n:Y) (c:V Y)
inductive Key where
 |s (t:Y)
 |m (a:Y)
 deriving DecidableEq
inductive Info where
 |v (x:AV)
 |b (x:aN)
def mh:V (V C×V C)->V Y
 |[]=>[]
 |x::xs=>b7 x.1++(b7 x.2++mh xs)
def aN.ak:aN->V Y
 | .box _ _ cs=>b7 cs
 | .vec _ _ _=>[]
 | .jG _ first a=>fP first++fP a
 | .fz _ cs=>b7 cs
 | .mp _ _ xs=>mh xs
 | .it m _ _=>[m]
def Info.ak:Info->V Y
 | .v x=>x.ak
 | .b x=>x.ak
abbrev Kn:=Key->aw Info
def iM(g:Gh)(c d:Bool):Y->V (V C×V C)->V MapEntry->Prop
 |_,[],es=>es=[]
 |n,x::xs,es=>∃a r,es=a::r/\a.born=n/\(∃f,a.key=rq c f/\bc g x.1 f)/\(∃vs,a.val=rq d vs/\bc g x.2 vs)/\iM g c d (n+1) xs r
def iM.mono{known:Y->Prop}{g g':Gh}(d:fY known g g'){l m:Bool}:∀{n:Y}{xs:V (V C×V C)}{p:V MapEntry},(∀c∈mh xs,known c)->iM g l m n xs p->iM g' l m n xs p
 |_,[],_,_,t=>t
 |_,_::_,_,f,⟨u,r,v,h2,⟨x,A,i⟩,⟨vs,B,k⟩,F⟩=>⟨u,r,v,h2,⟨x,A,bc.mono d (λc a=>f c<|by simp[mh,a]) i⟩,⟨vs,B,bc.mono d (λc a=>f c<|by simp[mh,a]) k⟩,iM.mono d (λc a=>f c<|by simp[mh,a]) F⟩
def Sub(H:FH)(a:cD):Prop:=∀b o v,H b o=ad v->a.cell? ⟨b,o,none⟩=ad v
def ik(p:Y->Prop)(g:Gh)(W:cD)(k:Y):aN->Prop
 | .box t sz cs=>∃a,∃vs rest:V a4,cy (g.γ k)=ad a/\W.heap[a]? =ad (.cells (vs++rest).toArray t (0,0))/\bc g cs vs/\p a/\(∀d,g.H a d=none)/\(sz≠0->∃c,g.γ k= .slice (ad ⟨a,0,none⟩) 0 c/\Z (vs++rest)=c*sz)
 | .vec t u xs=>(g.γ k= .slice none 0 0/\xs=[])\/∃a l,∃vs:V a4,g.γ k= .slice (ad ⟨a,0,none⟩) (Z xs) l/\W.heap[a]? =ad (.cells vs.toArray t (0,0))/\
   Z vs=l*u.n/\Z xs<=l/\Z xs*u.n<=140737488355328/\(∀i(M:i<Z xs),cV g.H u xs[i] ((az (i*u.n) vs).take u.n))/\p a/\∀d,g.H a d=none
 | .jG f first v=>∃x A:V a4,g.γ k= .func (.func f) x.toArray A.toArray/\fX g first x/\fX g v A
 | .fz t cs=>∃a,∃vs rest:V a4,cy (g.γ k)=ad a/\W.heap[a]? =ad (.cells (vs++rest).toArray t (0,0))/\bc g cs vs/\p a/\(∀d,g.H a d=(vs++rest)[d]?)
 | .mp F L xs=>∃r,∃B:Array MapEntry,g.γ k= .map (ad r)/\W.heap[r]? =ad (.map B<|Z xs)/\iM g F L 0 xs B.toList/\p r/\(∀d,g.H r d=none)
 | .it m n seen=>∃r a,g.γ k= .pointer (ad ⟨r,0,none⟩)/\g.γ m= .map (ad a)/\W.heap[r]? =ad (.mapIter (ad a) n seen.toArray n)/\p r/\(∀d,g.H r d=none)
structure eP where
 w0:cD
 H0:FH
 n:Y
 own:Y->Prop:=λ_=>False
 k0:Y:=0
 γ0:Y->a4:=λ_=>undef
 ds:V Deferred:=[]
 rd:aw Y:=none
def eP.N(F:eP)(a:Y):Prop:=F.w0.heap.size<=a\/F.own a
structure BW(own:Y->Prop)(w a:cD):Prop where
 os:a.os=w.os
 tape:a.tape=w.tape
 output:a.output=w.output
 size:w.heap.size<=a.heap.size
 block:∀k,k<w.heap.size->¬own k->a.heap[k]? =w.heap[k]?
structure bw(F:eP)(d:Y->Prop)(i:Kn)(g:Gh)(W:cD)(a:Act):Prop where
 size:a.tmps.size=F.n
 defers:a.defers=F.ds
 eC:∀t v,i (.s t)=ad (.v v)->bG g v (a.tmps.getD t undef)
 c8:∀c b,i (.m c)=ad (.b b)->ik F.N g W c b
 inj:∀c f b l k,i (.m c)=ad (.b b)->i (.m f)=ad (.b l)->cy (g.γ c)=ad k->cy (g.γ f)=ad k->c=f
 ak:∀k x,i k=ad x->∀c∈x.ak,d c
 dO:∀c x,i (.m c)=ad x->d c
 sub:Sub g.H W
 below:BW F.own F.w0 W
 le:cK F.H0 g.H
 fresh:∀b o,b<F.w0.heap.size->¬F.own b->g.H b o=F.H0 b o
 gW:∀c,c<F.k0->d c/\g.γ c=F.γ0 c
structure Ext(a d:Y->Prop)(g:Gh)(W:cD)(f:Gh)(c:cD):Prop where
 le:fY a g f
 fresh:∀b o,b<W.heap.size->f.H b o=g.H b o
 sub:Sub f.H c
 size:W.heap.size<=c.heap.size
 heap:∀k,k<W.heap.size->(∀i,d i->cy (g.γ i)≠ad k)->c.heap[k]? =W.heap[k]?
 os:c.os=W.os
 tape:c.tape=W.tape
 output:c.output=W.output
def ik.block{p:Y->Prop}{g}{W}{t}{i}(l:ik p g W t i){k}(a:cy (g.γ t)=ad k):p k/\k<W.heap.size:=by
 cases i with
 |box E sz cs=>
  let ⟨i,vs,rest,e,c,_,d,_⟩:=l
  rw[e]at a
  simp only[ar]at a
  subst a
  exact⟨d,(fQ.1 c).1⟩
 |vec E T xs=>
  rcases l with⟨e,_⟩|⟨i,v,vs,e,c,_,_,_,_,d,_⟩
  .rw[e]at a;simp[cy]at a
  .rw[e]at a;simp only[cy,ar]at a;subst a;exact⟨d,(fQ.1 c).1⟩
 |jG f first u=>
  let ⟨us,ws,e,_⟩:=l
  rw[e]at a;simp[cy]at a
 |fz E cs=>
  let ⟨i,vs,rest,e,c,_,d,_⟩:=l
  rw[e]at a
  simp only[ar]at a
  subst a
  exact⟨d,(fQ.1 c).1⟩
 |mp x A xs=>
  let ⟨r,es,e,c,_,d,_⟩:=l
  rw[e]at a
  simp only[cy,ar]at a
  subst a
  exact⟨d,(fQ.1 c).1⟩
 |it m n seen=>
  let ⟨r,i,e,_,c,d,_⟩:=l
  rw[e]at a
  simp only[cy,ar]at a
  subst a
  exact⟨d,(fQ.1 c).1⟩
def ik.step{d chg:Y->Prop}{Q:Y->Prop}{g g'}{W W'}{id}{a}(A:ik Q g W id a)(hx:Ext d chg g W g' W')
  (eD:d id) (B:∀c∈a.ak,d c) (u:∀c k,chg c->cy (g.γ id)=ad k->cy (g.γ c)≠ad k):ik Q g' W' id a:=by
 cases a with
 |box E sz cs=>
  let ⟨a,vs,rest,e,l,C,v,x,hc⟩:=A
  have p:a<W.heap.size:=(fQ.1 l).1
  refine⟨a,vs,rest,zw,?_,bc.mono hx.le B C,v,λo=>by rw[hx.fresh a o p];exact x o,by rw[hx.le.γ id eD];exact hc⟩
  rw[hx.heap a p (λc t=>u c a t e)];exact l
 |vec E T xs=>
  rcases A with⟨e,F⟩|⟨a,K,vs,e,l,L,M,P,X,v,x⟩
  .exact .inl ⟨zw,F⟩
  .have p:a<W.heap.size:=(fQ.1 l).1;refine .inr ⟨a,K,vs,zw,?_,L,M,P,λi q=>cV.mono hx.le.H T _ _<|X i q,v,λo=>by rw[hx.fresh a o p];exact x o⟩;rw[hx.heap a p (λc t=>u c a t tU)];exact l
 |jG f first S=>
  let ⟨us,ws,e,L,M⟩:=A
  exact⟨us,ws,zw,fX.mono hx.le (λc t=>B c<|eh _ t) L,fX.mono hx.le (λc t=>B c<|fZ _ t) M⟩
 |fz E cs=>
  let ⟨a,vs,rest,e,l,C,v,x⟩:=A
  have p:a<W.heap.size:=(fQ.1 l).1
  refine⟨a,vs,rest,zw,?_,bc.mono hx.le B C,v,λo=>by rw[hx.fresh a o p];exact x o⟩
  rw[hx.heap a p (λc t=>u c a t e)];exact l
 |mp w y xs=>
  let ⟨r,es,e,l,C,v,x⟩:=A
  have p:r<W.heap.size:=(fQ.1 l).1
  refine⟨r,es,zw,?_,iM.mono hx.le B C,v,λo=>by rw[hx.fresh r o p];exact x o⟩
  rw[hx.heap r p (λc t=>u c r t tU)];exact l
 |it m n seen=>
  let ⟨r,a,e,s,l,v,x⟩:=A
  have p:r<W.heap.size:=(fQ.1 l).1
  refine⟨r,a,zw,by rw[hx.le.γ m (B m<|by simp[aN.ak])];exact s,?_,v,λo=>by rw[hx.fresh r o p];exact x o⟩
  rw[hx.heap r p (λc t=>u c r t tU)];exact l
def bw.step{F}{f chg:Y->Prop}{M}{g g'}{W W'}{a a'}(l:bw F f M g W a)(L:Ext f chg g W g' W')
 wr new (vk:¬f new)
  (jU:a'.tmps.size=a.tmps.size) (hdf:a'.defers=F.ds)
  (afO:∀t,aE wr (.s t)=none->a'.tmps.getD t undef=a.tmps.getD t undef)
  (U7:∀d,chg d->aE wr (.m d)≠none/\∃p,M (.m d)=ad (.b p))
  (hs:∀t v,aE wr (.s t)=ad (ad<|.v v)->bG g' v (a'.tmps.getD t undef))
  (hb:∀d p,aE wr (.m d)=ad (ad<|.b p)->ik F.N g' W' d p/\((f d/\∃P,M (.m d)=ad (.b P))\/(d=new/\∀k,cy (g'.γ d)=ad k->W.heap.size<=k\/∃B P,M (.m B)=ad (.b P)/\aE wr (.m B)=ad none/\cy (g.γ B)=ad k)))
  (hm:∀k x,aE wr k=ad (ad x)->∀d∈x.ak,f d\/d=new)
  (n9:∀d x,aE wr (.m d)=ad (ad x)->f d\/d=new):
  bw F (λd=>f d\/d=new) (bH M wr) g' W' a':=by
 have A:∀k x,bH M wr k=ad x->(aE wr k=none/\M k=ad x)\/aE wr k=ad (ad x):=by
  intro k x n;unfold bH at n;cases X:aE wr k with
  |none=>rw[X]at n;exact .inl ⟨J,n⟩
  |some y=>rw[X]at n;simp only at n;rw[n];exact .inr J
 refine⟨by rw[jU];exact l.size,hdf,?_,?_,?_,?_,?_,L.sub,?_,l.le.trans L.le.H,?_,λd i=>⟨.inl (l.gW d i).1,by rw[L.le.γ d (l.gW d i).1];exact(l.gW d i).2⟩⟩
 .intro t v ht;rcases A _ _ ht with⟨r,u⟩|r
  .rw[afO t r];exact bG.mono L.le (λd i=>l.ak _ _ u d i)<|l.eC t v u
  .exact hs t v r
 .intro d p i;rcases A _ _ i with⟨r,u⟩|r
  .refine(l.c8 d p u).step L (l.dO _ _ u) (λB R=>l.ak _ _ u B R)<|λB k R n T=>?_;let ⟨C,P,K⟩:=U7 B R;have:=l.inj d B p P k u K n T;subst this;exact C r
  .exact(hb d p r).1
 .intro d e p P k i E n q;have low:∀d p,(aE wr (.m d)=none/\M (.m d)=ad (.b p))\/aE wr (.m d)=ad (ad<|.b p)->cy (g'.γ d)=ad k->
    (∃Q,M (.m d)=ad (.b Q)/\cy (g.γ d)=ad k/\k<W.heap.size/\aE wr (.m d)≠ad none)\/(d=new/\(W.heap.size<=k\/∃B P,M (.m B)=ad (.b P)/\aE wr (.m B)=ad none/\cy (g.γ B)=ad k)):=by
   intro d p w n
   rcases w with⟨r,u⟩|r
   .rw[L.le.γ d (l.dO _ _ u)]at n;exact .inl ⟨p,u,n,((l.c8 d p u).block n).2,by rw[r];simp⟩
   .rcases(hb d p r).2 with⟨U,Q,u⟩|⟨rfl,V⟩
    .rw[L.le.γ d U]at n;exact .inl ⟨Q,u,n,((l.c8 d Q u).block n).2,by rw[r];simp⟩
    .exact .inr ⟨J,V k n⟩
  rcases low d p (A _ _ i) n with⟨c,r,u,Z,h4⟩|⟨e1,Z⟩<;>rcases low e P (A _ _ E) q with⟨c',G,I,z,Je⟩|⟨e1',z⟩
  .exact l.inj d e c c' k r G u I
  .rcases z with z|⟨B,bj,C,K,D⟩
   .omega
   .have:=l.inj d B c bj k r C u D;subst this;exact absurd K h4
  .rcases Z with Z|⟨B,bj,C,K,D⟩
   .omega
   .have:=l.inj e B c' bj k G C I D;subst this;exact absurd K Je
  .rw[e1,e1']
 .intro k x n d i;rcases A _ _ n with⟨_,u⟩|r
  .exact .inl<|l.ak _ _ u d i
  .exact hm k x r d i
 .intro d x n;rcases A _ _ n with⟨_,u⟩|r
  .exact .inl<|l.dO _ _ u
  .exact n9 d x r
 .refine⟨L.os.trans l.below.os,L.tape.trans l.below.tape,L.output.trans l.below.output,cj l.below.size L.size,λk n S=>?_⟩;have q:k<W.heap.size:=iz n l.below.size;rw[<-l.below.block k n S];refine L.heap k q<|λd i EX=>?_;let ⟨_,p,hσ⟩:=U7 d i;rcases((l.c8 d p hσ).block EX).1 with r|r
  .omega
  .exact S r
 .intro p o O S;rw[L.fresh p o (iz O l.below.size)];exact l.fresh p o O S
def bw.weaken{F}{f c:Y->Prop}{n}{g}{W}{a}(d:bw F f n g W a)(m:∀i,f i->c i):bw F c n g W a:=
 ⟨d.size,d.defers,d.eC,d.c8,d.inj,λk x e i l=>m _<|d.ak k x e i l,λi x e=>m _<|d.dO i x e,d.sub,d.below,d.le,d.fresh,λi l=>⟨m _ (d.gW i l).1,(d.gW i l).2⟩⟩
def bw.drew{F}{d:Y->Prop}{i}{g}{W}{a}(c:bw F d i g W a):bw F d i g {W with drawn:=W.drawn+1} a:=by
 refine⟨c.size,c.defers,c.eC,?_,c.inj,c.ak,c.dO,c.sub,⟨c.below.os,c.below.tape,c.below.output,c.below.size,c.below.block⟩,c.le,c.fresh,c.gW⟩;intro l b e;have:=c.c8 l b e;cases b with
 |box E sz cs=>exact this
 |vec E T xs=>exact this
 |jG f first k=>exact this
 |fz E cs=>exact this
 |mp p r xs=>exact this
 |it m n seen=>exact this
def fw(r:aw Y):Fence:={Fence.wide with round:=r}
def zy(r:aw Y)(a:Array bh):Prop:=∀(i:Y)(o:bh),a[i]? =ad o->r=none\/∀c,o.op≠ .defer c
def afQ{a}:zy none a:=λ_ _ _=> .inl J
def U9{P}{c:Code}{Q:Exit->Act->cD->Prop}{a}{d}{r}(f:r=none):c.wpIn (fw r) 0 P Q a d↔c.wp P Q a d:=by subst f;exact wpIn_wide
def OC{P}{f}{i}{K:Act->cD->Prop}{a}{W}{r}{Q:Exit->Act->cD->Prop}(H:∀k,f[i]? =ad k->r=none\/∀c,k.op≠ .defer c)(d:wpOp P f (λ_ _ _=>False) i K a W):
  wpOpIn (fw r) 0 P f Q i K a W:=by
 unfold wpOp at d
 unfold wpOpIn
 cases p:f[i]? with
 |none=>rw[p]at d;exact d
 |some k=>
  rw[p]at d
  simp only at d⊢
  split
  .rename_i t;rw[aq t]at d;have g:k.wp P a W K (λ_ _ _=>False):=by
    rcases d with d|⟨_,_,_,u⟩
    .exact d
    .exact u.elim
   refine⟨λ_ _=>trivial,?_⟩;have l:(k.semAt (fw r).round a.eval)=execOp a.eval k:=by
    rcases H k p with A|A
    .subst A;exact Oper.semAt_none _ _
    .exact Oper.semAt_eq _ _ _ A
   rw[l];unfold Oper.wp at g;generalize (execOp a.eval k).run P W=x at g;cases x with
   |ok y C=>
    cases y<;>simp only[Oper.upon,Oper.uponIn]at g⊢
    all_goals first
     |exact g
     |exact g.elim
     |skip
    .refine⟨λhh=>Jf,?_⟩;have L:=(callsIn_wide (n:=0)).2 g;refine CallsIn.mono (F:=fw r) L<|λe m l=>?_;cases e with
     |returned v=>exact l
     |panicked c=>exact l.elim
     |outgrown=>let ⟨_,_,u⟩:=l;exact u.elim
    .refine⟨λhh=>Jf,?_⟩;intro c M _;let ⟨v,m,S,B⟩:=g c M;exact⟨v,m,S,stepsIn_wide.2 B⟩
   |halt y C=>
    cases y<;>simp only[Oper.upon]at g⊢<;>exact g.elim
  .rename_i t;rw[b t]at d;exact⟨λ_ _=>trivial,d⟩
def gX(P:bZ)(n:Y)(f:Array bh)(i:Y)(t:V (Key×Info))(u:V (Key×aw Info))(d:Y):Prop:=
 ∀(F:eP),F.n=n->∀(Q:Exit->Act->cD->Prop)(c:Y->Prop)(k:Kn)(g:Gh)(W:cD)(a:Act)(K:Act->cD->Prop),¬c d->bw F c k g W a->
  (∀l∈t,k l.1=ad l.2)->(∀v m p,bw F (λr=>c r\/r=d) (bH k u) v m p->K p m)->wpOp P f Q i K a W
def vn(P:bZ)(n:Y)(k:Array bh)(i:Y)(t:V (Key×Info))(u:V (Key×aw Info))(d:Y->Prop):Prop:=
 ∀(F:eP),F.n=n->∀(Q:Exit->Act->cD->Prop)(c:Y->Prop)(l:Kn)(g:Gh)(W:cD)(a:Act)(K:Act->cD->Prop),(∀f,d f->¬c f)->bw F c l g W a->
  (∀m∈t,l m.1=ad m.2)->(∀v p r,bw F (λf=>c f\/d f) (bH l u) v p r->K r p)->wpOp P k Q i K a W
def gX.OD{P}{n}{d}{i}{r}{t}{m}(l:gX P n d i r t m){new:Y->Prop}(u:new m):vn P n d i r t new:=by
 intro F v Q c x g W a K f k p A;refine l F v Q c x g W a K (f m u) k p<|λB C H L=>A B C H<|L.weaken ?_;rintro id (l|rfl)
 .exact .inl l
 .exact .inr u
def rz(c:Y->Y)(i:Y):Y->Prop:=λa=>c i<=a/\a<c (i+1)
def EY{c:Y->Y}(d:∀i,c i<=c (i+1)){i a}(f:i<=a):c i<=c a:=by
 induction f with
 |refl=>exact a7 _
 |step _ g=>exact cj g<|d _
section
variable{P:bZ}{ops:Array bh}{Q:Exit->Act->cD->Prop}{F:eP}{σ:Kn}{rd:Y->V (Key×Info)}{wr:Y->V (Key×aw Info)}{nx:Y}
def U'{d}{g}{W}{a}{c:Y->Y}(u:∀i,c i<=c (i+1))(v:bw F (·<c 0) σ g W a)
  (x:∀i,i<ops.size->vn P F.n ops i (rd i) (wr i) (rz c i))
  (A:∀i,i<ops.size->∀t∈rd i,fold wr σ (cc i) t.1=ad t.2)
  (B:∀g W a,bw F (·<c ops.size) (fold wr σ<|cc ops.size) g W a->Q .normal a W) (f:zy F.rd ops):(Code.region d ops ah).wpIn (fw F.rd) 0 P Q a W:=by
 refine wpIn_region ?_
 have l:∀m k,k+m=ops.size->∀g W a,bw F (·<c k) (fold wr σ<|cc k) g W a->wpOpsIn (fw F.rd) 0 P ops Q (List.range' k m) a W:=by
  intro m;induction m with
  |zero=>intro k p g W a h;simp only[jd]at p;subst p;exact B g W a h
  |succ m C=>
   intro k p g W a h
   rw[Jg,wpOpsIn_cons]
   refine OC (f k) ?_
   refine x k G F J _ (·<c k) _ g W a _ (λd H X=>by simp only[rz]at H;omega) h (A k G)<|λK L M S=>?_
   refine C (k+1) G K L M ?_
   rw[zz,Ox]
   exact S.weaken (λd r=>by have:=u k;simp only[rz]at r;omega)
 have:=l ops.size 0 G g W a v
 rwa[<-OE]at this
inductive lG(ops:Array bh):Y->Y->Prop where
 |one {i a:Y} {o:bh} {e:Edge} (c:ops[i]? =ad o) (d:e∈o.after) (f:sx .any e=af) (g:e.on=a):lG ops a i
 |more {i a k:Y} {o:bh} {e:Edge} (c:ops[i]? =ad o) (d:e∈o.after) (f:sx .any e=af) (l:e.on=k) (h:lG ops a k):lG ops a i
def lG.closed{d:V Y}{i}(f:∀k∈d,∀c,lG ops c k->c∈d)(a:∀n,ops[i]? =ad n->∀p∈n.after,sx .any p=af->p.on∈d):∀c,lG ops c i->c∈d:=by
 intro c g;cases g with
 |one l he m g=>subst g;exact a _ l _ he m
 |more l he m r h=>subst r;exact f _ (a _ l _ he m) c h
def fJ(u:V (Key×aw Info)):V Key:=u.map (·.1)
def dx(u:V (Key×Info)):V Key:=u.map (·.1)
def zA{u}{k:Key}(a:n7 u k=af):k∈fJ u:=by
 induction u with
 |nil=>simp[n7,aE]at a
 |cons p u c=>
  let ⟨d,x⟩:=p
  by_cases e:d=k
  .simp[fJ,e]
  .have:n7 u k=af:=by simpa[n7,aE,e]using a
   have:=c this;simp only[fJ,hJ,bY];exact .inr this
def Va{id}{g}{W}{a}{c:Y->Y}(hc:∀i,c i<=c (i+1))(jV:P.follows .mixedOrders=af)(iN:∀i aI u,ops[i]? =ad aI->u∈aI.after->sx .any u=af->u.on<i)(h0:bw F (·<c 0) σ g W a)
  (hs:∀i,i<ops.size->vn P F.n ops i (rd i) (wr i) (rz c i))
  (ht:∀i,i<ops.size->∀M∈rd i,fold wr σ (cc i) M.1=ad M.2)
  (Vb:∀i f,i<f->f<ops.size->∀k,k∈fJ (wr i)->k∈fJ (wr f)->lG ops i f)
  (OF:∀i f,i<f->f<ops.size->∀k,k∈fJ (wr i)->k∈dx (rd f)->lG ops i f)
  (OG:∀i f,i<f->f<ops.size->∀k,k∈dx (rd i)->k∈fJ (wr f)->lG ops i f)
  (hQ:∀g W a,bw F (·<c ops.size) (fold wr σ<|cc ops.size) g W a->Q .normal a W) (mi:zy F.rd ops):(Code.region id ops af).wpIn (fw F.rd) 0 P Q a W:=by
 refine wpIn_region_any jV ?_
 have key:∀A d s g W a,d.size=ops.size->qh ops.size (lG ops) s->(∀i,i<ops.size->(d.getD i af=af↔i∈s))->A+s.length=ops.size->
   bw F (λid=>id<c 0\/∃i∈s,rz c i id) (fold wr σ s) g W a->wpAnyIn (fw F.rd) 0 P .any ops Q A d a W:=by
  intro A
  induction A with
  |zero=>
   intro d s g W a O l y z h
   have v:∀i,i<ops.size->i∈s:=by
    intro i C;refine eQ λL=>?_
    have mi:(i::s).Nodup:=BV.2 ⟨L,l.nodup⟩;have R:i::s⊆cc ops.size:=λx T=>by
     rcases bY.1 T with rfl|T
     .exact oW.2 C
     .exact oW.2<|l.lt x T
    have:=mi.length_le_of_subset R;simp at this;omega
   refine⟨?_,?_⟩
   .cases hr:Vc .any ops d with
    |nil=>rfl
    |cons x xs=>
     have T:x∈Vc .any ops d:=by rw[hr];exact BU
     let ⟨U,aI,ho,_⟩:=mem_ready.1 T
     have V:x<ops.size:=(fQ.1 ho).1
     have:=(y x V).2<|v x V
     rw[this]at U
     cases U
   .refine hQ g W a ?_;rw[<-l.all wr σ v (λk i f OH H B D=>Vb i f OH H k (zA B)<|zA D)];refine h.weaken<|λid t=>?_;rcases t with t|⟨i,C,hf⟩
    .exact iz t<|EY hc<|be _
    .have:=EY hc (show i+1<=ops.size from l.lt i C);simp only[rz]at hf;omega
  |succ A ih=>
   intro d s g W a O l y z h
   refine⟨λhr=>?_,λi C=>?_⟩
   .exfalso;have hex:∃i,i<ops.size/\i∉s:=by
     refine eQ λil=>?_
     have v:∀i∈cc ops.size,i∈s:=λi C=>eQ λL=>il ⟨i,oW.1 C,L⟩
     have:=(List.nodup_range (n:=ops.size)).length_le_of_subset v;simp at this;omega
    have S:∀m,∀i,i<=m->i<ops.size->i∉s->∃i,i<ops.size/\i∉s/\∀f,f<i->f∈s:=by
     intro m;induction m with
     |zero=>intro i K q Z;exact⟨i,q,Z,λf H=>G⟩
     |succ m ihm=>
      intro i K q Z
      by_cases H:∃f,f<i/\f∉s
      .let ⟨f,BX,qi⟩:=H;exact ihm f G G qi
      .exact⟨i,q,Z,λf D=>eQ λL=>H ⟨f,D,L⟩⟩
    let ⟨i0,OI,OJ⟩:=hex;let ⟨i,C,L,X⟩:=S i0 i0 (a7 _) OI OJ;have:i∈Vc .any ops d:=by
     rw[mem_ready];refine⟨?_,ops[i],by simp[C],λu he E=>?_⟩
     .cases hg:d.getD i af with
      |false=>rfl
      |true=>exact absurd ((y i C).1 hg) L
     .have K:=iN i ops[i] u (by simp[C]) he E;have q:=(y u.on G).2<|X u.on K;have Z:u.on<d.size:=G;simpa[Z]using q
    rw[hr]at this;cases this
   .let ⟨Jh,aI,ho,v⟩:=mem_ready.1 C;have B:i<ops.size:=(fQ.1 ho).1;have L:i∉s:=λBY=>by rw[(y i B).2 BY]at Jh;cases Jh
    have rA:∀k∈s,∀f,lG ops f k->f∈s:=by intro k hk f H;let ⟨p,r,Vd⟩:=OB hk;rw[Vd];exact eh _<|l.closed p k r Vd f H
    have I:∀o',ops[i]? =ad o'->∀u∈o'.after,sx .any u=af->u.on∈s:=by
     intro o' Ve u he E;rw[ho]at Ve;cases Ve;have K:=v u he E;have iN:u.on<ops.size:=by
      rcases oV u.on d.size with q|q
      .omega
      .simp[OK q]at K
     refine(y u.on iN).1 ?_;have afS:u.on<d.size:=G;simpa[afS]using K
    have w:=lG.closed rA I;have fA:∀M∈rd i,fold wr σ s M.1=ad M.2:=by intro M b8;have hk:M.1∈dx (rd i):=jW.2 ⟨M,b8,J⟩;rw[l.read wr σ M.1 i B L w (λa b OL E ha' nE=>Vb a b OL E _ (zA ha')<|zA nE) (λa ha hwa=>OF a i ha B _ (zA hwa) hk) (λb E hbn hwb=>OG i b E hbn _ hk<|zA hwb)];exact ht i B M b8
    refine OC (mi i) ?_;refine hs i B F J _ _ _ g W a _ (λid hf rB=>?_) h fA<|λg' W' a' h'=>?_
    .rcases rB with rB|⟨f,H,u⟩
     .have:=EY hc<|be i;simp only[rz]at hf;omega
     .have:i=f:=by
       simp only[rz]at hf u;rcases OA i f with K|K|K
       .have:=EY hc (show i+1<=f from K);omega
       .exact K
       .have:=EY hc (show f+1<=i from K);omega
      exact L<|this▸H
    .refine ih (d.setIfInBounds i af) (s++[i]) g' W' a' (by simp[O]) (l.snoc B L w) (λf H=>?_) bX ?_
     .by_cases N:f=i
      .subst N;have:f<d.size:=G;simp[this]
      .rw[getD_set_ne af (Ne.symm N),y f H];simp[N]
     .rw[Ox];refine h'.weaken<|λid t=>?_;rcases t with(t|⟨f,H,u⟩)|t
      .exact .inl t
      .exact .inr ⟨f,eh _ H,u⟩
      .exact .inr ⟨i,ay,t⟩
 refine key ops.size _ [] g _ a ay (qh.nil _ _) (λi C=>?_) ay ?_
 .simp[C]
 .exact h0.drew.weaken<|λid t=> .inl t
end
def iO{a:Type}(t:Y):V (Y×a)->aw a
 |[]=>none
 | (k,x)::r=>if k=t then ad x else iO t r
inductive ZV where
 |b|i (k:mb)|s|f|t|p|m
def ZV.eE:ZV->a4
 | .b=> .bool ah
 | .i k=> .int k 0
 | .s=> .slice none 0 0
 | .f=> .nilFunc
 | .t=> .string ⟨⟨[]⟩⟩
 | .p=> .pointer none
 | .m=> .map none
def ZV.oX:ZV->C
 | .b=> .B ah
 | .i k=> .I k 0
 | .s=> .V<|.slice none 0 0
 | .f=> .V .nilFunc
 | .t=> .V<|.string ⟨⟨[]⟩⟩
 | .p=> .V<|.pointer none
 | .m=> .V<|.map none
def ZV.ok:ZV->a4->Bool
 | .b,.bool ah=>af
 | .i k,.int a n=>k=a&&n=0
 | .s,.slice none 0 0=>af
 | .f,.nilFunc=>af
 | .t,.string ⟨⟨[]⟩⟩=>af
 | .p,.pointer none=>af
 | .m,.map none=>af
 |_,_=>ah
def ZV.ok_eq:∀{a:ZV}{v:a4},a.ok v=af->v=a.eE:=by
 intro a v h;unfold ZV.ok at h;split at h
 .rfl
 .simp only[cr,decide_eq_true_eq]at h;obtain⟨rfl,rfl⟩:=h;rfl
 .rfl
 .rfl
 .rfl
 .rfl
 .rfl
 .cases h
inductive TK where
 |int (k:mb)|bool|sl (E:Y)|st|arr (len E:Y)|str|map (K V:Y)|other
structure TI where
 kind:TK
 size:Y
 bytes:Y
 fields:V (Y×Y×Bool)
 zero:V ZV
abbrev TT:=V<|Y×TI
def TI.agg(t:TI):Bool:=match t.kind with| .st=>af| .arr _ _=>af|_=>ah
def tV(P:bZ)(t:dI):aw Bool:=match P.underlying t with
 |some (.struct _)=>ad af
 |some (.array _ _)=>ad af
 |some _=>ad ah
 |none=>none
def BZ:V ZV->V a4->Bool
 |[],[]=>af
 |a::c,v::vs=>a.ok v&&BZ c vs
 |_,_=>ah
def OM:∀{c:V ZV}{vs:V a4},BZ c vs=af->vs=c.map ZV.eE
 |[],[],_=>rfl
 |_::_,_::_,a=>by simp only[BZ,cr]at a;simp[ZV.ok_eq a.1,OM a.2]
 |[],_::_,a=>by simp[BZ]at a
 |_::_,[],a=>by simp[BZ]at a
def Ji:a4->Bool
 | .agg _=>af
 |_=>ah
def afX{v}{l}{c}(h:(Ji v==c)=af)(a:v.cells.toList=l):v=rq c l:=by
 have d:Ji v=c:=dH;subst d;cases v with
 |agg vs=>
  simp only[Value.cells]at a
  subst a
  simp[Ji,rq]
 |_=>
  simp only[Value.cells]at a
  subst a
  rfl
def rC(P:bZ):V (Y×Y×Bool)->V Field->Bool
 |[],[]=>af
 | (off,sz,a)::r,f::fs=>f.offset=off&&((P.info? f.type).map (·.size)==ad sz)&&sz≠0&&(tV P f.type==ad a)&&rC P r fs
 |_,_=>ah
def ON(P:bZ)(t:Y)(a:TI):Bool:=
 match P.info? t with
 |none=>ah
 |some i=>i.size=a.size&&Z a.zero=a.size&&i.bytes=a.bytes&&(match i.zero with|some z=>BZ a.zero z.cells.toList&&(Ji z==a.agg)|none=>ah)&&
  match a.kind,P.underlying t with
  | .int k,ad (.int g)=>k=g
  | .bool,ad .bool=>af
  | .sl E,ad (.slice l)=>E=l
  | .st,ad (.struct fs)=>rC P a.fields fs.toList
  | .arr n e,ad (.array c f)=>n=c&&e=f
  | .str,ad .string=>af
  | .map n e,ad (.map c f)=>n=c&&e=f
  | .other,ad d=>(match d with| .struct _=>ah| .array _ _=>ah|_=>af)
  |_,_=>ah
structure Vf(P:bZ)(t:Y)(a:TI):Prop where
 Vg:a.zero.length=a.size
 info:∃i,P.info? t=ad i/\i.size=a.size/\i.bytes=a.bytes/\∃z,i.zero=ad z/\z.cells.toList=a.zero.map ZV.eE
 agg:tV P t=ad a.agg
 zag:∀i z,P.info? t=ad i->i.zero=ad z->z=rq a.agg (a.zero.map ZV.eE)
 kind:match a.kind with
  | .int k=>P.underlying t=ad (.int k)
  | .bool=>P.underlying t=ad .bool
  | .sl E=>P.underlying t=ad (.slice E)
  | .st=>∃fs,P.underlying t=ad (.struct fs)/\rC P a.fields fs.toList=af
  | .arr n e=>P.underlying t=ad (.array n e)
  | .str=>P.underlying t=ad .string
  | .map n e=>P.underlying t=ad (.map n e)
  | .other=>True
def afZ{P}{t}{g}(f:ON P t g=af):Vf P t g:=by
 unfold ON at f;cases l:P.info? t with
 |none=>rw[l]at f;simp at f
 |some i=>
  rw[l]at f
  simp only[cr,decide_eq_true_eq]at f
  let ⟨⟨⟨⟨r,u⟩,h2⟩,c⟩,a⟩:=f
  have m:∃z,i.zero=ad z/\z.cells.toList=g.zero.map ZV.eE:=by
   cases m:i.zero with
   |none=>rw[m]at c;simp at c
   |some z=>rw[m]at c;simp only[cr]at c;exact⟨z,J,OM c.1⟩
  refine⟨u,⟨i,l,r,h2,m⟩,?_,?_,?_⟩
  rotate_left
  .intro A z k n;rw[l]at k;cases k;rw[n]at c;simp only[cr]at c;exact afX c.2<|OM c.1
  rotate_right
  .unfold tV TI.agg;cases p:g.kind<;>rw[p]at a<;>cases hu:P.underlying t<;>rw[hu]at a<;>try(simp at a;done)
   all_goals (rename_i d;cases d<;>first|rfl| (simp at a;done))
  .cases p:g.kind<;>rw[p]at a<;>cases hu:P.underlying t<;>rw[hu]at a<;>try(simp at a;done)
   all_goals (rename_i d;cases d<;>first|trivial| (simp at a;done)| (simp at a;subst a;rfl)| (simp at a;let ⟨v,x⟩:=a;subst v x;rfl)|exact⟨_,rfl,a⟩)
def cd(P:bZ):TT->Bool
 |[]=>af
 | (t,a)::r=>ON P t a&&cd P r
def dW{P:bZ}:∀{f:TT},cd P f=af->∀{t c},iO t f=ad c->Vf P t c
 |[],_,_,_,a=>by simp[iO]at a
 | (k,x)::r,d,t,c,a=>by
  simp only[cd,cr]at d;simp only[iO]at a;split at a
  .rename_i g;subst g;cases a;exact afZ d.1
  .exact dW d.2 a
structure St where
 sl:V (Y×AV)
 mem:V (Y×aN)
 nx:Y
 gd:V (Y×Bool):=[]
def St.kn(a:St):Kn
 | .s t=>(iO t a.sl).map .v
 | .m id=>(iO id a.mem).map .b
def B0:a4->AV
 | .bool a=> .c<|.B a
 | .int k n=> .c<|.I k n
 |v=> .c<|.V v
def St.ev(a:St):Operand->aw AV
 | .tmp t=>iO t a.sl
 | .const v=>ad<|B0 v
 | .func f=>ad<|.c<|.V<|.func (.func f) #[] #[]
 | .global _=>none
def cE(a:St):Operand->V (Key×Info)
 | .tmp t=>match iO t a.sl with
  |some v=>[(.s t,.v v)]
  |none=>[]
 |_=>[]
def af0 g v:bG g (B0 v) v:=by cases v<;>exact J
def dr{F}{c:Y->Prop}{i}{g}{W}{a}(l:bw F c i g W a) st x v(d:st.ev x=ad v)
  (m:∀k∈cE st x,i k.1=ad k.2):bG g v (a.eval x):=by
 cases x with
 |tmp t=>
  simp only[St.ev]at d
  have:=m (.s t,.v v) (by simp[cE,d])
  exact l.eC t v this
 |const u=>simp only[St.ev,ar]at d;subst d;exact af0 g u
 |func f=>simp only[St.ev,ar]at d;subst d;rfl
 |global _=>simp[St.ev]at d
def rE{F}{c:Y->Prop}{l}{g}{W}{a}(n:bw F c l g W a) st x v(i:st.ev x=ad v)
  (p:∀m∈cE st x,l m.1=ad m.2):∀k∈v.ak,c k:=by
 cases x with
 |tmp t=>
  simp only[St.ev]at i
  have:=p (.s t,.v v) (by simp[cE,i])
  exact λk d=>n.ak _ _ this k d
 |const u=>simp only[St.ev,ar]at i;subst i;intro k d;cases u<;>simp[B0,AV.ak,C.ak]at d
 |func f=>simp only[St.ev,ar]at i;subst i;intro k d;simp[AV.ak,C.ak]at d
 |global _=>simp[St.ev]at i
def rF{P}{l}{i}{B:bh}{d:Y}(ho:l[i]? =ad B)(hg:B.guard=none)(hd:B.dst=ad d){n}(di:d<n)
 rd x new
  (L:∀(F:eP)(c:Y->Prop)(H:Kn)(g:Gh)(W:cD)(a:Act),bw F c H g W a->(∀kx∈rd,H kx.1=ad kx.2)->
   (∀m∈x.ak,c m)/\∃v,(execOp a.eval B).run P W= .ok (.value v) W/\bG g x v):
  gX P n l i rd [(.s d,ad<|.v x)] new:=by
 intro F kE Q c H g W a K p aW C j
 let ⟨hm,v,r,A⟩:=L F c H g W a aW C
 unfold wpOp
 simp only[ho,Region.wanted,hg,b9]
 refine .inl ?_
 unfold Oper.wp
 rw[r]
 simp only[Oper.upon,hd]
 have M:d<a.tmps.size:=mj
 refine j g W _<|aW.step (chg:=λ_=>False) (g':=g) (W':=W) ⟨⟨cK.refl _,λ_ _=>rfl⟩,λ_ _ _=>rfl,aW.sub,a7 _,λ_ _ _=>rfl,J,J,J⟩ _ new p mm aW.defers ?_ (λ_ L=>L.elim) ?_ ?_ ?_ ?_
 .intro t f;have S:d≠t:=by intro e;subst e;simp[aE]at f
  simp[Act.put,k7 S]
 .intro t u f;simp only[aE]at f;split at f
  .rename_i e;simp only[Key.s.injEq]at e;simp only[ar,Info.v.injEq]at f;subst e;subst f;simpa[Act.put,M]using A
  .simp at f
 .intro m b f;simp[aE]at f
 .intro k y f;simp only[aE]at f;split at f
  .simp only[ar]at f;subst f;exact λm X=> .inl<|hm m X
  .simp at f
 .intro m y f;simp[aE]at f
def fR(n:O):Prop:= -9223372036854775808<=n/\n<=9223372036854775807
inductive Pr where
 |t
 |i64 (n:O)
 |zB (b:O)
 |le (a b:O)
 |lt (a b:O)
 |zC (a b:Y)
 |sy (a b:Bool)
 |and (p q:Pr)
def Pr.h:Pr->Prop
 | .t=>True
 | .i64 n=>fR n
 | .zB c=>c≠0
 | .le a c=>a<=c
 | .lt a c=>a<c
 | .zC a c=>a<c
 | .sy a c=>a=c
 | .and p d=>p.h/\d.h
def Pr.b:Pr->Bool
 | .t=>af
 | .i64 n=>decide (-9223372036854775808<=n)&&decide (n<=9223372036854775807)
 | .zB c=> !decide (c=0)
 | .le a c=>decide<|a<=c
 | .lt a c=>decide<|a<c
 | .zC a c=>Nat.blt a c
 | .sy a c=>a==c
 | .and p d=>p.b&&d.b
def Pr.EZ:∀{p:Pr},p.b=af->p.h
 | .t,_=>trivial
 | .i64 _,a=>by simpa[Pr.b,Pr.h,fR]using a
 | .zB _,a=>by simpa[Pr.b,Pr.h]using a
 | .le _ _,a=>by simpa[Pr.b,Pr.h]using a
 | .lt _ _,a=>by simpa[Pr.b,Pr.h]using a
 | .zC _ _,a=>dc a
 | .sy _ _,a=>by simpa[Pr.b,Pr.h]using a
 | .and p c,a=>by simp only[Pr.b,cr]at a;exact⟨Pr.EZ a.1,Pr.EZ a.2⟩
def Pr.an:Pr->Pr->Pr
 | .t,a=>a
 |p,.t=>p
 |p,a=> .and p a
def Pr.E0{p c:Pr}(a:(p.an c).h):p.h/\c.h:=by
 unfold Pr.an at a;split at a
 .exact⟨e,a⟩
 .exact⟨a,e⟩
 .exact a
instance:CoeSort Pr Prop:=⟨Pr.h⟩
def num(k:mb)(n:O):C×Pr:=match k with
 | .i64=>(.I .i64 n,.i64 n)
 |k=>(.I k<|k.wrap n,.t)
def B1 k n(a:(num k n).2.h) g:da g (num k n).1 (.int k<|k.wrap n):=by cases k<;>first|exact rfl| (show Value.int .i64 _=_;rw[Go.IntWalk.i64_in n a])
def E3(op:BinOp)(k:mb)(a c:O):aw (C×Pr):=match op with
 | .add=>ad<|num k<|a+c
 | .sub=>ad<|num k<|a-c
 | .mul=>ad<|num k<|a*c
 | .quo=>ad ((num k<|a.tdiv c).1,.and (.zB c) (num k<|a.tdiv c).2)
 | .rem=>ad (.I k<|a.tmod c,.zB c)
 | .and=>ad (.I k<|k.wrap (iA k.bits a&&& iA k.bits c).toNat,.t)
 | .or=>ad (.I k<|k.wrap (iA k.bits a|||iA k.bits c).toNat,.t)
 | .eql=>ad (.B<|a==c,.t)
 | .neq=>ad (.B<|a !=c,.t)
 | .lss=>ad (.B<|decide<|a<c,.t)
 | .leq=>ad (.B<|decide<|a<=c,.t)
 | .gtr=>ad (.B<|decide<|a>c,.t)
 | .geq=>ad (.B<|decide<|a>=c,.t)
 |_=>none
def B2(op:BinOp)(k:mb)(a c:O):aw (C×Pr):=match op with
 | .shl=>ad (.I k<|k.wrap<|a*2^(min (ae c) k.bits),.le 0 c)
 | .shr=>ad (.I k<|a.fdiv<|2^(min (ae c) k.bits),.le 0 c)
 |_=>none
def Jj(op:BinOp):C->C->aw (C×Pr)
 | .I k a,.I d c=>match op with
  | .shl=>B2 .shl k a c
  | .shr=>B2 .shr k a c
  |op=>if k=d then E3 op k a c else none
 | .B a,.B c=>match op with
  | .eql=>ad (.B<|a==c,.t)
  | .neq=>ad (.B<|a !=c,.t)
  |_=>none
 |_,_=>none
def af1{P}{op:BinOp}{k}{a d}{c}{pre}(f:E3 op k a d=ad (c,pre))(l:pre) g t W:
  ∃v,(binOp op t (.int k a)<|.int k d).run P W= .ok v W/\da g c v:=by
 cases op<;>simp only[E3,ar,bK,reduceCtorEq]at f
 case add=>have i:num k (a+d)=(c,pre):=f;refine⟨.int k<|k.wrap<|a+d,by simp[binOp,OO,pure],?_⟩;have:=B1 k (a+d) (by rw[i];exact l) g;rw[i]at this;exact this
 case sub=>have i:num k (a-d)=(c,pre):=f;refine⟨.int k<|k.wrap<|a-d,by simp[binOp,OO,pure],?_⟩;have:=B1 k (a-d) (by rw[i];exact l) g;rw[i]at this;exact this
 case mul=>have i:num k (a*d)=(c,pre):=f;refine⟨.int k<|k.wrap<|a*d,by simp[binOp,OO,pure],?_⟩;have:=B1 k (a*d) (by rw[i];exact l) g;rw[i]at this;exact this
 case quo=>
  obtain⟨rfl,rfl⟩:=f
  exact⟨.int k<|k.wrap<|a.tdiv d,by simp[binOp,Op.intDiv,show d≠0 from(show d≠0/\_ from l).1,pure],B1 k _ (show d≠0/\_ from l).2 g⟩
 case rem=>
  obtain⟨rfl,rfl⟩:=f
  exact⟨.int k<|a.tmod d,by simp[binOp,Op.intDiv,show d≠0 from l,pure],J⟩
 case and=>obtain⟨rfl,rfl⟩:=f;exact⟨_,by simp[binOp,Op.intBits,pure],J⟩
 case or=>obtain⟨rfl,rfl⟩:=f;exact⟨_,by simp[binOp,Op.intBits,pure],J⟩
 case eql=>obtain⟨rfl,rfl⟩:=f;exact⟨_,B3,J⟩
 case neq=>obtain⟨rfl,rfl⟩:=f;exact⟨_,B3,J⟩
 case lss=>obtain⟨rfl,rfl⟩:=f;exact⟨_,B3,J⟩
 case leq=>obtain⟨rfl,rfl⟩:=f;exact⟨_,B3,J⟩
 case gtr=>obtain⟨rfl,rfl⟩:=f;exact⟨_,B3,J⟩
 case geq=>obtain⟨rfl,rfl⟩:=f;exact⟨_,B3,J⟩
def run_equal_bool{P}{t}(d:P.underlying t=ad .bool) a c W:(Op.equal t (.bool a)<|.bool c).run P W= .ok (a==c) W:=by rw[Op.equal,show Op.maxDepth=9999+1 from J,Op.equalIn];simp[run_underlying d]
def Vh(a:TT)(t:Y):Bool:=match iO t a with
 |some c=>(match c.kind with| .bool=>af|_=>ah)
 |none=>ah
def B4(d:TT)(op:BinOp)(t:Y)(x c:C):aw (C×Pr):=match x,c with
 | .B a,.B b=>if Vh d t then Jj op (.B a) (.B b)else none
 |x,c=>Jj op x c
def af2{P}{m}(n:cd P m=af){op:BinOp}{t:dI}{x p}{c}{pre}(d:B4 m op t x p=ad (c,pre))(r:pre) g{u A}(i:da g x u)(l:da g p A) W
 F H:∃v,(do eqGuard op t F H u A;binOp op t u A:Sem a4).run P W= .ok v W/\da g c v:=by
 cases x<;>cases p<;>simp only[B4,Jj,reduceCtorEq]at d
 case B.B a b=>
  split at d
  .rename_i f;have K:P.underlying t=ad .bool:=by
    unfold Vh at f;cases hl:iO t m with
    |none=>rw[hl]at f;simp at f
    |some L=>
     rw[hl]at f
     have:=(dW n hl).kind
     cases M:L.kind<;>simp only[M]at f this<;>first|exact this| (simp at f)
   simp only[da]at i l;subst i l;cases op<;>simp only[ar,bK,reduceCtorEq]at d
   .obtain⟨rfl,rfl⟩:=d;exact⟨.bool<|a==b,by simp[eqGuard,binOp,run_equal_bool K],J⟩
   .obtain⟨rfl,rfl⟩:=d;exact⟨.bool<|a !=b,by simp[eqGuard,binOp,run_equal_bool K,bne],J⟩
  .simp at d
 case I.I k a C b=>
  simp only[da]at i l
  subst i l
  have Q:∀op,(do eqGuard op t F H (.int k a) (.int C b);binOp op t (.int k a) (.int C b):Sem a4).run P W=(binOp op t (.int k a)<|.int C b).run P W:=by intro op;cases op<;>simp[eqGuard]
  rw[Q]
  cases op
  case shl=>
   simp only[B2,ar,bK]at d
   obtain⟨rfl,rfl⟩:=d
   exact⟨_,by simp[binOp,Op.shift,Int.not_lt.2 (show(0:O)<=_ from r),pure],J⟩
  case shr=>
   simp only[B2,ar,bK]at d
   obtain⟨rfl,rfl⟩:=d
   exact⟨_,by simp[binOp,Op.shift,Int.not_lt.2 (show(0:O)<=_ from r),pure],J⟩
  all_goals
   simp only at d
   split at d
   .rename_i e;subst e;exact af1 d r g t W
   .simp at d
def Jk{P}{t}{c}(a:tV P t=ad c) W:(isAgg t).run P W= .ok c W:=by
 unfold tV at a;cases hu:P.underlying t with
 |none=>rw[hu]at a;simp at a
 |some d=>
  rw[hu]at a
  simp only[isAgg,c9,run_underlying hu,df]
  cases d<;>simp at a<;>subst a<;>rfl
def run_sizeOf{P}{t}{i:TypeInfo}(a:P.info? t=ad i) W:(sizeOf t).run P W= .ok i.size W:=by simp[sizeOf,typeInfo,a]
def Jl{P:bZ}:∀{l:V (Y×Y×Bool)}{m:V Field},rC P l m=af->∀{k:Y}{a sz:Y}{n:Bool},l[k]? =ad (a,sz,n)->
  ∃f,m[k]? =ad f/\f.offset=a/\(∃i,P.info? f.type=ad i/\i.size=sz)/\sz≠0/\tV P f.type=ad n
 |[],_,_,_,_,_,_,c=>by simp at c
 | (t,u,g)::r,[],d,_,_,_,_,_=>by simp[rC]at d
 | (t,u,g)::r,f::m,d,0,a,sz,n,c=>by
  simp only[rC,cr,decide_eq_true_eq,beq_iff_eq]at d;simp only[mn,ar,bK]at c;obtain⟨rfl,rfl,rfl⟩:=c;let ⟨⟨⟨⟨p,h2⟩,h3⟩,x⟩,_⟩:=d;refine⟨f,ay,p,?_,zD,x⟩;cases v:P.info? f.type with
  |none=>rw[v]at h2;simp at h2
  |some i=>rw[v]at h2;simp at h2;exact⟨i,J,h2⟩
 | (t,u,g)::r,f::m,d,k+1,a,sz,n,c=>by simp only[rC,cr]at d;simp only[vo]at c;let ⟨A,p,h2⟩:=Jl d.2 c;exact⟨A,by simpa using p,h2⟩
def mY(f:V C)(d sz:Y)(g:Bool):aw AV:=
 if g then(if d+sz<=Z f then ad (.a<|(az d f).take sz)else none)else(f[d]?).map .c
def bc.get{g:Gh}:∀{f:V C}{vs:V a4},bc g f vs->∀{k:Y}{c:C},f[k]? =ad c->∃v,vs[k]? =ad v/\da g c v
 |[],_,_,_,_,a=>by simp at a
 |_::_,_,d,0,c,a=>by obtain⟨v,r,rfl,i,_⟩:=d;simp at a;subst a;exact⟨v,ay,i⟩
 |_::_,_,d,k+1,c,a=>by obtain⟨v,r,rfl,_,l⟩:=d;simp at a;let ⟨u,h3,m⟩:=bc.get l a;exact⟨u,zD,m⟩
def bc.drop{g:Gh}:∀{c:V C}{vs:V a4},bc g c vs->∀k,bc g (az k c) (az k vs)
 |[],_,a,k=>by simp only[bc]at a;subst a;simp[bc]
 |_::_,_,a,0=>by simpa using a
 |_::_,_,a,k+1=>by obtain⟨v,r,rfl,_,d⟩:=a;simpa using bc.drop d k
def bc.take{g:Gh}:∀{c:V C}{vs:V a4},bc g c vs->∀k,bc g (h k c) (h k vs)
 |[],_,a,k=>by simp only[bc]at a;subst a;simp[bc]
 |_::_,_,_,0=>by simp[bc]
 |_::_,_,a,k+1=>by obtain⟨v,r,rfl,d,f⟩:=a;simpa using⟨v,_,J,d,bc.take f k⟩
def E4 cs k:∀a∈b7 (az k cs),a∈b7 cs:=by
 induction cs generalizing k with
 |nil=>simp
 |cons c cs d=>cases k with
  |zero=>simp
  |succ k=>intro a h;simp only[List.drop_succ_cons]at h;simp only[b7,bg];exact .inr<|d k a h
def B5 cs k:∀a∈b7 (h k cs),a∈b7 cs:=by
 induction cs generalizing k with
 |nil=>simp
 |cons c cs f=>cases k with
  |zero=>simp[b7]
  |succ k=>
   intro a d
   simp only[List.take_succ_cons,b7,bg]at d⊢
   exact d.imp (λx=>x)<|f k a
def af3{g}{k:Y}{c}(f:g[k]? =ad c):∀i∈c.ak,i∈b7 g:=by
 induction g generalizing k with
 |nil=>simp at f
 |cons d g l=>cases k with
  |zero=>simp at f;subst f;intro i a;simp[b7,a]
  |succ k=>simp at f;intro i a;simp only[b7,bg];exact .inr<|l f i a
def Vi{P}{g}{m}{vs}(n:bc g m vs){a sz}{l}{x}(d:mY m a sz l=ad x){t}(f:tV P t=ad l)
  {i:TypeInfo} (p:P.info? t=ad i) (r:i.size=sz) W:∃v,(part t vs.toArray a).run P W= .ok v W/\bG g x v:=by
 unfold mY at d
 cases l with
 |true=>
  simp only[b9]at d
  split at d
  .rename_i u;simp only[ar]at d;subst d;refine⟨.agg<|vs.toArray.extract a<|a+sz,?_,⟨(az a vs).take sz,?_,(n.drop a).take sz⟩⟩
   .simp only[part,c9,Jk f,df,b9,run_sizeOf p,r];rfl
   .congr 1;simp[List.extract_toArray,List.extract_eq_take_drop]
  .simp at d
 |false=>
  simp only[gY,bN,cL]at d
  obtain⟨c,A,rfl⟩:=d
  let ⟨v,B,k⟩:=n.get A
  refine⟨v,?_,k⟩
  simp only[part,c9,Jk f,df,gY,bN,tW,B];rfl
def xA{i}{f sz}{k}{x}(a:mY i f sz k=ad x):∀d∈x.ak,d∈b7 i:=by
 unfold mY at a;cases k with
 |true=>
  simp only[b9]at a
  split at a
  .simp only[ar]at a;subst a;exact λd g=>E4 _ _ d<|B5 _ _ d g
  .simp at a
 |false=>
  simp only[gY,bN,cL]at a
  obtain⟨c,l,rfl⟩:=a
  exact af3 l
def Vj(c x a:aw AV):aw (AV×Pr):=match c with
 |some (.c<|.B b)=>match x,a with
  |some (.c<|.B p),ad (.c<|.B q)=>ad (.c<|.B<|cond b p q,.t)
  |some v,none=>ad (v,.sy b af)
  |none,ad v=>ad (v,.sy b ah)
  |some v,ad (.c .any)=>ad (v,.sy b af)
  |some (.c .any),ad v=>ad (v,.sy b ah)
  |_,_=>none
 |_=>none
def OP(op:UnOp)(x:AV):aw (AV×Pr):=match op,x with
 | .not,.c (.B b)=>ad (.c<|.B<|!b,.t)
 | .neg,.c (.I k n)=>ad (.c (num k<|0-n).1,(num k<|0-n).2)
 |_,_=>none
def OQ(f:TT)(a d:Y)(x:AV):aw (AV×Pr):=match iO a f,iO d f,x with
 |some _,ad g,.c (.I _ n)=>(match g.kind with
  | .int k=>ad (.c (num k n).1,(num k n).2)
  |_=>none)
 |_,_,_=>none
def OR(d:TT)(t:Y)(x:AV)(f:Y):aw AV:=match x,iO t d with
 | .a cs,ad c=>(match c.kind,c.fields[f]? with
  | .st,ad (off,sz,g)=>mY cs off sz g
  |_,_=>none)
 |_,_=>none
def Jm(d:TT)(t:Y)(x:AV)(f:Y):aw AV:=match iO t d with
 |some a=>(match a.kind,a.fields[f]? with
  | .st,ad (off,_,_)=>(match x with
   | .c (.P id o)=>ad<|.c<|.P id<|o+off
   | .c (.E T e o)=>ad<|.c<|.E T e<|o+off
   | .c (.Y id n i o)=>ad<|.c<|.Y id n i<|o+off
   |_=>none)
  |_,_=>none)
 |none=>none
def Jn(x:AV)(k:Y):aw AV:=match x with
 | .t d=>(match d[k]? with
  |some (af,cs)=>ad<|.a cs
  |some (ah,[c])=>ad<|.c c
  |_=>none)
 |_=>none
def vp(a:TT)(t:Y)(n:Y):Bool:=match iO t a with
 |some c=>(match c.kind with
  | .sl e=>(match iO e a with|some d=>d.size=n|none=>ah)
  |_=>ah)
 |none=>ah
def Jo(a:TT)(t:Y):aw (Y×Y):=match iO t a with
 |some c=>(match c.kind with
  | .arr n e=>(match iO e a with
   |some d=>ad (n,d.size)
   |none=>none)
  |_=>none)
 |none=>none
def Jp(a:TT)(t:Y)(x i:AV):aw (AV×Pr):=match x,i with
 | .c (.S T xs),.c (.I _ k)=>if vp a t T.n then ad (.c<|.E T (E xs (ae k) T.aD) 0,.and (.le 0 k)<|.lt k<|Z xs)else none
 | .c (.P id off),.c (.I _ k)=>(match Jo a t with
  |some (n,sz)=>ad (.c<|.P id<|off+ae k*sz,.and (.le 0 k)<|.lt k n)
  |none=>none)
 | .c (.E T e off),.c (.I _ k)=>(match Jo a t with
  |some (n,sz)=>ad (.c<|.E T e<|off+ae k*sz,.and (.le 0 k)<|.lt k n)
  |none=>none)
 |_,_=>none
def E5(a:TT)(t:Y)(x:AV):aw AV:=match iO t a with
 |some d=>(match d.kind with
  | .sl _=>(match x with
   | .c (.S _ xs)=>ad<|.c<|.I .i64<|Z xs
   | .c (.V<|.slice none 0 0)=>ad<|.c<|.I .i64 0
   | .c (.W _ _ len)=>ad<|.c<|.I .i64 len
   |_=>none)
  |_=>none)
 |none=>none
def Jq(n:Y):aw AV->Y->aw (Y×Pr)
 |none,d=>ad (d,.t)
 |some (.c<|.I _ k),_=>ad (ae k,.and (.le 0 k)<|.le k n)
 |_,_=>none
def OS(d:TT)(t:Y)(x:AV)(f g:aw AV):aw (AV×Pr):=match x with
 | .c (.S T xs)=>if vp d t T.n then
   (match Jq (Z xs) g (Z xs)with
   |some (a,p)=>(match Jq a f 0 with
    |some (l,q)=>ad (.c<|.S T<|(h a xs).drop l,.and p q)
    |none=>none)
   |none=>none)
  else none
 |_=>none
def Jr(mx:Bool):V AV->aw AV
 |[.c (.I k a),.c<|.I f d]=>if k=f then ad (.c<|.I k (if mx then(if d>a then d else a)else(if d<a then d else a)))else none
 |_=>none
def xB(a:St):aw Operand->aw (aw AV)
 |none=>ad none
 |some x=>(a.ev x).map ad
def sA(m:TT)(g:St):Op->aw (AV×Pr)
 | .move x=>(match g.ev x with|some v=>ad (v,.t)|none=>none)
 | .assign x=>(match g.ev x with|some v=>ad (v,.t)|none=>none)
 | .pick c x n=>Vj (g.ev c) (g.ev x)<|g.ev n
 | .binOp op t x n _=>(match g.ev x,g.ev n with
  |some (.c a),ad (.c B)=>(match B4 m op t a B with|some (c,p)=>ad (.c c,p)|none=>none)
  |_,_=>none)
 | .unOp op _ x=>(match g.ev x with|some v=>OP op v|none=>none)
 | .convert F d x=>(match g.ev x with|some v=>OQ m F d v|none=>none)
 | .field t x f=>(match g.ev x with|some v=>(match OR m t v f with|some u=>ad (u,.t)|none=>none)|none=>none)
 | .fieldAddr t x f=>(match g.ev x with|some v=>(match Jm m t v f with|some u=>ad (u,.t)|none=>none)|none=>none)
 | .extract x k=>(match g.ev x with|some v=>(match Jn v k with|some u=>ad (u,.t)|none=>none)|none=>none)
 | .indexAddr t x i=>(match g.ev x,g.ev i with|some v,ad r=>Jp m t v r|_,_=>none)
 | .slice t x H L none=>(match g.ev x,xB g H,xB g L with|some v,ad l,ad M=>OS m t v l M|_,_,_=>none)
 | .call ⟨.builtin .len,args,A⟩=>(match args.toList,A.toList with
  |[x],[t]=>(match g.ev x with|some v=>(match E5 m t v with|some u=>ad (u,.t)|none=>none)|none=>none)
  |_,_=>none)
 | .call ⟨.builtin .max,args,_⟩=>(match args.toList with
  |[x,n]=>(match g.ev x,g.ev n with|some v,ad r=>(match Jr af [v,r]with|some u=>ad (u,.t)|none=>none)|_,_=>none)
  |_=>none)
 | .call ⟨.builtin .min,args,_⟩=>(match args.toList with
  |[x,n]=>(match g.ev x,g.ev n with|some v,ad r=>(match Jr ah [v,r]with|some u=>ad (u,.t)|none=>none)|_,_=>none)
  |_=>none)
 |_=>none
def nF(a:St)(op:Op):V (Key×Info):=op.operands.toList.flatMap<|cE a
section
variable{P:bZ}{tt:TT}{g:Gh}{W:cD}
def af4{op:UnOp}{x}{d}{p}(a:OP op x=ad (d,p))(l:p){v}(c:bG g x v):(∃u,(Op.unary op v).run P W= .ok u W/\bG g d u)/\∀i∈d.ak,i∈x.ak:=by
 unfold OP at a;split at a
 .simp only[ar,bK]at a;obtain⟨rfl,rfl⟩:=a;simp only[bG,da]at c;subst c;exact⟨⟨_,by simp[Op.unary,pure],J⟩,qj⟩
 .rename_i k n;simp only[ar,bK]at a;obtain⟨rfl,rfl⟩:=a;simp only[bG,da]at c;subst c;refine⟨⟨.int k<|k.wrap<|0-n,by simp[Op.unary,OO,pure],B1 k _ l g⟩,?_⟩;intro i f;cases k<;>simp[num,AV.ak,C.ak]at f
 .simp at a
def E6 k n:(num k n).1.ak=[]:=by cases k<;>rfl
def af5(c:cd P tt=af){i d}{x l}{p}(a:OQ tt i d x=ad (l,p))(A:p){v}(r:bG g x v):(∃u,(convert i d v).run P W= .ok u W/\bG g l u)/\l.ak=[]:=by
 unfold OQ at a;split at a
 .rename_i B K L n C F;split at a
  .rename_i k H;simp only[ar,bK]at a;obtain⟨rfl,rfl⟩:=a;simp only[bG,da]at r;subst r;have t:=(dW c F).kind;rw[H]at t;have m:∃f,P.underlying i=ad f:=by
    have:=(dW c C).agg;unfold tV at this;cases hu:P.underlying i with
    |none=>rw[hu]at this;simp at this
    |some f=>exact⟨f,J⟩
   let ⟨f,m⟩:=m;refine⟨⟨.int k<|k.wrap n,?_,B1 k n A g⟩,E6 k n⟩;simp only[convert,c9,run_underlying m,run_underlying t,df];cases f<;>rfl
  .simp at a
 .simp at a
def af6(l:cd P tt=af){t f}{x m}(a:OR tt t x f=ad m){v}(F:bG g x v):(∃u,(Instr.field t v f).run P W= .ok u W/\bG g m u)/\∀H∈m.ak,H∈x.ak:=by
 unfold OR at a;split at a
 .rename_i b e C;split at a
  .rename_i K sz j L M;have B:=(dW l C).kind;rw[L]at B;let ⟨fs,hu,n⟩:=B;obtain⟨Q,p,rfl,⟨i,S,r⟩,_,A⟩:=Jl n M;obtain⟨vs,rfl,X⟩:=F;let ⟨u,c,d⟩:=Vi (W:=W) X a A S r;refine⟨⟨u,?_,d⟩,xA a⟩;have k:fs[f]? =ad Q:=by simpa using p
   simp only[Instr.field,c9,run_underlying hu,df,k,asAgg];simpa using c
  .simp at a
 .simp at a
def k8 a c n:(Addr.mk a c none).add n=⟨a,c+n,none⟩:=by
 unfold Addr.add;split
 .rename_i e;subst e;rfl
 .rfl
def af7(m:cd P tt=af){t f}{x n}(a:Jm tt t x f=ad n){v}(p:bG g x v):(∃u,(Vk t v f).run P W= .ok u W/\bG g n u)/\∀M∈n.ak,M∈x.ak:=by
 unfold Jm at a;split at a
 .rename_i D Q;split at a
  .rename_i S sz E X e;have K:=(dW m Q).kind;rw[X]at K;let ⟨fs,hu,r⟩:=K;obtain⟨L,A,rfl,⟨i,j,B⟩,F,q⟩:=Jl r e;have k:fs[f]? =ad L:=by simpa using A
   have d:∀b o,(Vk t (.pointer<|ad ⟨b,o,none⟩) f).run P W= .ok (.pointer<|ad ⟨b,o+L.offset,none⟩) W:=by intro b o;simp only[Vk,c9,run_underlying hu,df,k,B6,fieldPlace,run_sizeOf j];simp[B,F,k8]
   split at a
   .simp only[ar]at a;subst a;obtain⟨b,H,rfl⟩:=p;exact⟨⟨_,d _ _,b,H,J⟩,qj⟩
   .simp only[ar]at a;subst a;obtain⟨b,o,s,rfl,w,z⟩:=p;exact⟨⟨_,d _ _,b,o,s,by simp[qk],w,z⟩,qj⟩
   .simp only[ar]at a;subst a;obtain⟨b,l,c,H,rfl⟩:=p;exact⟨⟨_,d _ _,b,l,c,H,by simp[qk]⟩,qj⟩
   .simp at a
  .simp at a
 .simp at a
def fX.get{g:Gh}:∀{f:V (Bool×V C)}{vs:V a4},fX g f vs->∀{k:Y}{i:Bool×V C},f[k]? =ad i->∃v,vs[k]? =ad v/\zm g i v
 |[],_,_,_,_,a=>by simp at a
 |_::_,_,d,0,c,a=>by obtain⟨v,r,rfl,l,_⟩:=d;simp at a;subst a;exact⟨v,ay,l⟩
 |_::_,_,d,k+1,c,a=>by obtain⟨v,r,rfl,_,m⟩:=d;simp at a;let ⟨u,h3,n⟩:=fX.get m a;exact⟨u,zD,n⟩
def Vl{i}{k:Y}{c}(f:i[k]? =ad c):∀l∈b7 c.2,l∈fP i:=by
 induction i generalizing k with
 |nil=>simp at f
 |cons d i m=>cases k with
  |zero=>simp at f;subst f;intro l a;simp[fP,a]
  |succ k=>simp at f;intro l a;simp only[fP,bg];exact .inr<|m f l a
def af8{x i}{k}(d:Jn x k=ad i){v}(p:bG g x v):(∃u,(Vm v k).run P W= .ok u W/\bG g i u)/\∀l∈i.ak,l∈x.ak:=by
 unfold Jn at d;split at d
 .rename_i r;obtain⟨vs,rfl,n⟩:=p;split at d
  .rename_i t f;simp only[ar]at d;subst d;let ⟨u,hu,a⟩:=n.get f;exact⟨⟨u,by simp[Vm,hu,pure],a⟩,Vl f⟩
  .rename_i c f;simp only[ar]at d;subst d;let ⟨u,hu,a⟩:=n.get f;exact⟨⟨u,by simp[Vm,hu,pure],a⟩,λl m=>Vl f l<|by simp[b7];exact m⟩
  .simp at d
 .simp at d
def B7(c:cd P tt=af){t n}(a:vp tt t n=af):∃d i,P.underlying t=ad (.slice d)/\P.info? d=ad i/\i.size=n:=by
 unfold vp at a;split at a
 .rename_i u k;split at a
  .rename_i d l;split at a
   .rename_i v m;have f:=(dW c k).kind;rw[l]at f;let ⟨i,p,r,_⟩:=(dW c m).info;exact⟨d,i,f,p,by rw[r];simpa using a⟩
   .simp at a
  .simp at a
 .simp at a
def Vn(c:cd P tt=af){t n sz}(a:Jo tt t=ad (n,sz)):∃d i,P.underlying t=ad (.array n d)/\P.info? d=ad i/\i.size=sz:=by
 unfold Jo at a;split at a
 .rename_i u k;split at a
  .rename_i v d l;split at a
   .rename_i x m;cases a;have f:=(dW c k).kind;rw[l]at f;let ⟨i,p,r,_⟩:=(dW c m).info;exact⟨d,i,f,p,r⟩
   .simp at a
  .simp at a
 .simp at a
def af9(r:cd P tt=af){t}{x i L}{p}(d:Jp tt t x i=ad (L,p))(M:p){v u}(Q:bG g x v)(B:bG g i u):(∃fK,(zE t v u).run P W= .ok fK W/\bG g L fK)/\∀F∈L.ak,F∈x.ak:=by
 unfold Jp at d;split at d
 .rename_i T xs D k;split at d
  .rename_i S;simp only[ar,bK]at d;obtain⟨rfl,rfl⟩:=d;let ⟨e,i,l,C,H⟩:=B7 r S;simp only[bG,da]at B;subst B;obtain⟨a,N,rfl,E,I,K⟩:=Q;let ⟨X,q⟩:=(show 0<=k/\k<(Z xs:O)from M);have A:ae k<Z xs:=G;rcases K with K|⟨b,f,rfl,K⟩
   .subst K;simp at A
   .let ⟨s,hl,R,hc⟩:=K (ae k) A;refine⟨⟨.pointer<|ad ⟨b,f+ae k*T.n,none⟩,?_,b,f+ae k*T.n,s,J,?_,?_⟩,λF m=>by cases m⟩
    .have c:(0<=k/\k<(Z xs:O)):=⟨X,q⟩;simp only[zE,asIntOf,c9,run_underlying l,df];simp[c,run_sizeOf C,H,k8]
    .rw[aV,cH A];exact R
    .intro j U;have:=hc j U;rw[this]
  .simp at d
 .rename_i F f D k;split at d
  .rename_i n sz w;simp only[ar,bK]at d;obtain⟨rfl,rfl⟩:=d;let ⟨e,i,l,C,H⟩:=Vn r w;simp only[bG,da]at B;subst B;obtain⟨b,V,rfl⟩:=Q;have c:0<=k/\k<(n:O):=M;refine⟨⟨.pointer<|ad ⟨b,f+ae k*sz,none⟩,?_,b,V,J⟩,λF m=>m⟩;simp only[zE,B6,asIntOf,c9,Sem.run_pure,run_underlying l,df];simp[c,run_sizeOf C,H,k8]
  .simp at d
 .rename_i T Y f D k;split at d
  .rename_i n sz w;simp only[ar,bK]at d;obtain⟨rfl,rfl⟩:=d;let ⟨e,i,l,C,H⟩:=Vn r w;simp only[bG,da]at B;subst B;obtain⟨b,o,s,rfl,E,I⟩:=Q;have c:0<=k/\k<(n:O):=M;refine⟨⟨.pointer<|ad ⟨b,o+(f+ae k*sz),none⟩,?_,b,o,s,J,E,I⟩,λF m=>m⟩;simp only[zE,B6,asIntOf,c9,Sem.run_pure,run_underlying l,df];simp[c,run_sizeOf C,H,k8,qk]
  .simp at d
 .simp at d
def af'(i:cd P tt=af){t r:Y}{x k}(d:E5 tt t x=ad k){v}(f:bG g x v):(∃u,(Builtin.len_ #[t] r #[v]).run P W= .ok u W/\bG g k u)/\k.ak=[]:=by
 unfold E5 at d;split at d
 .rename_i p l;split at d
  .rename_i e m;have h2:=(dW i l).kind;rw[m]at h2;split at d
   .rename_i T xs;simp only[ar]at d;subst d;obtain⟨a,n,rfl,_⟩:=f;exact⟨⟨_,Js,J⟩,J⟩
   .simp only[ar]at d;subst d;simp only[bG,da]at f;subst f;exact⟨⟨_,Js,J⟩,J⟩
   .simp only[ar]at d;subst d;obtain⟨b,c,_,rfl,_⟩:=f;exact⟨⟨_,Js,J⟩,J⟩
   .simp at d
  .simp at d
 .simp at d
def Vo{mx}{l}{d}(c:Jr mx l=ad d){v f}{i m}(n:l=[i,m])(p:bG g i v)(x:bG g m f) t r:
  (∃u,(if mx then Builtin.max_ t r #[v,f]else Builtin.min_ t r #[v,f]).run P W= .ok u W/\bG g d u)/\d.ak=[]:=by
 unfold Jr at c
 split at c
 .rename_i k a A b;split at c
  .rename_i e;subst e;simp only[ar]at c;subst c;simp only[aga,and_true]at n;obtain⟨rfl,rfl⟩:=n;simp only[bG,da]at p x;subst p x;cases mx
   .exact⟨⟨_,by simp[Builtin.min_,Builtin.min2,jH,pure],J⟩,J⟩
   .exact⟨⟨_,by simp[Builtin.max_,Builtin.max2,jH,pure],J⟩,J⟩
  .simp at c
 .simp at c
end
section
variable{P:bZ}{tt:TT}{g:Gh}{W:cD}
def xC(g:Gh):aw AV->aw a4->Prop
 |none,none=>True
 |some a,ad u=>bG g a u
 |_,_=>False
def Vp{op:BinOp}{t}{x f c}{p}(d:B4 tt op t x f=ad (c,p)):c.ak=[]:=by
 cases x<;>cases f<;>simp only[B4,Jj,reduceCtorEq]at d;case B.B a b=>
  split at d
  .cases op<;>simp only[ar,bK,reduceCtorEq]at d;all_goals (obtain⟨rfl,_⟩:=d;rfl)
  .simp at d
 case I.I k a l b=>
  have i:∀op,E3 op k a b=ad (c,p)->c.ak=[]:=by
   intro op d;cases op<;>simp only[E3,ar,reduceCtorEq]at d;case add=>have:=a8 Prod.fst d;simp only at this;rw[<-this];exact E6 _ _
   case sub=>have:=a8 Prod.fst d;simp only at this;rw[<-this];exact E6 _ _
   case mul=>have:=a8 Prod.fst d;simp only at this;rw[<-this];exact E6 _ _
   all_goals
    simp only[bK]at d
    obtain⟨rfl,_⟩:=d
    first|rfl|exact E6 _ _
  cases op
  case shl=>simp only[B2,ar,bK]at d;obtain⟨rfl,_⟩:=d;rfl
  case shr=>simp only[B2,ar,bK]at d;obtain⟨rfl,_⟩:=d;rfl
  all_goals
   simp only at d
   split at d
   .exact i _ d
   .simp at d
def OT{n}{x}{d h}{p}(a:Jq n x d=ad (h,p))(l:p){v}(c:xC g x v)
 m (t:n<=m) (code:BoundsCode):
  (x=none/\v=none/\h=d)\/(∃u,v=ad u/\h<=n/\(OU u m code).run P W= .ok h W):=by
 unfold Jq at a
 split at a
 .simp only[ar,bK]at a;cases v with
  |none=>exact .inl ⟨J,J,a.1.symm⟩
  |some u=>exact c.elim
 .rename_i r k;simp only[ar,bK]at a;obtain⟨rfl,rfl⟩:=a;cases v with
  |none=>exact c.elim
  |some u=>
   have f:u= .int r k:=c
   subst f
   have i:0<=k/\k<=(n:O):=l
   refine .inr ⟨_,J,G,?_⟩
   have:0<=k/\k<=(m:O):=⟨i.1,G⟩
   simp[OU,asIntOf,this,jH,pure]
 .simp at a
def kZ.sub{r:Type}{m:r->V a4->Prop}{n}{H}{xs}{a}{c}(t:kZ m n H xs (.slice a (Z xs) c)){l f}(F:l<=f)(u:f<=Z xs):
  kZ m n H ((h f xs).drop l) (.slice (if c=l then a else a.map (·.add (l*n))) (f-l)<|c-l):=by
 let ⟨C,p,e,K,v,k⟩:=t
 simp only[agb,true_and]at e
 obtain⟨rfl,rfl⟩:=e
 have d:Z ((h f xs).drop l)=f-l:=bX
 refine⟨_,c-l,by rw[d],G,?_,?_⟩
 .rw[d];exact cj (dT n G) v
 .by_cases L:f=l
  .left;apply fB;omega
  .right;rcases k with k|⟨x,off,rfl,k⟩
   .subst k;simp at u;omega
   .refine⟨x,off+l*n,?_,λi M=>?_⟩
    .rw[b G];simp[k8]
    .let ⟨cs,hl,A,hc⟩:=k (l+i) G;refine⟨cs,hl,?_,λj B=>?_⟩
     .simpa using A
     .have:=hc j B;rw[(E7:off+l*n+i*n+j=off+(l+i)*n+j)];exact this
def agc(A:cd P tt=af){t}{x B}{lo hi}{p}(c:OS tt t x lo hi=ad (B,p))(hp:p){v}{F H}(hv:bG g x v)
  (hl:xC g lo F) (hh:xC g hi H):
  (∃fK,(Instr.sliceAt t v F H none).run P W= .ok fK W/\bG g B fK)/\B.ak=[]:=by
 unfold OS at c
 split at c
 .rename_i T xs;split at c
  .rename_i C;let ⟨e,i,K,L,q⟩:=B7 A C;split at c
   .rename_i d E M;split at c
    .rename_i l G Q;simp only[ar,bK]at c;obtain⟨rfl,rfl⟩:=c;let ⟨S,X⟩:=hp;have b:=hv;obtain⟨a,m,rfl,s,I,N⟩:=b;have f:=OT (P:=P) (W:=W) M S hh m s<|.sliceAcap;have j:d<=Z xs:=by rcases f with⟨_,_,e⟩|⟨_,_,c,_⟩<;>omega
     have k:=OT (P:=P) (W:=W) Q X hl d (a7 _)<|.sliceB;have n:l<=d:=by rcases k with⟨_,_,e⟩|⟨_,_,c,_⟩<;>omega
     have r:=kZ.sub hv n j;refine⟨⟨_,?_,r⟩,J⟩;have o:(vq af (Z xs) m F H none).run P W= .ok (l,d,m) W:=by rcases f with⟨_,rfl,rfl⟩|⟨u,rfl,_,w⟩<;>rcases k with⟨_,rfl,rfl⟩|⟨O,rfl,_,D⟩<;>simp[vq, *]
     simp only[Instr.sliceAt,c9,run_underlying K,df,Instr.slice,o,run_sizeOf L,q];rfl
    .simp at c
   .simp at c
  .simp at c
 .simp at c
def E8{F}{c:Y->Prop}{i}{a}(l:bw F c i g W a) st x v(f:xB st x=ad v)
  (m:∀d,x=ad d->∀k∈cE st d,i k.1=ad k.2):xC g v (x.map a.eval):=by
 cases x with
 |none=>simp only[xB,ar]at f;subst f;trivial
 |some d=>
  simp only[xB,cL]at f
  obtain⟨u,n,rfl⟩:=f
  exact dr l st d u n<|m d J
def Jt(S:cd P tt=af){ops}{i}{aI:bh}{d:Y}(ho:ops[i]? =ad aI)(hg:aI.guard=none)(hd:aI.dst=ad d){n}(di:d<n)
 {st}{x}{p}(m:sA tt st aI.op=ad (x,p)) (hp:p) new:gX P n ops i (nF st aI.op) [(.s d,ad<|.v x)] new:=by
 refine rF ho hg hd di _ x new ?_
 intro F G Z g W a X U
 have B:∀y∈aI.op.operands,∀u,st.ev y=ad u->bG g u (a.eval y)/\∀M∈u.ak,G M:=by
  intro y j u Q;have hr:∀E∈cE st y,Z E.1=ad E.2:=λE I=>U E<|iP.2 ⟨y,by simpa using j,I⟩
  exact⟨dr X st y u Q hr,rE X st y u Q hr⟩
 have N:∀y∈aI.op.operands,∀E∈cE st y,Z E.1=ad E.2:=λy j E I=>U E<|iP.2 ⟨y,by simpa using j,I⟩
 let ⟨od,op,O,asE,asF,ogd⟩:=aI
 simp only at m B N
 unfold sA at m
 split at m
 .rename_i y;split at m
  .rename_i v K;simp only[ar,bK]at m;obtain⟨rfl,rfl⟩:=m;have:=B y gf _ K;exact⟨this.2,_,by simp[execOp,pure],this.1⟩
  .simp at m
 .rename_i y;split at m
  .rename_i v K;simp only[ar,bK]at m;obtain⟨rfl,rfl⟩:=m;have:=B y gf _ K;exact⟨this.2,_,by simp[execOp,pure],this.1⟩
  .simp at m
 .rename_i c y z;unfold Vj at m;split at m
  .rename_i b hb;have B8:=(B c gf _ hb).1;simp only[bG,da]at B8;split at m
   .rename_i p1 q1 j R;simp only[ar,bK]at m;obtain⟨rfl,rfl⟩:=m;have H:=(B y gf _ j).1;have e:=(B z gf _ R).1;simp only[bG,da]at H e;refine⟨qj,.bool<|cond b p1 q1,?_,J⟩;cases b<;>simp[execOp,B8,asBool,H,e,jH,pure]
   .rename_i v j R;simp only[ar,bK]at m;obtain⟨rfl,rfl⟩:=m;have H:=B y gf _ j;simp only[Pr.h]at hp;subst hp;exact⟨H.2,_,Ju,H.1⟩
   .rename_i v j R;simp only[ar,bK]at m;obtain⟨rfl,rfl⟩:=m;have H:=B z gf _ R;simp only[Pr.h]at hp;subst hp;exact⟨H.2,_,Ju,H.1⟩
   .rename_i v j R;simp only[ar,bK]at m;obtain⟨rfl,rfl⟩:=m;have H:=B y gf _ j;simp only[Pr.h]at hp;subst hp;exact⟨H.2,_,Ju,H.1⟩
   .rename_i v j R;simp only[ar,bK]at m;obtain⟨rfl,rfl⟩:=m;have H:=B z gf _ R;simp only[Pr.h]at hp;subst hp;exact⟨H.2,_,Ju,H.1⟩
   .simp at m
  .simp at m
 .rename_i op t y z _;split at m
  .rename_i u w Q T;split at m
   .rename_i c q hc;simp only[ar,bK]at m;obtain⟨rfl,rfl⟩:=m;have H:=(B y gf _ Q).1;have e:=(B z gf _ T).1;let ⟨v,iR,A⟩:=af2 (P:=P) S hc hp g H e W y z;refine⟨?_,v,?_,A⟩
    .intro M eD;simp only[AV.ak,Vp hc]at eD;cases eD
    .simp only[execOp,c9];rw[c9]at iR;simp only[iR];simp[df,pure]
   .simp at m
  .simp at m
 .rename_i op t y;split at m
  .rename_i v K;have H:=B y gf _ K;let ⟨⟨u,iR,A⟩,hm⟩:=af4 (P:=P) (W:=W) m hp H.1;exact⟨λM eD=>H.2 M<|hm M eD,u,zF,A⟩
  .simp at m
 .rename_i s d' y;split at m
  .rename_i v K;have H:=B y gf _ K;let ⟨⟨u,iR,A⟩,hm⟩:=af5 (P:=P) (W:=W) S m hp H.1;exact⟨λM eD=>B9,u,zF,A⟩
  .simp at m
 .rename_i t y f;split at m
  .rename_i v K;split at m
   .rename_i u Q;simp only[ar,bK]at m;obtain⟨rfl,rfl⟩:=m;have H:=B y gf _ K;let ⟨⟨u,iR,A⟩,hm⟩:=af6 (P:=P) (W:=W) S Q H.1;exact⟨λM eD=>H.2 M<|hm M eD,u,zF,A⟩
   .simp at m
  .simp at m
 .rename_i t y f;split at m
  .rename_i v K;split at m
   .rename_i u Q;simp only[ar,bK]at m;obtain⟨rfl,rfl⟩:=m;have H:=B y gf _ K;let ⟨⟨u,iR,A⟩,hm⟩:=af7 (P:=P) (W:=W) S Q H.1;exact⟨λM eD=>H.2 M<|hm M eD,u,zF,A⟩
   .simp at m
  .simp at m
 .rename_i y k;split at m
  .rename_i v K;split at m
   .rename_i u Q;simp only[ar,bK]at m;obtain⟨rfl,rfl⟩:=m;have H:=B y gf _ K;let ⟨⟨u,iR,A⟩,hm⟩:=af8 (P:=P) (W:=W) Q H.1;exact⟨λM eD=>H.2 M<|hm M eD,u,zF,A⟩
   .simp at m
  .simp at m
 .rename_i t y z;split at m
  .rename_i v w K T;have H:=B y gf _ K;have e:=B z gf _ T;let ⟨⟨u,iR,A⟩,hm⟩:=af9 (P:=P) (W:=W) S m hp H.1 e.1;exact⟨λM eD=>H.2 M<|hm M eD,u,zF,A⟩
  .simp at m
 .rename_i t y lo hi;split at m
  .rename_i v l h K hl hh;have H:=B y gf _ K;have e:=E8 X st lo l hl<|λq hq=>N q E9;have h3:=E8 X st hi h hh<|λq hq=>N q E9;let ⟨⟨u,iR,A⟩,hm⟩:=agc (P:=P) (W:=W) S m hp H.1 e h3;exact⟨λM eD=>B9,u,zF,A⟩
  .simp at m
 .rename_i args D;split at m
  .rename_i y t ha ht;have L:args= #[y]:=Fa;have V:D= #[t]:=OV;subst L V;split at m
   .rename_i v K;split at m
    .rename_i u Q;simp only[ar,bK]at m;obtain⟨rfl,rfl⟩:=m;have H:=B y Ca _ K;let ⟨⟨u,iR,A⟩,hm⟩:=af' (P:=P) (W:=W) (r:=O) S Q H.1;exact⟨λM eD=>B9,u,OW,A⟩
    .simp at m
   .simp at m
  .simp at m
 .rename_i args D;split at m
  .rename_i y z ha;have L:args= #[y,z]:=Fa;subst L;split at m
   .rename_i v w K T;split at m
    .rename_i u Q;simp only[ar,bK]at m;obtain⟨rfl,rfl⟩:=m;have H:=B y Ca _ K;have e:=B z Ca _ T;let ⟨⟨u,iR,A⟩,hm⟩:=Vo (P:=P) (W:=W) Q J H.1 e.1 D O;simp only[b9]at iR;exact⟨λM eD=>B9,u,OW,A⟩
    .simp at m
   .simp at m
  .simp at m
 .rename_i args D;split at m
  .rename_i y z ha;have L:args= #[y,z]:=Fa;subst L;split at m
   .rename_i v w K T;split at m
    .rename_i u Q;simp only[ar,bK]at m;obtain⟨rfl,rfl⟩:=m;have H:=B y Ca _ K;have e:=B z Ca _ T;let ⟨⟨u,iR,A⟩,hm⟩:=Vo (P:=P) (W:=W) Q J H.1 e.1 D O;simp only[gY,bN]at iR;exact⟨λM eD=>B9,u,OW,A⟩
    .simp at m
   .simp at m
  .simp at m
 .simp at m
end
section
variable{P:bZ}{tt:TT}{g:Gh}{W:cD}
def run_load{a:Addr}{v}(c:W.cell? a=ad v):(load a).run P W= .ok v W:=by simp[load,jH,c]
def run_loadCellsFrom(f:Y):∀(n i a:Y)(vs:V a4)(c:Array a4),Z vs=n->(∀d(l:d<Z vs),W.cell? ⟨f,a+i+d,none⟩=ad vs[d])->
  (loadCellsFrom ⟨f,a,none⟩ i n c).run P W= .ok (c++vs.toArray) W
 |0,i,a,vs,c,hl,_=>by have:vs=[]:=fB hl;subst this;simp[loadCellsFrom,pure]
 |n+1,i,a,[],c,hl,_=>by simp at hl
 |n+1,i,a,v::vs,c,hl,hc=>by have k:=hc 0 ay;simp only[jd,vr]at k;have m:=run_loadCellsFrom f n (i+1) a vs (c.push v) tX (λd l=>by have:=hc (d+1) bX;simp only[Cb]at this;rw[(G:a+(i+1)+d=a+i+(d+1))];exact this);simp only[loadCellsFrom,k8,c9,run_load k,df,m];congr 1;apply Cc;simp
def agd{t}{a}(c:tV P t=ad a){i:TypeInfo}(n:P.info? t=ad i) f off vs(l:Z vs=i.size)(d:a=ah->i.size=1)
  (m:∀k(r:k<Z vs),W.cell? ⟨f,off+k,none⟩=ad vs[k]):∃v,(loadVar t ⟨f,off,none⟩).run P W= .ok v W/\((a=af/\v= .agg vs.toArray)\/(a=ah/\vs=[v])):=by
 cases a with
 |true=>
  refine⟨.agg vs.toArray,?_,.inl ⟨J,J⟩⟩
  simp only[loadVar,c9,Jk c,df,b9,run_sizeOf n,loadCells]
  rw[run_loadCellsFrom f i.size 0 off vs #[] l (by simpa using m)]
  simp[pure]
 |false=>
  have p:Z vs=1:=by rw[l];exact d J
  match vs,p with
  |[v],_=>
   refine⟨v,?_,.inr ⟨J,J⟩⟩
   have:=m 0 ay
   simp only[jd,vr]at this
   simp only[loadVar,c9,Jk c,df,gY,bN,run_load this]
def oY(tt:TT)(t:Y):aw (Y×Bool):=match iO t tt with
 |some a=>if a.agg then ad (a.size,af)else if a.size=1 then ad (1,ah)else none
 |none=>none
def Jv(c:cd P tt=af){t sz}{d}(a:oY tt t=ad (sz,d)):tV P t=ad d/\(∃i,P.info? t=ad i/\i.size=sz)/\(d=ah->sz=1):=by
 unfold oY at a;split at a
 .rename_i r n;have f:=dW c n;let ⟨i,l,m,_⟩:=f.info;split at a
  .rename_i k;simp only[ar,bK]at a;obtain⟨rfl,rfl⟩:=a;exact⟨by rw[f.agg,k],⟨i,l,m⟩,ay⟩
  .rename_i k;split at a
   .rename_i p;simp only[ar,bK]at a;obtain⟨rfl,rfl⟩:=a;exact⟨by rw[f.agg];simpa using k,⟨i,l,by rw[m];exact p⟩,λ_=>rfl⟩
   .simp at a
 .simp at a
def Fb(B:cd P tt=af){t sz}{A}(cF:oY tt t=ad (sz,A)){F}{vs}(H:bc g F vs){a}{x}(d:mY F a sz A=ad x)
 L n (hc:∀k(Q:k<Z vs),W.cell? ⟨L,n+k,none⟩=ad vs[k]):∃v,(Vq t<|.pointer<|ad ⟨L,n+a,none⟩).run P W= .ok v W/\bG g x v:=by
 let ⟨C,⟨i,X,e⟩,f⟩:=Jv B cF
 have S:=H.length
 have K:a+sz<=Z F:=by
  unfold mY at d;cases A with
  |true=>simp only[b9]at d;split at d<;>simp_all
  |false=>
   simp only[gY,bN,cL]at d
   let ⟨c,l,_⟩:=d
   have:=(sB.1 l).1
   have:=f J
   omega
 let ⟨v,p,m⟩:=agd (W:=W) C X L (n+a) ((az a vs).take sz) bX (by rw[e];exact f) (λk Q=>by simp at Q;have:=hc (a+k) G;simp only[qm,sC];rw[(G:n+a+k=n+(a+k))];exact this)
 refine⟨v,by simpa[Vq,B6]using p,?_⟩
 unfold mY at d
 cases A with
 |true=>
  simp only[b9]at d
  split at d
  .simp only[ar]at d;subst d;rcases m with⟨_,rfl⟩|⟨M,_⟩
   .exact⟨_,J,(H.drop a).take sz⟩
   .simp at M
  .rename_i q;exact absurd K q
 |false=>
  simp only[gY,bN,cL]at d
  obtain⟨c,l,rfl⟩:=d
  rcases m with⟨M,_⟩|⟨_,m⟩
  .simp at M
  .let ⟨u,hu,r⟩:=H.get l;have s:=f J;subst s;have:(az a vs).take 1=[u]:=by rw[List.take_one,List.head?_drop,hu];rfl
   rw[this]at m;simp only[aga,and_true]at m;subst m;exact r
def Ff(tt:TT)(d:St)(t:Y)(x:AV):aw (AV×Pr×V Y):=match oY tt t with
 |some (sz,a)=>(match x with
  | .c (.P id off)=>(match iO id d.mem with
   |some (.box _ _ cs)=>(match mY cs off sz a with|some y=>ad (y,.t,[id])|none=>none)
   |some (.fz _ cs)=>(match mY cs off sz a with|some y=>ad (y,.t,[id])|none=>none)
   |_=>none)
  | .c (.E T e off)=>(match mY (av T e) off sz a with|some y=>ad (y,.t,[])|none=>none)
  | .c (.Y id n i off)=>(match iO id d.mem with
   |some (.vec _ T xs)=>if T.n=n then(match mY (av T<|E xs i T.aD) off sz a with|some y=>ad (y,.zC i<|Z xs,[id])|none=>none)else none
   |_=>none)
  |_=>none)
 |none=>none
def fC(d:St)(a:V Y):V (Key×Info):=a.flatMap λc=>match iO c d.mem with
 |some b=>[(.m c,.b b)]
 |none=>[]
def tY{c}{vs}{d}{f}(i:W.heap[c]? =ad (.cells vs.toArray d f)) a(k:a<Z vs):W.cell? ⟨c,a,none⟩=ad vs[a]:=by simp[World.cell?,i,k]
def Fg:∀(k:ET)(x:k.den),b7 (av k x)=[]
 | .int _,_=>rfl
 | .bool,_=>rfl
 | .z,_=>rfl
 | .q,_=>rfl
 | .sl _,_=>rfl
 | .pr A B,x=>by
  have l:∀(a d:V C),b7 a=[]->b7 d=[]->b7 (a++d)=[]:=by
   intro a;induction a with
   |nil=>intro d _ f;exact f
   |cons c a m=>
    intro d i f
    simp only[b7,OX]at i
    simp only[mc,b7,OX]
    exact⟨i.1,m d i.2 f⟩
  exact l _ _ (Fg A x.1)<|Fg B x.2
def Vr(cp:cd P tt=af){ops}{i}{aI:bh}{d:Y}(ho:ops[i]? =ad aI)(hg:aI.guard=none)(hd:aI.dst=ad d){n}(di:d<n){t}{x}(bV:aI.op= .load t x)
 {st}{v cC}{p}{ids:V Y} (hx:st.ev x=ad v) (A:Ff tt st t v=ad (cC,p,ids)) (hp:p) (new:Y):
  gX P n ops i (cE st x++fC st ids) [(.s d,ad<|.v cC)] new:=by
 refine rF ho hg hd di _ cC new ?_
 intro F known σ g W a B J
 have M:=dr B st x v hx<|λkx b8=>J kx<|eh _ b8
 have S:∀Q∈ids,∀b,iO Q st.mem=ad b->σ (.m Q)=ad (.b b):=by intro Q eD b hb;exact J (.m Q,.b b)<|fZ _<|iP.2 ⟨Q,eD,by simp[hb]⟩
 have H:execOp a.eval aI=(do pure (.value<|<-Vq t (a.eval x))):=tZ
 unfold Ff at A
 split at A
 .rename_i sz ag w;split at A
  .rename_i Q N;split at A
   .rename_i bx bz cs O;split at A
    .rename_i z X;simp only[ar,bK]at A;obtain⟨rfl,rfl,rfl⟩:=A;have L:=S Q ay _ O;let ⟨b,vs,rest,q,R,U,_,_⟩:=B.c8 Q _ L;let ⟨b',f,D⟩:=M;rw[q]at f;simp only[ar]at f;subst f;let ⟨u,r,hu⟩:=Fb (W:=W) cp w U X b 0 (λj I=>by have:=tY R j bX;rw[vu I]at this;simpa using this);refine⟨λK C=>B.ak _ _ L K<|xA X K C,u,?_,hu⟩;rw[H,D];simp only[eF]at r;simp[r,jH,pure]
    .simp at A
   .rename_i bx cs O;split at A
    .rename_i z X;simp only[ar,bK]at A;obtain⟨rfl,rfl,rfl⟩:=A;have L:=S Q ay _ O;let ⟨b,vs,rest,q,R,U,_⟩:=B.c8 Q _ L;let ⟨b',f,D⟩:=M;rw[q]at f;simp only[ar]at f;subst f;let ⟨u,r,hu⟩:=Fb (W:=W) cp w U X b 0 (λj I=>by have:=tY R j bX;rw[vu I]at this;simpa using this);refine⟨λK C=>B.ak _ _ L K<|xA X K C,u,?_,hu⟩;rw[H,D];simp only[eF]at r;simp[r,jH,pure]
    .simp at A
   .simp at A
  .rename_i T e N;split at A
   .rename_i z X;simp only[ar,bK]at A;obtain⟨rfl,rfl,rfl⟩:=A;let ⟨b,o',cs,D,age,hc⟩:=M;let ⟨u,r,hu⟩:=Fb (W:=W) cp w (zn T e cs age) X b o'<|λj I=>B.sub _ _ _<|hc j I;refine⟨λK C=>?_,u,?_,hu⟩
    .have:=xA X K C;rw[Fg]at this;cases this
    .rw[H,D];simp[r,jH,pure]
   .simp at A
  .rename_i Q m k N;split at A
   .rename_i bx T xs O;split at A
    .rename_i rG;split at A
     .rename_i z X;simp only[ar,bK]at A;obtain⟨rfl,rfl,rfl⟩:=A;have L:=S Q ay _ O;let ⟨b',l,c,f,D⟩:=M;rcases B.c8 Q _ L with⟨_,h0⟩|⟨b,cap,vs,q,R,hlen,hle,_,U,_,_⟩
      .subst h0;simp[Pr.h]at hp
      .rw[q]at f;simp only[agb,ar,Addr.mk.injEq,and_true]at f;obtain⟨rfl,_,_⟩:=f;have hp:k<Z xs:=hp;have Fh:=U k hp;rw[show xs[k]=E xs k T.aD by rw[aV,cH hp];rfl]at Fh;have sD:(k+1)*T.n<=cap*T.n:=dT _ G;rw[fD,hO]at sD;have asH:Z ((az (k*T.n) vs).take T.n)=T.n:=bX;let ⟨u,r,hu⟩:=Fb (W:=W) cp w (zn T _ _ Fh) X b (k*T.n) (λj I=>by have:=tY R (k*T.n+j) G;simp only[qm,sC];exact this);refine⟨λK C=>?_,u,?_,hu⟩
       .have:=xA X K C;rw[Fg]at this;cases this
       .rw[H,D,<-rG];simp[r,jH,pure]
     .simp at A
    .simp at A
   .simp at A
  .simp at A
 .simp at A
end
section
variable{P:bZ}{tt:TT}{g:Gh}{W:cD}
def nG:a4->Bool
 | .agg _=>ah
 | .tuple _=>ah
 |_=>af
def jI:C->Bool
 | .any=>ah
 | .V v=>nG v
 | .M _=>ah
 | .X _=>ah
 |_=>af
def Vs{c}{v}(p:jI c=af)(d:da g c v):nG v=af:=by
 cases c with
 |any=>simp[jI]at p
 |B b=>simp only[da]at d;subst d;rfl
 |I k n=>simp only[da]at d;subst d;rfl
 |V u=>simp only[da]at d;subst d;exact p
 |S T xs=>obtain⟨a,f,rfl,_⟩:=d;rfl
 |P id off=>obtain⟨b,_,rfl⟩:=d;rfl
 |X id=>simp[jI]at p
 |Y id n i off=>obtain⟨b,l,c,_,rfl⟩:=d;rfl
 |E T x off=>obtain⟨b,o,r,rfl,_⟩:=d;rfl
 |M m=>simp[jI]at p
 |L id off len f=>
  cases f with
  |some c=>obtain⟨b,_,rfl⟩:=d;rfl
  |none=>obtain⟨_,b,c,_,rfl,_⟩:=d;rfl
 |W id off len=>obtain⟨b,c,_,rfl,_⟩:=d;rfl
def iB(W:cD)(a:Y)(vs:V a4)(c:dI):cD:={W with heap:=W.heap.setIfInBounds a<|.cells vs.toArray c (0,0)}
def xD{a}{vs}{c}(d:a<W.heap.size):(iB W a vs c).heap[a]? =ad (.cells vs.toArray c (0,0)):=by simp[iB,d]
def xE{a k}{vs}{c}(d:a≠k):(iB W a vs c).heap[k]? =W.heap[k]? :=by simp[iB,k7 d]
def agf{a j}{vs}{c}(d:W.heap[a]? =ad (.cells vs.toArray c (0,0)))(i:j<Z vs){v}(l:nG v=af):
  (store ⟨a,j,none⟩ v).run P W= .ok () (iB W a (vs.set j v) c):=by
 have m:a<W.heap.size:=(fQ.1 d).1
 have n:W.cell? ⟨a,j,none⟩=ad vs[j]:=tY d j i
 have p:W.frozen? ⟨a,j,none⟩=ah:=by simp[World.frozen?,d]
 have r:W.setCell ⟨a,j,none⟩ v=iB W a (vs.set j v) c:=by
  unfold World.setCell iB;congr 1;apply agh;intro k;rw[Array.getElem?_modify,agi];have f:W.heap[a]= .cells vs.toArray c (0,0):=(fQ.1 d).2;by_cases e:a=k
  .subst e;simp[m,f]
  .simp[e]
 cases v<;>simp[store,jH,n,p,r]<;>simp[nG]at l
def agj{a}{vs c}{f d}:iB (iB W a vs f) a c d=iB W a c d:=by simp[iB]
def agk{a}{vs}{c}(f:W.heap[a]? =ad (.cells vs.toArray c (0,0))):iB W a vs c=W:=by
 have i:a<W.heap.size:=(fQ.1 f).1;have:W.heap.setIfInBounds a (.cells vs.toArray c (0,0))=W.heap:=by
  apply agh;intro k;rw[agi];by_cases e:a=k
  .subst e;have d:W.heap[a]= .cells vs.toArray c (0,0):=(fQ.1 f).2;simp[i,d]
  .simp[e]
 unfold iB;rw[this]
def cN{c:Type}(vs d:V c)(a:Y):V c:=h a vs++d++az (a+Z d) vs
def xF{c:Type}(vs a:V c) off(d:off+Z a<=Z vs):(cN vs a off).length=Z vs:=by simp[cN];omega
def Vt{a:Type} vs us(u:a) off(h:off<Z vs):cN (vs.set off u) us (off+1)=cN vs (u::us) off:=by
 unfold cN;rw[List.drop_set_of_lt G];have c:(vs.set off u).take (off+1)=List.take off vs++[u]:=by rw[Jw dH];simp only[List.take_set,List.getElem_set_self];rw[List.set_eq_of_length_le bX]
 rw[c];simp only[eB,kF,mc,sF];rw[(G:off+1+Z us=off+(Z us+1))]
def zG(d:Y){l:dI}:∀(f:V a4)(W:cD)(vs:V a4)(a i:Y),W.heap[d]? =ad (.cells vs.toArray l (0,0))->a+i+Z f<=Z vs->(∀u∈f,nG u=af)->
  (storeCells ⟨d,a,none⟩ f i).run P W= .ok () (iB W d (cN vs f<|a+i) l)
 |[],W,vs,a,i,k,_,_=>by
  have:cN vs [] (a+i)=vs:=by simp[cN]
  rw[this,agk k];simp[storeCells,pure]
 |u::f,W,vs,a,i,k,hle,c=>by simp only[eB]at hle;have m:d<W.heap.size:=(fQ.1 k).1;have n:=agf (P:=P) k (j:=a+i) G<|c u ay;have p:=zG d f (iB W d (vs.set (a+i) u) l) (vs.set (a+i) u) a (i+1) (xD m) bX<|λx hx=>c x lF;simp only[storeCells,k8,c9,n,df,p,agj];rw[(G:a+(i+1)=a+i+1),Vt _ _ _ _ G]
def jX:AV->aw (V C)
 | .c x=>ad [x]
 | .a cs=>ad cs
 | .t _=>none
def Jx{x}{k}(d:jX x=ad k){v}(f:bG g x v)(i:∀c∈k,jI c=af):∃vs,v.cells=vs.toArray/\bc g k vs:=by
 cases x with
 |c y=>
  simp only[jX,ar]at d
  subst d
  have l:=Vs (i y ay) f
  refine⟨[v],?_,v,[],J,f,J⟩
  cases v<;>first|rfl| (simp[nG]at l)
 |a ds=>
  simp only[jX,ar]at d
  subst d
  obtain⟨vs,rfl,f⟩:=f
  exact⟨vs,J,f⟩
 |t _=>simp[jX]at d
def bc.one{d}{vs}(f:bc g d vs)(a:∀c∈d,jI c=af):∀v∈vs,nG v=af:=by
 induction d generalizing vs with
 |nil=>simp only[bc]at f;subst f;simp
 |cons c d l=>
  obtain⟨v,r,rfl,m,n⟩:=f
  intro u i
  rcases bY.1 i with rfl|i
  .exact Vs (a c ay) m
  .exact l n (λp k=>a p<|by simp[k]) u i
def bc.cN{a c}{vs d}(f:bc g a vs)(i:bc g c d) off:bc g (Go.El.cN a c off) (Go.El.cN vs d off):=by unfold Go.El.cN;rw[i.length];exact bc.append (bc.append (f.take off) i)<|f.drop _
def Cd a f:∀d∈b7 (a++f),d∈b7 a\/d∈b7 f:=by
 induction a with
 |nil=>intro d h;exact .inr h
 |cons c a i=>
  intro d h
  simp only[mc,b7,bg]at h⊢
  rcases h with h|h
  .exact .inl<|.inl h
  .rcases i d h with h|h
   .exact .inl<|.inr h
   .exact .inr h
end
end Go.El
