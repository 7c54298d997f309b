/- Own work; no condition. -/
import Derived.WalkKit
import Derived.OrdersIn
import Derived.Test.YtceihkmakfdcnaaGreatC0
set_option linter.all false
set_option maxHeartbeats 16000000
set_option maxRecDepth 100000
open Array renaming ext_getElem?->amQ,getElem?_setIfInBounds->amR
open BitVec renaming ofInt->kf
open Bool renaming false->ah,true->ae
open Go renaming Value->aT,IntKind->p8,TypeId->eI,World->cJ,Oper->a8,Program->bW
open Go.Act renaming put->iK
open Go.Builtin renaming len_->aaU
open Go.Instr renaming fieldAt->aaQ,sureAddr->I9,extract->aaS,indexAt->CZ,sliceBound->TG,sliceBounds->yY,loadAt->aaY,storeAt->TO
open Go.Op renaming intArith->Tz
open Go.Oper renaming wp->p',upon->ph
open Go.Region renaming binds->vP,ready->aaI,wanted->iv
open Go.Result renaming andThen->eo
open Go.Sem renaming run_bind->dH,run_pure->C0,run->mX
open Go.Value.slice renaming injEq->aaX
open Go.World renaming cell?->Jh,block_lt_of_cell?->C5
open Int renaming toNat->af
open List renaming length->Z,filter_cons_of_pos->amm,filter_cons_of_neg->amn,range->bJ,drop->az,take->r
open Nat renaming one_pos->IU
open Option renaming some->ad
open _root_ renaming Nat->G,Option->aw,Int->V,List->E
namespace Go.El
open Go Go.RowKit
abbrev FH:=G->G->aw aT
inductive ET where
 |int (k:p8)|bool|z|q|sl (T:ET)|pr (A B:ET)
@[reducible] def ET.den : ET -> Type
 | .int _=>V
 | .bool=>Bool
 | .z=>V
 | .q=>Rat
 | .sl T=>E T.den
 | .pr A B=>A.den×B.den
@[reducible] def ET.eP : (T : ET) -> T.den
 | .int _=>(0:V)
 | .bool=>ah
 | .z=>(0:V)
 | .q=>(0:Rat)
 | .sl _=>[]
 | .pr A B=>(A.eP,B.eP)
@[reducible] def ET.n : ET -> G
 | .int _=>1
 | .bool=>1
 | .z=>2
 | .q=>4
 | .sl _=>1
 | .pr A B=>A.n+B.n
def ET.CP:∀T:ET,0<T.n
 | .int _=>IU
 | .bool=>IU
 | .z=>Nat.two_pos
 | .q=>by decide
 | .sl _=>IU
 | .pr A B=>by have:=A.CP;simp only[ET.n];omega
def AR:G->G->E V
 |0,_=>[]
 |f+1,n=>if n=0 then[]else((n%4294967296:G):V)::AR f (n/4294967296)
def al(n:G):E V:=AR n n
def cD(z:V):Bool:=decide<|z<0
def fo(z:V):E V:=al<|Int.natAbs z
def nl{k:Type}(l:k->E aT->Prop)(n:G)(H:FH)(xs:E k)(v:aT):Prop:=
 ∃a d,v= .slice a (Z xs) d/\Z xs<=d/\Z xs*n<=140737488355328/\
  (xs=[]\/∃b f,a=ad ⟨b,f,none⟩/\∀i(h:i<Z xs),∃g,Z g=n/\l xs[i] g/\
   ∀j(m:j<Z g),H b (f+i*n+j)=ad g[j])
def Fw(H:FH)(a:E V)(v:aT):Prop:=nl (λn b=>b=[.int .u32 n]) 1 H a v
def tu(H:FH)(z:V)(vs:E aT):Prop:=∃m,vs=[.bool (cD z),m]/\Fw H (fo z) m
def dq(H:FH):(T:ET)->T.den->E aT->Prop
 | .int k,n,vs=>vs=[.int k n]
 | .bool,b,vs=>vs=[.bool b]
 | .z,z,vs=>tu H z vs
 | .q,d,vs=>∃a b,vs=a++b/\tu H d.num a/\tu H (d.den:V) b
 | .sl T,xs,vs=>∃v,vs=[v]/\nl (dq H T) T.n H xs v
 | .pr A B,x,vs=>∃a b,vs=a++b/\dq H A x.1 a/\dq H B x.2 b
def cL(H a:FH):Prop:=∀b o v,H b o=ad v->a b o=ad v
def cL.refl H:cL H H:=λ_ _ _ h=>h
def cL.trans{a d f}(g:cL a d)(k:cL d f):cL a f:=λb o v e=>k b o v<|g b o v e
def nl.mono{p:Type}{g k:p->E aT->Prop}{n}{H m}{xs}{v}(s:nl g n H xs v)
  (t:cL H m) (u:∀x d,g x d->k x d):nl k n m xs v:=by
 let ⟨a,cap,e,z,h2,f⟩:=s
 refine⟨a,cap,e,z,h2,?_⟩
 rcases f with f|⟨b,off,A,hc⟩
 .exact .inl f
 .refine .inr ⟨b,off,A,λi B=>?_⟩;let ⟨d,l,r,c⟩:=hc i B;exact⟨d,l,u _ _ r,λj C=>t _ _ _<|c j C⟩
def Fw.mono{H b:FH}{d v}(a:Fw H d v)(f:cL H b):Fw b d v:=nl.mono a f λ_ _ a=>a
def tu.mono{H b:FH}{z vs}(a:tu H z vs)(d:cL H b):tu b z vs:=by let ⟨m,e,a⟩:=a;exact⟨m,e,a.mono d⟩
def dq.mono{H k:FH}(f:cL H k):∀(T:ET)(x:T.den)(vs:E aT),dq H T x vs->dq k T x vs
 | .int _,_,_,d=>d
 | .bool,_,_,d=>d
 | .z,_,_,d=>tu.mono d f
 | .q,_,_,d=>by let ⟨a,b,g,i,h2⟩:=d;exact⟨a,b,g,i.mono f,h2.mono f⟩
 | .sl T,_,_,d=>by let ⟨v,g,i⟩:=d;exact⟨v,g,i.mono f<|λx l=>dq.mono f T x l⟩
 | .pr A B,_,_,d=>by let ⟨a,b,g,i,h2⟩:=d;exact⟨a,b,g,dq.mono f A _ _ i,dq.mono f B _ _ h2⟩
def tu.length{H z vs}(a:tu H z vs):Z vs=2:=by obtain⟨m,rfl,_⟩:=a;rfl
def dq.length{H:FH}:∀(T:ET)(x:T.den)(vs:E aT),dq H T x vs->Z vs=T.n
 | .int _,_,_,d=>by simp[dq]at d;subst d;rfl
 | .bool,_,_,d=>by simp[dq]at d;subst d;rfl
 | .z,_,_,d=>tu.length d
 | .q,_,_,d=>by obtain⟨a,b,rfl,f,g⟩:=d;simp[f.length,g.length]
 | .sl T,_,_,d=>by obtain⟨v,rfl,_⟩:=d;rfl
 | .pr A B,_,_,d=>by obtain⟨a,b,rfl,f,g⟩:=d;simp[dq.length A _ _ f,dq.length B _ _ g]
def uK(b:Bool)(vs:E aT):aT:=match b with
 |true=> .agg vs.toArray
 |false=>vs.headD undef
structure MP where
 p:FH->aT->Prop
 mono:∀H a v,cL H a->p H v->p a v
inductive C where
 |any
 |B (b:Bool)
 |I (k:p8) (n:Int)
 |V (v:aT)
 |S (T:ET) (xs:List T.den)
 |P (d a:G)
 |X (d:G)
 |Y (d:G) (n i a:G)
 |E (T:ET) (x:T.den) (a:G)
 |M (m:MP)
 |L (d a len:G) (cap:aw G)
 |W (d a len:G)
inductive AV where
 |c (x:C)
 |a (b:E C)
 |t (vs:E (Bool×E C))
def av:(T:ET)->T.den->E C
 | .int k,n=>[.I k n]
 | .bool,b=>[.B b]
 | .z,z=>[.B (cD z),.S (.int .u32)<|fo z]
 | .q,a=>[.B (cD a.num),.S (.int .u32)<|fo a.num,.B<|cD (a.den:V),.S (.int .u32)<|fo (a.den:V)]
 | .sl T,xs=>[.S T xs]
 | .pr A B,x=>av A x.1++av B x.2
structure Gh where
 H:FH
 γ:G->aT
def cO:aT->aw G
 | .pointer (ad a)=>ad a.block
 | .slice (ad a) _ _=>ad a.block
 | .map (ad b)=>ad b
 |_=>none
def de(g:Gh):C->aT->Prop
 | .any,_=>True
 | .B b,v=>v= .bool b
 | .I k n,v=>v= .int k n
 | .V u,v=>v=u
 | .S T xs,v=>nl (dq g.H T) T.n g.H xs v
 | .P id off,v=>∃b,cO (g.γ id)=ad b/\v= .pointer (ad ⟨b,off,none⟩)
 | .X id,v=>v=g.γ id
 | .Y id n i off,v=>∃b a f,g.γ id= .slice (ad ⟨b,0,none⟩) a f/\v= .pointer (ad ⟨b,i*n+off,none⟩)
 | .E T x off,v=>∃b t l,v= .pointer (ad ⟨b,t+off,none⟩)/\dq g.H T x l/\∀s(z:s<Z l),g.H b (t+s)=ad l[s]
 | .M m,v=>m.p g.H v
 | .L id off a (ad d),v=>∃b,cO (g.γ id)=ad b/\v= .slice (ad ⟨b,off,none⟩) a d
 | .L id off a none,v=>off=0/\∃b d,g.γ id= .slice (ad ⟨b,0,none⟩) 0 d/\v= .slice (ad ⟨b,0,none⟩) a d/\a<=d
 | .W id off a,v=>∃b d,cO (g.γ id)=ad b/\v= .slice (ad ⟨b,off,none⟩) a d/\a<=d
def a6(g:Gh):E C->E aT->Prop
 |[],vs=>vs=[]
 |b::cs,vs=>∃v a,vs=v::a/\de g b v/\a6 g cs a
def CQ(g:Gh):Bool×E C->aT->Prop
 | (ae,cs),v=>∃vs,v= .agg vs.toArray/\a6 g cs vs
 | (ah,[a]),v=>de g a v
 | (ah,_),_=>False
def dK(g:Gh):E (Bool×E C)->E aT->Prop
 |[],vs=>vs=[]
 |s::b,vs=>∃v a,vs=v::a/\CQ g s v/\dK g b a
def bh(g:Gh):AV->aT->Prop
 | .c x,v=>de g x v
 | .a cs,v=>∃vs,v= .agg vs.toArray/\a6 g cs vs
 | .t b,v=>∃vs,v= .tuple vs.toArray/\dK g b vs
def a6.length{g:Gh}:∀{b:E C}{vs:E aT},a6 g b vs->Z vs=Z b
 |[],_,a=>by simp[a6]at a;subst a;rfl
 |_::b,_,a=>by obtain⟨v,d,rfl,_,a⟩:=a;simp[a6.length a]
def a6.append{g:Gh}:∀{b d:E C}{vs f:E aT},a6 g b vs->a6 g d f->a6 g (b++d) (vs++f)
 |[],_,_,_,a,k=>by simp[a6]at a;subst a;exact k
 |_::b,_,_,_,a,k=>by obtain⟨v,m,rfl,i,l⟩:=a;exact⟨v,_,J,i,a6.append l k⟩
def amj{g:Gh}{a v}(b:Fw g.H a v):de g (.S (.int .u32) a) v:=b
def M4{g:Gh}{z vs}(a:tu g.H z vs):a6 g (av .z z) vs:=by obtain⟨m,rfl,a⟩:=a;exact⟨_,_,J,J,_,_,J,amj a,J⟩
def AS{g:Gh}:∀(T:ET)(x:T.den)(vs:E aT),dq g.H T x vs->a6 g (av T x) vs
 | .int _,_,_,d=>by simp[dq]at d;subst d;exact⟨_,_,J,J,J⟩
 | .bool,_,_,d=>by simp[dq]at d;subst d;exact⟨_,_,J,J,J⟩
 | .z,_,_,d=>M4 d
 | .q,k,_,d=>by obtain⟨a,b,rfl,f,i⟩:=d;exact a6.append (M4 f)<|M4 i
 | .sl T,_,_,d=>by obtain⟨v,rfl,d⟩:=d;exact⟨_,_,J,d,J⟩
 | .pr A B,_,_,d=>by obtain⟨a,b,rfl,f,i⟩:=d;exact a6.append (AS A _ _ f)<|AS B _ _ i
def IV{g:Gh}:∀{cs ds:E C}{vs:E aT},a6 g (cs++ds) vs->∃a b,vs=a++b/\a6 g cs a/\a6 g ds b
 |[],_,vs,d=>⟨[],vs,J,J,d⟩
 |_::cs,_,_,d=>by obtain⟨v,m,rfl,f,i⟩:=d;obtain⟨a,b,rfl,k,l⟩:=IV i;exact⟨v::a,b,J,⟨v,a,J,f,k⟩,l⟩
def Tk{g:Gh}{z vs}(d:a6 g (av .z z) vs):tu g.H z vs:=by obtain⟨v,r,rfl,a,m,i,rfl,f,b⟩:=d;simp[a6]at b;simp[de]at a;subst b a;exact⟨m,J,f⟩
def CR{g:Gh}:∀(T:ET)(x:T.den)(vs:E aT),a6 g (av T x) vs->dq g.H T x vs
 | .int _,_,_,f=>by obtain⟨v,k,rfl,i,d⟩:=f;simp[a6]at d;simp[de]at i;subst i d;rfl
 | .bool,_,_,f=>by obtain⟨v,k,rfl,i,d⟩:=f;simp[a6]at d;simp[de]at i;subst i d;rfl
 | .z,_,_,f=>Tk f
 | .q,k,vs,f=>by obtain⟨a,b,rfl,i,d⟩:=IV (cs:=av .z k.num) (ds:=av .z (k.den:V)) f;exact⟨a,b,J,Tk i,Tk d⟩
 | .sl T,_,_,f=>by obtain⟨v,k,rfl,i,d⟩:=f;simp[a6]at d;subst d;exact⟨v,J,i⟩
 | .pr A B,x,vs,f=>by obtain⟨a,b,rfl,i,d⟩:=IV (cs:=av A x.1) (ds:=av B x.2) f;exact⟨a,b,J,CR A _ _ i,CR B _ _ d⟩
def C.ak:C->List G
 | .P id _=>[id]
 | .X id=>[id]
 | .Y id _ _ _=>[id]
 | .L id _ _ _=>[id]
 | .W id _ _=>[id]
 |_=>[]
def b6:E C->E G
 |[]=>[]
 |a::cs=>a.ak++b6 cs
def et:E (Bool×E C)->E G
 |[]=>[]
 |s::a=>b6 s.2++et a
def AV.ak:AV->E G
 | .c x=>x.ak
 | .a cs=>b6 cs
 | .t b=>et b
structure gN(a:G->Prop)(g d:Gh):Prop where
 H:cL g.H d.H
 γ:∀b,a b->d.γ b=g.γ b
def de.mono{known:G->Prop}{g g':Gh}(f:gN known g g'):∀{n:C}{v:aT},(∀d∈n.ak,known d)->de g n v->de g' n v
 | .any,_,_,_=>trivial
 | .B _,_,_,a=>a
 | .I _ _,_,_,a=>a
 | .V _,_,_,a=>a
 | .S T _,_,_,a=>nl.mono a f.H<|λx p=>dq.mono f.H T x p
 | .P d _,_,i,a=>by let ⟨b,k,a⟩:=a;exact⟨b,by rw[f.γ d (i d Fy)];exact k,a⟩
 | .X d,_,i,a=>by simp[de]at a⊢;rw[f.γ d (i d Fy)];exact a
 | .Y d _ _ _,_,i,a=>by let ⟨b,l,n,k,a⟩:=a;exact⟨b,l,n,by rw[f.γ d (i d Fy)];exact k,a⟩
 | .E T _ _,_,_,a=>by let ⟨b,o,p,k,s,h2⟩:=a;exact⟨b,o,p,k,dq.mono f.H T _ _ s,λj t=>f.H _ _ _<|h2 j t⟩
 | .M m,_,_,a=>m.mono _ _ _ f.H a
 | .L d _ _ (ad _),_,i,a=>by let ⟨b,k,a⟩:=a;exact⟨b,by rw[f.γ d (i d Fy)];exact k,a⟩
 | .L d _ _ none,_,i,a=>by let ⟨u,b,n,k,a⟩:=a;exact⟨u,b,n,by rw[f.γ d (i d Fy)];exact k,a⟩
 | .W d _ _,_,i,a=>by let ⟨b,n,k,a⟩:=a;exact⟨b,n,by rw[f.γ d (i d Fy)];exact k,a⟩
def a6.mono{known:G->Prop}{g g':Gh}(i:gN known g g'):∀{d:E C}{vs:E aT},(∀b∈b6 d,known b)->a6 g d vs->a6 g' d vs
 |[],_,_,f=>f
 |_::_,_,k,f=>by let ⟨v,l,m,n,h2⟩:=f;exact⟨v,l,m,de.mono i (λb a=>k b<|by simp[b6,a]) n,a6.mono i (λb a=>k b<|by simp[b6,a]) h2⟩
def CQ.mono{known:G->Prop}{g g':Gh}(i:gN known g g'):∀{s:Bool×E C}{v:aT},(∀b∈b6 s.2,known b)->CQ g s v->CQ g' s v
 | (ae,_),_,d,a=>by let ⟨vs,k,a⟩:=a;exact⟨vs,k,a6.mono i d a⟩
 | (ah,[c]),_,d,a=>de.mono i (λb f=>d b<|by simp[b6,f]) a
 | (ah,[]),_,_,a=>a
 | (ah,_::_::_),_,_,a=>a
def dK.mono{known:G->Prop}{g g':Gh}(i:gN known g g'):∀{d:E (Bool×E C)}{vs:E aT},(∀b∈et d,known b)->dK g d vs->dK g' d vs
 |[],_,_,f=>f
 |_::_,_,k,f=>by let ⟨v,l,m,n,h2⟩:=f;exact⟨v,l,m,CQ.mono i (λb a=>k b<|by simp[et,a]) n,dK.mono i (λb a=>k b<|by simp[et,a]) h2⟩
def bh.mono{known:G->Prop}{g g':Gh}(f:gN known g g'):∀{x:AV}{v:aT},(∀k∈x.ak,known k)->bh g x v->bh g' x v
 | .c _,_,d,b=>de.mono f d b
 | .a _,_,d,b=>by let ⟨vs,i,b⟩:=b;exact⟨vs,i,a6.mono f d b⟩
 | .t _,_,d,b=>by let ⟨vs,i,b⟩:=b;exact⟨vs,i,dK.mono f d b⟩
section
variable{κ ι:Type}[DecidableEq κ]
def aD(u:E (κ×aw ι))(k:κ):aw (aw ι):=
 match u with
 |[]=>none
 | (a,x)::r=>if a=k then ad x else aD r k
def bw(a:κ->aw ι)(u:E (κ×aw ι)):κ->aw ι:=λk=>
 match aD u k with
 |some x=>x
 |none=>a k
def fold(b:G->E (κ×aw ι))(a:κ->aw ι)(s:E G):κ->aw ι:=s.foldl (λa i=>bw a<|b i) a
def qM(u:E (κ×aw ι))(k:κ):Bool:=(aD u k).isSome
def amk{b:κ->aw ι}{u:E (κ×aw ι)}{k:κ}(a:qM u k=ah):bw b u k=b k:=by
 unfold qM at a;unfold bw;cases d:aD u k with
 |none=>rfl
 |some x=>rw[d]at a;simp at a
def aml{b a:κ->aw ι}{u:E (κ×aw ι)}{k:κ}(d:b k=a k):bw b u k=bw a u k:=by unfold bw;rw[d]
def aaD(b:G->E (κ×aw ι))(k:κ):∀(s:E G){f a:κ->aw ι},f k=a k->fold b f s k=fold b a s k
 |[],_,_,d=>d
 |i::s,_,_,d=>aaD b k s<|aml d
def fold_filter(a:G->E (κ×aw ι))(k:κ):∀(s:E G)(b:κ->aw ι),fold a b s k=fold a b (s.filter λi=>qM (a i) k) k
 |[],_=>rfl
 |i::s,b=>by
  cases h:qM (a i) k with
  |true=>
   rw[amm fg]
   exact fold_filter a k s _
  |false=>
   rw[amn (by simp[h])]
   rw[<-(fold_filter a k s b)]
   exact aaD a k s<|amk h
def Tl(a:G->E (κ×aw ι))(b:κ->aw ι)(s:E G)(i:G):fold a b (s++[i])=bw (fold a b s) (a i):=by simp[fold]
def Tm:∀{l m:E G},l.Pairwise (·<·)->m.Pairwise (·<·)->(∀x,x∈l↔x∈m)->l=m
 |[],[],_,_,_=>rfl
 |[],k::m,_,_,d=>aF ((d k).2<|CS) au
 |x::l,[],_,_,d=>aF ((d x).1<|CS) au
 |x::l,k::m,hl,hm,d=>by
  have f:=lq.1 hl;have g:=lq.1 hm;have p:x=k:=by
   have i:=(d x).1<|CS;have s:=(d k).2<|CS;rcases b7.1 i with e|i
   .exact e
   .rcases b7.1 s with e|s
    .exact e.symm
    .have a:=g.1 x i;have b:=f.1 k s;omega
  subst p;congr 1;refine Tm f.2 g.2<|λz=>?_;constructor
  .intro n;rcases b7.1 ((d z).1<|ls _ n)with e|i
   .have:=f.1 z n;omega
   .exact i
  .intro n;rcases b7.1 ((d z).2<|ls _ n)with e|i
   .have:=g.1 z n;omega
   .exact i
def amo(n:G):(bJ n).Pairwise (·<·):=M5
structure tv(n:G)(a:G->G->Prop)(s:E G):Prop where
 nodup:s.Nodup
 lt:∀i∈s,i<n
 closed:∀p i r,s=p++i::r->∀b,a b i->b∈p
def tv.nil(n:G)(a:G->G->Prop):tv n a []:=⟨List.nodup_nil,au,λp i r h=>by simp at h⟩
def tv.snoc{n:G}{f:G->G->Prop}{s:E G}(l:tv n f s){i:G}(H:i<n)(B:i∉s)(D:∀g,f g i->g∈s):tv n f (s++[i]):=by
 refine⟨?_,?_,?_⟩
 .rw[Tn];exact⟨l.nodup,au,λa m b z=>by simp at z;subst z;exact λe=>B<|e▸m⟩
 .intro g d;rcases bl.1 d with d|d
  .exact l.lt g d
  .simp at d;omega
 .intro p k r A g d;rcases List.eq_nil_or_concat r with rfl|⟨t,x,rfl⟩
  .have u:s=p/\i=k:=by have:=List.append_inj' (s₁:=s) (t₁:=[i]) (s₂:=p) (t₂:=[k]) A J;exact⟨this.1,by simpa using this.2⟩
   obtain⟨rfl,rfl⟩:=u;exact D g d
  .have u:s=p++k::t:=by
    have v:s++[i]=(p++k::t)++[x]:=by rw[A];simp
    exact(List.append_inj' v J).1
   exact l.closed p k t u g d
def tv.aaE{n:G}{b:G->G->Prop}{s:E G}(l:tv n b s)(d:G->Bool)
  (z:∀i m,i<m->m<n->d i=ae->d m=ae->b i m):(s.filter d).Pairwise (·<·):=by
 have t:∀p r,s=p++r->(r.filter d).Pairwise (·<·):=by
  intro p r;induction r generalizing p with
  |nil=>intro _;simp
  |cons x r A=>
   intro f
   have g:=A (p++[x]) (by rw[f];simp)
   cases hx:d x with
   |false=>rw[amn mW];exact g
   |true=>
    rw[amm hx,lq]
    refine⟨λy B=>?_,g⟩
    let ⟨k,u⟩:=qN.1 B
    have v:x∈s:=by rw[f];simp
    have C:x≠y:=by intro e;have:=l.nodup;rw[f,Tn]at this;have:=this.2.1;rw[AT]at this;exact this.1<|e▸k
    rcases r7 x y with a|D
    .exact a
    .have a:y<x:=by omega
     have:=l.nodup;rw[f,Tn]at this;exact aF J<|this.2.2 y (l.closed p x r f y<|z y x a (l.lt x v) u hx) y<|ls _ k
 exact t [] s J
def aaF(n:G)(a:G->Bool):((bJ n).filter a).Pairwise (·<·):=(amo n).filter _
def tv.read{n:G}{d:G->G->Prop}{s:E G}(m:tv n d s)(f:G->E (κ×aw ι))(A:κ->aw ι)(k:κ)(i:G)(W:i<n)(B:i∉s)
  (H:∀D,d D i->D∈s)
  (N:∀a b,a<b->b<n->qM (f a) k=ae->qM (f b) k=ae->d a b)
  (P:∀a,a<i->qM (f a) k=ae->d a i) (Q:∀b,i<b->b<n->qM (f b) k=ae->d i b):
  fold f A s k=fold f A (bJ i) k:=by
 rw[fold_filter f k s,fold_filter f k<|bJ i]
 congr 1
 refine Tm (m.aaE _<|λa b t u K T=>N a b t u K T) (aaF i _)<|λx=>?_
 rw[qN,qN,qO]
 constructor
 .rintro⟨g,l⟩;refine⟨?_,l⟩;rcases To x i with v|he|z
  .exact v
  .exact aF g<|he▸B
  .let ⟨p,r,C⟩:=Tp g;have:=m.closed p x r C i<|Q x z (m.lt x g) l;exact aF (by rw[C];exact eT _ this) B
 .rintro⟨g,l⟩;exact⟨H x<|P x g l,l⟩
def tv.all{n:G}{f:G->G->Prop}{s:E G}(p:tv n f s)(d:G->E (κ×aw ι))(t:κ->aw ι)(g:∀i,i<n->i∈s)
  (u:∀k a b,a<b->b<n->qM (d a) k=ae->qM (d b) k=ae->f a b):fold d t s=fold d t (bJ n):=by
 funext k
 rw[fold_filter d k s,fold_filter d k<|bJ n]
 congr 1
 refine Tm (p.aaE _<|λa b l v z A=>u k a b l v z A) (aaF n _)<|λx=>?_
 rw[qN,qN,qO]
 exact⟨λ⟨m,q⟩=>⟨p.lt x m,q⟩,λ⟨m,q⟩=>⟨g x m,q⟩⟩
end
inductive aA where
 |box (E:eI) (sz:G) (b:List C)
 |vec (E:eI) (T:ET) (xs:List T.den)
 |eB (f:FuncId) (first caps:List (Bool×List C))
 |fz (E:eI) (b:List C)
 |mp (d g:Bool) (xs:List (List C×List C))
 |it (m n:G) (a:List G)
inductive Key where
 |s (t:G)
 |m (a:G)
 deriving DecidableEq
inductive Info where
 |v (x:AV)
 |b (x:aA)
def lZ:E (E C×E C)->E G
 |[]=>[]
 |x::xs=>b6 x.1++(b6 x.2++lZ xs)
def aA.ak:aA->E G
 | .box _ _ cs=>b6 cs
 | .vec _ _ _=>[]
 | .eB _ first caps=>et first++et caps
 | .fz _ cs=>b6 cs
 | .mp _ _ xs=>lZ xs
 | .it m _ _=>[m]
def Info.ak:Info->E G
 | .v x=>x.ak
 | .b x=>x.ak
abbrev Kn:=Key->aw Info
def jr(g:Gh)(b d:Bool):G->E (E C×E C)->E MapEntry->Prop
 |_,[],es=>es=[]
 |n,x::xs,es=>∃a f,es=a::f/\a.born=n/\(∃i,a.key=uK b i/\a6 g x.1 i)/\(∃vs,a.val=uK d vs/\a6 g x.2 vs)/\jr g b d (n+1) xs f
def jr.mono{known:G->Prop}{g g':Gh}(d:gN known g g'){l m:Bool}:∀{n:G}{xs:E (E C×E C)}{p:E MapEntry},(∀b∈lZ xs,known b)->jr g l m n xs p->jr g' l m n xs p
 |_,[],_,_,s=>s
 |_,_::_,_,f,⟨t,u,v,h2,⟨x,z,i⟩,⟨vs,A,k⟩,B⟩=>⟨t,u,v,h2,⟨x,z,a6.mono d (λb a=>f b<|by simp[lZ,a]) i⟩,⟨vs,A,a6.mono d (λb a=>f b<|by simp[lZ,a]) k⟩,jr.mono d (λb a=>f b<|by simp[lZ,a]) B⟩
def Sub(H:FH)(a:cJ):Prop:=∀b o v,H b o=ad v->a.cell? ⟨b,o,none⟩=ad v
def gW(N:G->Prop)(g:Gh)(W:cJ)(k:G):aA->Prop
 | .box p sz cs=>∃b,∃vs rest:E aT,cO (g.γ k)=ad b/\W.heap[b]? =ad (.cells (vs++rest).toArray p (0,0))/\a6 g cs vs/\N b/\(∀a,g.H b a=none)/\(sz≠0->∃s,g.γ k= .slice (ad ⟨b,0,none⟩) 0 s/\Z (vs++rest)=s*sz)
 | .vec p T xs=>(g.γ k= .slice none 0 0/\xs=[])\/∃b l,∃vs:E aT,g.γ k= .slice (ad ⟨b,0,none⟩) (Z xs) l/\W.heap[b]? =ad (.cells vs.toArray p (0,0))/\
   Z vs=l*T.n/\Z xs<=l/\Z xs*T.n<=140737488355328/\(∀i(A:i<Z xs),dq g.H T xs[i] ((az (i*T.n) vs).take T.n))/\N b/\∀a,g.H b a=none
 | .eB f first caps=>∃t u:E aT,g.γ k= .func (.func f) t.toArray u.toArray/\dK g first t/\dK g caps u
 | .fz p cs=>∃b,∃vs rest:E aT,cO (g.γ k)=ad b/\W.heap[b]? =ad (.cells (vs++rest).toArray p (0,0))/\a6 g cs vs/\N b/\(∀a,g.H b a=(vs++rest)[a]?)
 | .mp x z xs=>∃d,∃v:Array MapEntry,g.γ k= .map (ad d)/\W.heap[d]? =ad (.map v<|Z xs)/\jr g x z 0 xs v.toList/\N d/\(∀a,g.H d a=none)
 | .it m n seen=>∃d b,g.γ k= .pointer (ad ⟨d,0,none⟩)/\g.γ m= .map (ad b)/\W.heap[d]? =ad (.mapIter (ad b) n seen.toArray n)/\N d/\(∀a,g.H d a=none)
structure dO where
 w0:cJ
 H0:FH
 n:G
 own:G->Prop:=λ_=>False
 k0:G:=0
 γ0:G->aT:=λ_=>undef
 ds:E Deferred:=[]
 rd:aw G:=none
def dO.N(a:dO)(b:G):Prop:=a.w0.heap.size<=b\/a.own b
structure Fz(own:G->Prop)(w a:cJ):Prop where
 os:a.os=w.os
 tape:a.tape=w.tape
 output:a.output=w.output
 size:w.heap.size<=a.heap.size
 block:∀k,k<w.heap.size->¬own k->a.heap[k]? =w.heap[k]?
structure aR(i:dO)(f:G->Prop)(p:Kn)(g:Gh)(W:cJ)(a:Act):Prop where
 size:a.tmps.size=i.n
 defers:a.defers=i.ds
 dW:∀t v,p (.s t)=ad (.v v)->bh g v (a.tmps.getD t undef)
 cM:∀d b,p (.m d)=ad (.b b)->gW i.N g W d b
 inj:∀d l b u k,p (.m d)=ad (.b b)->p (.m l)=ad (.b u)->cO (g.γ d)=ad k->cO (g.γ l)=ad k->d=l
 ak:∀k x,p k=ad x->∀d∈x.ak,f d
 dX:∀d x,p (.m d)=ad x->f d
 sub:Sub g.H W
 below:Fz i.own i.w0 W
 le:cL i.H0 g.H
 fresh:∀b o,b<i.w0.heap.size->¬i.own b->g.H b o=i.H0 b o
 fT:∀d,d<i.k0->f d/\g.γ d=i.γ0 d
structure Ext(a f:G->Prop)(g:Gh)(W:cJ)(i:Gh)(d:cJ):Prop where
 le:gN a g i
 fresh:∀b o,b<W.heap.size->i.H b o=g.H b o
 sub:Sub i.H d
 size:W.heap.size<=d.heap.size
 heap:∀k,k<W.heap.size->(∀l,f l->cO (g.γ l)≠ad k)->d.heap[k]? =W.heap[k]?
 os:d.os=W.os
 tape:d.tape=W.tape
 output:d.output=W.output
def gW.block{N:G->Prop}{g}{W}{p}{b}(l:gW N g W p b){k}(a:cO (g.γ p)=ad k):N k/\k<W.heap.size:=by
 cases b with
 |box E sz cs=>
  let ⟨b,vs,rest,e,d,_,i,_⟩:=l
  rw[e]at a
  simp at a
  subst a
  exact⟨i,(fY.1 d).1⟩
 |vec E T xs=>
  rcases l with⟨e,_⟩|⟨b,s,vs,e,d,_,_,_,_,i,_⟩
  .rw[e]at a;simp[cO]at a
  .rw[e]at a;simp[cO]at a;subst a;exact⟨i,(fY.1 d).1⟩
 |eB f first caps=>
  let ⟨us,ws,e,_⟩:=l
  rw[e]at a;simp[cO]at a
 |fz E cs=>
  let ⟨b,vs,rest,e,d,_,i,_⟩:=l
  rw[e]at a
  simp at a
  subst a
  exact⟨i,(fY.1 d).1⟩
 |mp t u xs=>
  let ⟨r,es,e,d,_,i,_⟩:=l
  rw[e]at a
  simp[cO]at a
  subst a
  exact⟨i,(fY.1 d).1⟩
 |it m n seen=>
  let ⟨r,b,e,_,d,i,_⟩:=l
  rw[e]at a
  simp[cO]at a
  subst a
  exact⟨i,(fY.1 d).1⟩
def gW.step{known chg:G->Prop}{N:G->Prop}{g g'}{W W'}{id}{b}(v:gW N g W id b)(hx:Ext known chg g W g' W')
  (aY:known id) (x:∀a∈b.ak,known a) (s:∀a k,chg a->cO (g.γ id)=ad k->cO (g.γ a)≠ad k):gW N g' W' id b:=by
 cases b with
 |box E sz cs=>
  let ⟨b,vs,rest,e,d,hr,t,u,hc⟩:=v
  have l:b<W.heap.size:=(fY.1 d).1
  refine⟨b,vs,rest,CT,?_,a6.mono hx.le x hr,t,λo=>by rw[hx.fresh b o l];exact u o,by rw[hx.le.γ id aY];exact hc⟩
  rw[hx.heap b l (λa p=>s a b p e)];exact d
 |vec E T xs=>
  rcases v with⟨e,z⟩|⟨b,A,vs,e,d,B,C,D,K,t,u⟩
  .exact .inl ⟨CT,z⟩
  .have l:b<W.heap.size:=(fY.1 d).1;refine .inr ⟨b,A,vs,CT,?_,B,C,D,λi P=>dq.mono hx.le.H T _ _<|K i P,t,λo=>by rw[hx.fresh b o l];exact u o⟩;rw[hx.heap b l (λa p=>s a b p vO)];exact d
 |eB f first caps=>
  let ⟨us,ws,e,B,C⟩:=v
  exact⟨us,ws,CT,dK.mono hx.le (λa p=>x a<|eT _ p) B,dK.mono hx.le (λa p=>x a<|gO _ p) C⟩
 |fz E cs=>
  let ⟨b,vs,rest,e,d,hr,t,u⟩:=v
  have l:b<W.heap.size:=(fY.1 d).1
  refine⟨b,vs,rest,CT,?_,a6.mono hx.le x hr,t,λo=>by rw[hx.fresh b o l];exact u o⟩
  rw[hx.heap b l (λa p=>s a b p e)];exact d
 |mp X c xs=>
  let ⟨r,es,e,d,hr,t,u⟩:=v
  have l:r<W.heap.size:=(fY.1 d).1
  refine⟨r,es,CT,?_,jr.mono hx.le x hr,t,λo=>by rw[hx.fresh r o l];exact u o⟩
  rw[hx.heap r l (λa p=>s a r p vO)];exact d
 |it m n seen=>
  let ⟨r,b,e,Q,d,t,u⟩:=v
  have l:r<W.heap.size:=(fY.1 d).1
  refine⟨r,b,CT,by rw[hx.le.γ m (x m<|by simp[aA.ak])];exact Q,?_,t,λo=>by rw[hx.fresh r o l];exact u o⟩
  rw[hx.heap r l (λa p=>s a r p vO)];exact d
def aR.step{hZ}{known chg:G->Prop}{D}{g g'}{W W'}{a a'}(i:aR hZ known D g W a)(A:Ext known chg g W g' W')
 wr new (IW:¬known new)
  (iu:a'.tmps.size=a.tmps.size) (hdf:a'.defers=hZ.ds)
  (amq:∀t,aD wr (.s t)=none->a'.tmps.getD t undef=a.tmps.getD t undef)
  (T:∀d,chg d->aD wr (.m d)≠none/\∃b,D (.m d)=ad (.b b))
  (hs:∀t v,aD wr (.s t)=ad (ad<|.v v)->bh g' v (a'.tmps.getD t undef))
  (hb:∀d b,aD wr (.m d)=ad (ad<|.b b)->gW hZ.N g' W' d b/\((known d/\∃P,D (.m d)=ad (.b P))\/(d=new/\∀k,cO (g'.γ d)=ad k->W.heap.size<=k\/∃z P,D (.m z)=ad (.b P)/\aD wr (.m z)=ad none/\cO (g.γ z)=ad k)))
  (hm:∀k x,aD wr k=ad (ad x)->∀d∈x.ak,known d\/d=new)
  (nW:∀d x,aD wr (.m d)=ad (ad x)->known d\/d=new):
  aR hZ (λd=>known d\/d=new) (bw D wr) g' W' a':=by
 have u:∀k x,bw D wr k=ad x->(aD wr k=none/\D k=ad x)\/aD wr k=ad (ad x):=by
  intro k x l;unfold bw at l;cases X:aD wr k with
  |none=>rw[X]at l;exact .inl ⟨J,l⟩
  |some y=>rw[X]at l;simp only at l;rw[l];exact .inr J
 refine⟨by rw[iu];exact i.size,hdf,?_,?_,?_,?_,?_,A.sub,?_,i.le.trans A.le.H,?_,λd f=>⟨.inl (i.fT d f).1,by rw[A.le.γ d (i.fT d f).1];exact(i.fT d f).2⟩⟩
 .intro t v ht;rcases u _ _ ht with⟨n,p⟩|n
  .rw[amq t n];exact bh.mono A.le (λd f=>i.ak _ _ p d f)<|i.dW t v p
  .exact hs t v n
 .intro d b f;rcases u _ _ f with⟨n,p⟩|n
  .refine(i.cM d b p).step A (i.dX _ _ p) (λz R=>i.ak _ _ p z R)<|λz k R l S=>?_;let ⟨B,P,C⟩:=T z R;have:=i.inj d z b P k p C l S;subst this;exact B n
  .exact(hb d b n).1
 .intro d e b P k f I l q;have low:∀d b,(aD wr (.m d)=none/\D (.m d)=ad (.b b))\/aD wr (.m d)=ad (ad<|.b b)->cO (g'.γ d)=ad k->
    (∃K,D (.m d)=ad (.b K)/\cO (g.γ d)=ad k/\k<W.heap.size/\aD wr (.m d)≠ad none)\/(d=new/\(W.heap.size<=k\/∃z P,D (.m z)=ad (.b P)/\aD wr (.m z)=ad none/\cO (g.γ z)=ad k)):=by
   intro d b r l
   rcases r with⟨n,p⟩|n
   .rw[A.le.γ d (i.dX _ _ p)]at l;exact .inl ⟨b,p,l,((i.cM d b p).block l).2,by rw[n];simp⟩
   .rcases(hb d b n).2 with⟨U,K,p⟩|⟨rfl,V⟩
    .rw[A.le.γ d U]at l;exact .inl ⟨K,p,l,((i.cM d K p).block l).2,by rw[n];simp⟩
    .exact .inr ⟨J,V k l⟩
  rcases low d b (u _ _ f) l with⟨c,n,p,Y,h4⟩|⟨e1,Y⟩<;>rcases low e P (u _ _ I) q with⟨c',L,M,w,Z⟩|⟨e1',w⟩
  .exact i.inj d e c c' k n L p M
  .rcases w with w|⟨z,bj,B,C,E⟩
   .omega
   .have:=i.inj d z c bj k n B p E;subst this;exact aF C h4
  .rcases Y with Y|⟨z,bj,B,C,E⟩
   .omega
   .have:=i.inj e z c' bj k L B M E;subst this;exact aF C Z
  .rw[e1,e1']
 .intro k x l d f;rcases u _ _ l with⟨_,p⟩|n
  .exact .inl<|i.ak _ _ p d f
  .exact hm k x n d f
 .intro d x l;rcases u _ _ l with⟨_,p⟩|n
  .exact .inl<|i.dX _ _ p
  .exact nW d x n
 .refine⟨A.os.trans i.below.os,A.tape.trans i.below.tape,A.output.trans i.below.output,br i.below.size A.size,λk l Q=>?_⟩;have q:k<W.heap.size:=gK l i.below.size;rw[<-i.below.block k l Q];refine A.heap k q<|λd f IX=>?_;let ⟨_,b,hσ⟩:=T d f;rcases((i.cM d b hσ).block IX).1 with n|n
  .omega
  .exact Q n
 .intro b o O Q;rw[A.fresh b o (gK O i.below.size)];exact i.fresh b o O Q
def aR.weaken{n}{f b:G->Prop}{p}{g}{W}{a}(d:aR n f p g W a)(m:∀i,f i->b i):aR n b p g W a:=
 ⟨d.size,d.defers,d.dW,d.cM,d.inj,λk x e i l=>m _<|d.ak k x e i l,λi x e=>m _<|d.dX i x e,d.sub,d.below,d.le,d.fresh,λi l=>⟨m _ (d.fT i l).1,(d.fT i l).2⟩⟩
def aR.drew{k}{i:G->Prop}{l}{g}{W}{a}(d:aR k i l g W a):aR k i l g {W with drawn:=W.drawn+1} a:=by
 refine⟨d.size,d.defers,d.dW,?_,d.inj,d.ak,d.dX,d.sub,⟨d.below.os,d.below.tape,d.below.output,d.below.size,d.below.block⟩,d.le,d.fresh,d.fT⟩;intro p b e;have:=d.cM p b e;cases b with
 |box E sz cs=>exact this
 |vec E T xs=>exact this
 |eB f first caps=>exact this
 |fz E cs=>exact this
 |mp s t xs=>exact this
 |it m n seen=>exact this
def dP(a:aw G):Fence:={Fence.wide with round:=a}
def xx(b:aw G)(a:Array a8):Prop:=∀(i:G)(o:a8),a[i]? =ad o->b=none\/∀c,o.op≠ .defer c
def ams{a}:xx none a:=λ_ _ _=> .inl J
def aaG{P}{b:Code}{Q:Exit->Act->cJ->Prop}{a}{d}{r}(f:r=none):b.wpIn (dP r) 0 P Q a d↔b.wp P Q a d:=by subst f;exact wpIn_wide
def M6{P}{d}{i}{K:Act->cJ->Prop}{a}{W}{m}{Q:Exit->Act->cJ->Prop}(B:∀g,d[i]? =ad g->m=none\/∀p,g.op≠ .defer p)(b:wpOp P d (λ_ _ _=>False) i K a W):
  wpOpIn (dP m) 0 P d Q i K a W:=by
 unfold wpOp at b
 unfold wpOpIn
 cases ho:d[i]? with
 |none=>rw[ho]at b;exact b
 |some g=>
  rw[ho]at b
  simp only at b⊢
  split
  .rename_i s;rw[q s]at b;have f:g.wp P a W K (λ_ _ _=>False):=by
    rcases b with b|⟨_,_,_,t⟩
    .exact b
    .exact t.elim
   refine⟨λ_ _=>trivial,?_⟩;have k:(g.semAt (dP m).round a.eval)=execOp a.eval g:=by
    rcases B g ho with u|u
    .subst u;exact Oper.semAt_none _ _
    .exact Oper.semAt_eq _ _ _ u
   rw[k];unfold p' at f;generalize (execOp a.eval g).run P W=x at f;cases x with
   |ok z C=>
    cases z<;>simp only[ph,Oper.uponIn]at f⊢
    all_goals first
     |exact f
     |exact f.elim
     |skip
    .refine⟨λhh=>FA,?_⟩;refine CallsIn.mono (F:=dP m) ((callsIn_wide (n:=0)).2 f)<|λe l k=>?_;cases e with
     |returned v=>exact k
     |panicked p=>exact k.elim
     |outgrown=>let ⟨_,_,t⟩:=k;exact t.elim
    .refine⟨λhh=>FA,?_⟩;intro p H _;let ⟨v,l,hr,A⟩:=f p H;exact⟨v,l,hr,stepsIn_wide.2 A⟩
   |halt z C=>
    cases z<;>simp only[ph]at f⊢<;>exact f.elim
  next s=>rw[y s]at b;exact⟨λ_ _=>trivial,b⟩
def jd(P:bW)(n:G)(f:Array a8)(i:G)(t:E (Key×Info))(u:E (Key×aw Info))(d:G):Prop:=
 ∀(F:dO),F.n=n->∀(Q:Exit->Act->cJ->Prop)(b:G->Prop)(k:Kn)(g:Gh)(W:cJ)(a:Act)(K:Act->cJ->Prop),¬b d->aR F b k g W a->
  (∀l∈t,k l.1=ad l.2)->(∀v m p,aR F (λs=>b s\/s=d) (bw k u) v m p->K p m)->wpOp P f Q i K a W
def uL(P:bW)(n:G)(k:Array a8)(i:G)(t:E (Key×Info))(u:E (Key×aw Info))(d:G->Prop):Prop:=
 ∀(F:dO),F.n=n->∀(Q:Exit->Act->cJ->Prop)(b:G->Prop)(l:Kn)(g:Gh)(W:cJ)(a:Act)(K:Act->cJ->Prop),(∀f,d f->¬b f)->aR F b l g W a->
  (∀m∈t,l m.1=ad m.2)->(∀v p s,aR F (λf=>b f\/d f) (bw l u) v p s->K s p)->wpOp P k Q i K a W
def jd.M7{P}{n}{d}{i}{s}{t}{m}(l:jd P n d i s t m){new:G->Prop}(u:new m):uL P n d i s t new:=by
 intro F v Q b x g W a K f k p z;refine l F v Q b x g W a K (f m u) k p<|λA B C D=>z A B C<|D.weaken ?_;rintro id (l|rfl)
 .exact .inl l
 .exact .inr u
def r8(a:G->G)(i:G):G->Prop:=λb=>a i<=b/\b<a (i+1)
def IZ{a:G->G}(d:∀i,a i<=a (i+1)){i b}(f:i<=b):a i<=a b:=by
 induction f with
 |refl=>exact aL _
 |step _ g=>exact br g<|d _
section
variable{P:bW}{ops:Array a8}{Q:Exit->Act->cJ->Prop}{F:dO}{σ:Kn}{rd:G->E (Key×Info)}{wr:G->E (Key×aw Info)}{nx:G}
def Tq{b}{g}{W}{a}{c:G->G}(t:∀i,c i<=c (i+1))(u:aR F (·<c 0) σ g W a)
  (v:∀i,i<ops.size->uL P F.n ops i (rd i) (wr i) (r8 c i))
  (x:∀i,i<ops.size->∀s∈rd i,fold wr σ (bJ i) s.1=ad s.2)
  (hQ:∀g W a,aR F (·<c ops.size) (fold wr σ<|bJ ops.size) g W a->Q .normal a W) (d:xx F.rd ops):(Code.region b ops ah).wpIn (dP F.rd) 0 P Q a W:=by
 refine wpIn_region ?_
 have f:∀m k,k+m=ops.size->∀g W a,aR F (·<c k) (fold wr σ<|bJ k) g W a->wpOpsIn (dP F.rd) 0 P ops Q (List.range' k m) a W:=by
  intro m;induction m with
  |zero=>intro k l g W a h;simp[jZ]at l;subst l;exact hQ g W a h
  |succ m z=>
   intro k l g W a h
   rw[FB,wpOpsIn_cons]
   refine M6 (d k) ?_
   refine v k Y F J _ (·<c k) _ g W a _ (λb A K=>by simp[r8]at A;omega) h (x k Y)<|λB C D H=>?_
   refine z (k+1) Y B C D ?_
   rw[AU,Tl]
   exact H.weaken (λb p=>by have:=t k;simp[r8]at p;omega)
 have:=f ops.size 0 Y g W a u
 rwa[<-M8]at this
inductive np(ops:Array a8):G->G->Prop where
 |one {i a:G} {o:a8} {e:Edge} (ho:ops[i]? =ad o) (b:e∈o.after) (d:vP .any e=ae) (f:e.on=a):np ops a i
 |more {i a k:G} {o:a8} {e:Edge} (ho:ops[i]? =ad o) (b:e∈o.after) (d:vP .any e=ae) (g:e.on=k) (h:np ops a k):np ops a i
def np.closed{s:E G}{i}(d:∀k∈s,∀b,np ops b k->b∈s)(a:∀l,ops[i]? =ad l->∀m∈l.after,vP .any m=ae->m.on∈s):∀b,np ops b i->b∈s:=by
 intro b f;cases f with
 |one ho he g f=>subst f;exact a _ ho _ he g
 |more ho he g n h=>subst n;exact d _ (a _ ho _ he g) b h
def gw(u:E (Key×aw Info)):E Key:=u.map (·.1)
def dL(u:E (Key×Info)):E Key:=u.map (·.1)
def CU{u}{k:Key}(a:qM u k=ae):k∈gw u:=by
 induction u with
 |nil=>simp[qM,aD]at a
 |cons p u b=>
  let ⟨d,x⟩:=p
  by_cases e:d=k
  .simp[gw,e]
  .have:qM u k=ae:=by simpa[qM,aD,e]using a
   have:=b this;simp only[gw,gX,b7];exact .inr this
def Ts{id}{g}{W}{a}{c:G->G}(hc:∀i,c i<=c (i+1))(lu:P.follows .mixedOrders=ae)(jK:∀i aG u,ops[i]? =ad aG->u∈aG.after->vP .any u=ae->u.on<i)(h0:aR F (·<c 0) σ g W a)
  (hs:∀i,i<ops.size->uL P F.n ops i (rd i) (wr i) (r8 c i))
  (ht:∀i,i<ops.size->∀N∈rd i,fold wr σ (bJ i) N.1=ad N.2)
  (hww:∀i f,i<f->f<ops.size->∀k,k∈gw (wr i)->k∈gw (wr f)->np ops i f)
  (FC:∀i f,i<f->f<ops.size->∀k,k∈gw (wr i)->k∈dL (rd f)->np ops i f)
  (I1:∀i f,i<f->f<ops.size->∀k,k∈dL (rd i)->k∈gw (wr f)->np ops i f)
  (hQ:∀g W a,aR F (·<c ops.size) (fold wr σ<|bJ ops.size) g W a->Q .normal a W) (lv:xx F.rd ops):(Code.region id ops ae).wpIn (dP F.rd) 0 P Q a W:=by
 refine wpIn_region_any lu ?_
 have key:∀z d s g W a,d.size=ops.size->tv ops.size (np ops) s->(∀i,i<ops.size->(d.getD i ae=ae↔i∈s))->z+s.length=ops.size->
   aR F (λid=>id<c 0\/∃i∈s,r8 c i id) (fold wr σ s) g W a->wpAnyIn (dP F.rd) 0 P .any ops Q z d a W:=by
  intro z
  induction z with
  |zero=>
   intro d s g W a O l w y h
   have v:∀i,i<ops.size->i∈s:=by
    intro i B;refine fe λH=>?_
    have lv:(i::s).Nodup:=AT.2 ⟨H,l.nodup⟩;have R:i::s⊆bJ ops.size:=λx S=>by
     rcases b7.1 S with rfl|S
     .exact qO.2 B
     .exact qO.2<|l.lt x S
    have:=lv.length_le_of_subset R;simp at this;omega
   refine⟨?_,?_⟩
   .cases hr:aaI .any ops d with
    |nil=>rfl
    |cons x xs=>
     have S:x∈aaI .any ops d:=by rw[hr];exact CS
     let ⟨U,aG,ho,_⟩:=mem_ready.1 S
     have V:x<ops.size:=(fY.1 ho).1
     have:=(w x V).2<|v x V
     rw[this]at U
     cases U
   .refine hQ g W a ?_;rw[<-l.all wr σ v (λk i f Tt C A E=>hww i f Tt C k (CU A)<|CU E)];refine h.weaken<|λid t=>?_;rcases t with t|⟨i,B,hf⟩
    .exact gK t<|IZ hc<|bg _
    .have:=IZ hc (show i+1<=ops.size from l.lt i B);simp[r8]at hf;omega
  |succ z ih=>
   intro d s g W a O l w y h
   refine⟨λhr=>?_,λi B=>?_⟩
   .exfalso;have hex:∃i,i<ops.size/\i∉s:=by
     refine fe λeZ=>?_
     have v:∀i∈bJ ops.size,i∈s:=λi B=>fe λH=>eZ ⟨i,qO.1 B,H⟩
     have:=(List.nodup_range (n:=ops.size)).length_le_of_subset v;simp at this;omega
    have K:∀m,∀i,i<=m->i<ops.size->i∉s->∃i,i<ops.size/\i∉s/\∀f,f<i->f∈s:=by
     intro m;induction m with
     |zero=>intro i D X Z;exact⟨i,X,Z,λf C=>Y⟩
     |succ m ihm=>
      intro i D X Z
      by_cases C:∃f,f<i/\f∉s
      .let ⟨f,FD,xy⟩:=C;exact ihm f Y Y xy
      .exact⟨i,X,Z,λf E=>fe λH=>C ⟨f,E,H⟩⟩
    let ⟨i0,Tu,Tv⟩:=hex;let ⟨i,B,H,T⟩:=K i0 i0 (aL _) Tu Tv;have:i∈aaI .any ops d:=by
     rw[mem_ready];refine⟨?_,ops[i],by simp[B],λu he I=>?_⟩
     .cases hg:d.getD i ae with
      |false=>rfl
      |true=>exact aF ((w i B).1 hg) H
     .have D:=jK i ops[i] u (by simp[B]) he I;have X:=(w u.on Y).2<|T u.on D;have Z:u.on<d.size:=Y;simpa[Z]using X
    rw[hr]at this;cases this
   .let ⟨M9,aG,ho,v⟩:=mem_ready.1 B;have A:i<ops.size:=(fY.1 ho).1;have H:i∉s:=λr9=>by rw[(w i A).2 r9]at M9;cases M9
    have oF:∀k∈s,∀f,np ops f k->f∈s:=by intro k hk f C;let ⟨p,r,hs'⟩:=Tp hk;rw[hs'];exact eT _<|l.closed p k r hs' f C
    have L:∀o',ops[i]? =ad o'->∀u∈o'.after,vP .any u=ae->u.on∈s:=by
     intro o' ho' u he I;rw[ho]at ho';cases ho';have D:=v u he I;have jK:u.on<ops.size:=by
      rcases r7 u.on d.size with X|X
      .omega
      .simp[Array.getElem?_eq_none X]at D
     refine(w u.on jK).1 ?_;have amu:u.on<d.size:=Y;simpa[amu]using D
    have q:=np.closed oF L;have iB:∀N∈rd i,fold wr σ s N.1=ad N.2:=by intro N cy;have hk:N.1∈dL (rd i):=kd.2 ⟨N,cy,J⟩;rw[l.read wr σ N.1 i A H q (λa b Tw I ha' nq=>hww a b Tw I _ (CU ha')<|CU nq) (λa ha hwa=>FC a i ha A _ (CU hwa) hk) (λb I hbn hwb=>I1 i b I hbn _ hk<|CU hwb)];exact ht i A N cy
    refine M6 (lv i)<|hs i A F J _ _ _ g W a _ (λid hf uM=>?_) h iB<|λg' W' a' h'=>?_
    .rcases uM with uM|⟨f,C,u⟩
     .have:=IZ hc<|bg i;simp[r8]at hf;omega
     .have:i=f:=by
       simp[r8]at hf u;rcases To i f with D|D|D
       .have:=IZ hc (show i+1<=f from D);omega
       .exact D
       .have:=IZ hc (show f+1<=i from D);omega
      exact H<|this▸C
    .refine ih (d.setIfInBounds i ae) (s++[i]) g' W' a' (by simp[O]) (l.snoc A H q) (λf C=>?_) cd ?_
     .by_cases M:f=i
      .subst M;have:f<d.size:=Y;simp[this]
      .rw[getD_set_ne ae (Ne.symm M),w f C];simp[M]
     .rw[Tl];refine h'.weaken<|λid t=>?_;rcases t with(t|⟨f,C,u⟩)|t
      .exact .inl t
      .exact .inr ⟨f,eT _ C,u⟩
      .exact .inr ⟨i,au,t⟩
 refine key ops.size _ [] g _ a au (tv.nil _ _) (λi B=>?_) au<|h0.drew.weaken<|λid t=> .inl t
 .simp[B]
end
def iJ{a:Type}(t:G):E (G×a)->aw a
 |[]=>none
 | (k,x)::b=>if k=t then ad x else iJ t b
inductive ZV where
 |b|i (k:p8)|s|f|t|p|m
def ZV.fU:ZV->aT
 | .b=> .bool ah
 | .i k=> .int k 0
 | .s=> .slice none 0 0
 | .f=> .nilFunc
 | .t=> .string ⟨⟨[]⟩⟩
 | .p=> .pointer none
 | .m=> .map none
def ZV.qP:ZV->C
 | .b=> .B ah
 | .i k=> .I k 0
 | .s=> .V<|.slice none 0 0
 | .f=> .V .nilFunc
 | .t=> .V<|.string ⟨⟨[]⟩⟩
 | .p=> .V<|.pointer none
 | .m=> .V<|.map none
def ZV.ok:ZV->aT->Bool
 | .b,.bool ah=>ae
 | .i k,.int a n=>k=a&&n=0
 | .s,.slice none 0 0=>ae
 | .f,.nilFunc=>ae
 | .t,.string ⟨⟨[]⟩⟩=>ae
 | .p,.pointer none=>ae
 | .m,.map none=>ae
 |_,_=>ah
def ZV.ok_eq:∀{z:ZV}{v:aT},z.ok v=ae->v=z.fU:=by
 intro z v h;unfold ZV.ok at h;split at h
 .rfl
 .simp at h;obtain⟨rfl,rfl⟩:=h;rfl
 .rfl
 .rfl
 .rfl
 .rfl
 .rfl
 .cases h
inductive TK where
 |int (k:p8)|bool|sl (E:G)|st|arr (len E:G)|str|map (K V:G)|other
structure TI where
 kind:TK
 size:G
 bytes:G
 fields:E (G×G×Bool)
 zero:E ZV
abbrev TT:=E<|G×TI
def TI.agg(t:TI):Bool:=match t.kind with| .st=>ae| .arr _ _=>ae|_=>ah
def xA(P:bW)(t:eI):aw Bool:=match P.underlying t with
 |some (.struct _)=>ad ae
 |some (.array _ _)=>ad ae
 |some _=>ad ah
 |none=>none
def FE:E ZV->E aT->Bool
 |[],[]=>ae
 |z::a,v::vs=>z.ok v&&FE a vs
 |_,_=>ah
def Tx:∀{b:E ZV}{vs:E aT},FE b vs=ae->vs=b.map ZV.fU
 |[],[],_=>rfl
 |_::_,_::_,a=>by simp[FE]at a;simp[ZV.ok_eq a.1,Tx a.2]
 |[],_::_,a=>by simp[FE]at a
 |_::_,[],a=>by simp[FE]at a
def Na:aT->Bool
 | .agg _=>ae
 |_=>ah
def amz{v}{l}{b}(h:(Na v==b)=ae)(a:v.cells.toList=l):v=uK b l:=by
 have d:Na v=b:=fg;subst d;cases v with
 |agg vs=>
  simp[Value.cells]at a
  subst a
  simp[Na,uK]
 |_=>
  simp[Value.cells]at a
  subst a
  rfl
def uN(P:bW):E (G×G×Bool)->E Field->Bool
 |[],[]=>ae
 | (off,sz,a)::b,f::fs=>f.offset=off&&((P.info? f.type).map (·.size)==ad sz)&&sz≠0&&(xA P f.type==ad a)&&uN P b fs
 |_,_=>ah
def Ty(P:bW)(t:G)(a:TI):Bool:=
 match P.info? t with
 |none=>ah
 |some i=>i.size=a.size&&Z a.zero=a.size&&i.bytes=a.bytes&&(match i.zero with|some z=>FE a.zero z.cells.toList&&(Na z==a.agg)|none=>ah)&&
  match a.kind,P.underlying t with
  | .int k,ad (.int g)=>k=g
  | .bool,ad .bool=>ae
  | .sl E,ad (.slice l)=>E=l
  | .st,ad (.struct fs)=>uN P a.fields fs.toList
  | .arr n e,ad (.array b f)=>n=b&&e=f
  | .str,ad .string=>ae
  | .map n e,ad (.map b f)=>n=b&&e=f
  | .other,ad d=>(match d with| .struct _=>ah| .array _ _=>ah|_=>ae)
  |_,_=>ah
structure aaL(P:bW)(t:G)(a:TI):Prop where
 aaM:a.zero.length=a.size
 info:∃i,P.info? t=ad i/\i.size=a.size/\i.bytes=a.bytes/\∃z,i.zero=ad z/\z.cells.toList=a.zero.map ZV.fU
 agg:xA P t=ad a.agg
 zag:∀i z,P.info? t=ad i->i.zero=ad z->z=uK a.agg (a.zero.map ZV.fU)
 kind:match a.kind with
  | .int k=>P.underlying t=ad (.int k)
  | .bool=>P.underlying t=ad .bool
  | .sl E=>P.underlying t=ad (.slice E)
  | .st=>∃fs,P.underlying t=ad (.struct fs)/\uN P a.fields fs.toList=ae
  | .arr n e=>P.underlying t=ad (.array n e)
  | .str=>P.underlying t=ad .string
  | .map n e=>P.underlying t=ad (.map n e)
  | .other=>True
def amB{P}{t}{g}(f:Ty P t g=ae):aaL P t g:=by
 unfold Ty at f;cases l:P.info? t with
 |none=>rw[l]at f;simp at f
 |some i=>
  rw[l]at f
  simp only[cP,nr]at f
  let ⟨⟨⟨⟨s,u⟩,h2⟩,b⟩,a⟩:=f
  have m:∃z,i.zero=ad z/\z.cells.toList=g.zero.map ZV.fU:=by
   cases m:i.zero with
   |none=>rw[m]at b;simp at b
   |some z=>rw[m]at b;simp only[cP]at b;exact⟨z,J,Tx b.1⟩
  refine⟨u,⟨i,l,s,h2,m⟩,?_,?_,?_⟩
  rotate_left
  .intro A z k n;rw[l]at k;cases k;rw[n]at b;simp only[cP]at b;exact amz b.2<|Tx b.1
  rotate_right
  .unfold xA TI.agg;cases p:g.kind<;>rw[p]at a<;>cases hu:P.underlying t<;>rw[hu]at a<;>try(simp at a;done)
   all_goals (rename_i d;cases d<;>first|rfl| (simp at a;done))
  .cases p:g.kind<;>rw[p]at a<;>cases hu:P.underlying t<;>rw[hu]at a<;>try(simp at a;done)
   all_goals (rename_i d;cases d<;>first|trivial| (simp at a;done)| (simp at a;subst a;rfl)| (simp at a;let ⟨v,x⟩:=a;subst v x;rfl)|exact⟨_,rfl,a⟩)
def cE(P:bW):TT->Bool
 |[]=>ae
 | (t,a)::b=>Ty P t a&&cE P b
def fw{P:bW}:∀{f:TT},cE P f=ae->∀{t b},iJ t f=ad b->aaL P t b
 |[],_,_,_,a=>by simp[iJ]at a
 | (k,x)::i,d,t,b,a=>by
  simp[cE]at d;simp[iJ]at a;split at a
  next g=>subst g;cases a;exact amB d.1
  .exact fw d.2 a
structure St where
 sl:E (G×AV)
 mem:E (G×aA)
 nx:G
 gd:E (G×Bool):=[]
def St.kn(a:St):Kn
 | .s t=>(iJ t a.sl).map .v
 | .m id=>(iJ id a.mem).map .b
def FF:aT->AV
 | .bool b=> .c<|.B b
 | .int k n=> .c<|.I k n
 |v=> .c<|.V v
def St.ev(a:St):Operand->aw AV
 | .tmp t=>iJ t a.sl
 | .const v=>ad<|FF v
 | .func f=>ad<|.c<|.V<|.func (.func f) #[] #[]
 | .global _=>none
def cQ(a:St):Operand->E (Key×Info)
 | .tmp t=>match iJ t a.sl with
  |some v=>[(.s t,.v v)]
  |none=>[]
 |_=>[]
def amC g v:bh g (FF v) v:=by cases v<;>exact J
def dY{l}{b:G->Prop}{i}{g}{W}{a}(m:aR l b i g W a) st x v(d:st.ev x=ad v)
  (n:∀k∈cQ st x,i k.1=ad k.2):bh g v (a.eval x):=by
 cases x with
 |tmp t=>
  simp[St.ev]at d
  have:=n (.s t,.v v) (by simp[cQ,d])
  exact m.dW t v this
 |const u=>simp[St.ev]at d;subst d;exact amC g u
 |func f=>simp[St.ev]at d;subst d;rfl
 |global _=>simp[St.ev]at d
def tx{n}{b:G->Prop}{l}{g}{W}{a}(p:aR n b l g W a) st x v(i:st.ev x=ad v)
  (z:∀m∈cQ st x,l m.1=ad m.2):∀k∈v.ak,b k:=by
 cases x with
 |tmp t=>
  simp[St.ev]at i
  have:=z (.s t,.v v) (by simp[cQ,i])
  exact λk d=>p.ak _ _ this k d
 |const u=>simp[St.ev]at i;subst i;intro k d;cases u<;>simp[FF,AV.ak,C.ak]at d
 |func f=>simp[St.ev]at i;subst i;intro k d;simp[AV.ak,C.ak]at d
 |global _=>simp[St.ev]at i
def uO{P}{m}{i}{D:a8}{d:G}(ho:m[i]? =ad D)(hg:D.guard=none)(hd:D.dst=ad d){n}(dG:d<n)
 rd x new
  (N:∀(T:dO)(f:G->Prop)(H:Kn)(g:Gh)(W:cJ)(a:Act),aR T f H g W a->(∀kx∈rd,H kx.1=ad kx.2)->
   (∀p∈x.ak,f p)/\∃v,(execOp a.eval D).run P W= .ok (.value v) W/\bh g x v):
  jd P n m i rd [(.s d,ad<|.v x)] new:=by
 intro T lM Q f H g W a K z aX C q
 let ⟨hm,v,A,B⟩:=N T f H g W a aX C
 unfold wpOp
 simp only[ho,iv,hg,cz]
 refine .inl ?_
 unfold p'
 rw[A]
 simp only[ph,hd]
 have X:d<a.tmps.size:=nX
 refine q g W _<|aX.step (chg:=λ_=>False) (g':=g) (W':=W) ⟨⟨cL.refl _,λ_ _=>rfl⟩,λ_ _ _=>rfl,aX.sub,aL _,λ_ _ _=>rfl,J,J,J⟩ _ new z pj aX.defers ?_ (λ_ N=>N.elim) ?_ ?_ ?_ ?_
 .intro t l;have c:d≠t:=by intro e;subst e;simp[aD]at l
  simp[iK,l0 c]
 .intro t u l;simp only[aD]at l;split at l
  next e=>simp only[Key.s.injEq]at e;simp only[aq,Info.v.injEq]at l;subst e;subst l;simpa[iK,X]using B
  .simp at l
 .intro p b l;simp[aD]at l
 .intro k y l;simp only[aD]at l;split at l
  .simp only[aq]at l;subst l;exact λp j=> .inl<|hm p j
  .simp at l
 .intro p y l;simp[aD]at l
def ia(n:V):Prop:= -9223372036854775808<=n/\n<=9223372036854775807
inductive Pr where
 |t
 |i64 (n:V)
 |CV (b:V)
 |le (a b:V)
 |lt (a b:V)
 |CW (a b:G)
 |vQ (a b:Bool)
 |and (p q:Pr)
def Pr.h:Pr->Prop
 | .t=>True
 | .i64 n=>ia n
 | .CV d=>d≠0
 | .le a d=>a<=d
 | .lt a d=>a<d
 | .CW a d=>a<d
 | .vQ a d=>a=d
 | .and p f=>p.h/\f.h
def Pr.b:Pr->Bool
 | .t=>ae
 | .i64 n=>decide (-9223372036854775808<=n)&&decide (n<=9223372036854775807)
 | .CV d=> !decide (d=0)
 | .le a d=>decide<|a<=d
 | .lt a d=>decide<|a<d
 | .CW a d=>Nat.blt a d
 | .vQ a d=>a==d
 | .and p f=>p.b&&f.b
def Pr.I2:∀{p:Pr},p.b=ae->p.h
 | .t,_=>trivial
 | .i64 _,a=>by simpa[Pr.b,Pr.h,ia]using a
 | .CV _,a=>by simpa[Pr.b,Pr.h]using a
 | .le _ _,a=>by simpa[Pr.b,Pr.h]using a
 | .lt _ _,a=>by simpa[Pr.b,Pr.h]using a
 | .CW _ _,a=>c7 a
 | .vQ _ _,a=>by simpa[Pr.b,Pr.h]using a
 | .and p d,a=>by simp[Pr.b]at a;exact⟨Pr.I2 a.1,Pr.I2 a.2⟩
def Pr.an:Pr->Pr->Pr
 | .t,a=>a
 |p,.t=>p
 |p,a=> .and p a
def Pr.I3{p d:Pr}(a:(p.an d).h):p.h/\d.h:=by
 unfold Pr.an at a;split at a
 .exact⟨j,a⟩
 .exact⟨a,j⟩
 .exact a
instance:CoeSort Pr Prop:=⟨Pr.h⟩
def num(k:p8)(n:V):C×Pr:=match k with
 | .i64=>(.I .i64 n,.i64 n)
 |k=>(.I k<|k.wrap n,.t)
def FG k n(a:(num k n).2.h) g:de g (num k n).1 (.int k<|k.wrap n):=by cases k<;>first|exact rfl| (show Value.int .i64 _=_;rw[Go.IntWalk.i64_in n a])
def I4(op:BinOp)(k:p8)(a b:V):aw (C×Pr):=match op with
 | .add=>ad<|num k<|a+b
 | .sub=>ad<|num k<|a-b
 | .mul=>ad<|num k<|a*b
 | .quo=>ad ((num k<|a.tdiv b).1,.and (.CV b) (num k<|a.tdiv b).2)
 | .rem=>ad (.I k<|a.tmod b,.CV b)
 | .and=>ad (.I k<|k.wrap (kf k.bits a&&& kf k.bits b).toNat,.t)
 | .or=>ad (.I k<|k.wrap (kf k.bits a|||kf k.bits b).toNat,.t)
 | .eql=>ad (.B<|a==b,.t)
 | .neq=>ad (.B<|a !=b,.t)
 | .lss=>ad (.B<|decide<|a<b,.t)
 | .leq=>ad (.B<|decide<|a<=b,.t)
 | .gtr=>ad (.B<|decide<|a>b,.t)
 | .geq=>ad (.B<|decide<|a>=b,.t)
 |_=>none
def FI(op:BinOp)(k:p8)(a b:V):aw (C×Pr):=match op with
 | .shl=>ad (.I k<|k.wrap<|a*2^(min (af b) k.bits),.le 0 b)
 | .shr=>ad (.I k<|a.fdiv<|2^(min (af b) k.bits),.le 0 b)
 |_=>none
def Nb(op:BinOp):C->C->aw (C×Pr)
 | .I k a,.I d b=>match op with
  | .shl=>FI .shl k a b
  | .shr=>FI .shr k a b
  |op=>if k=d then I4 op k a b else none
 | .B a,.B b=>match op with
  | .eql=>ad (.B<|a==b,.t)
  | .neq=>ad (.B<|a !=b,.t)
  |_=>none
 |_,_=>none
def amD{P}{op:BinOp}{k}{a b}{l}{pre}(d:I4 op k a b=ad (l,pre))(i:pre) g t W:
  ∃v,(binOp op t (.int k a)<|.int k b).run P W= .ok v W/\de g l v:=by
 cases op<;>simp[I4]at d
 case add=>have f:num k (a+b)=(l,pre):=d;refine⟨.int k<|k.wrap<|a+b,by simp[binOp,Tz,pure],?_⟩;have:=FG k (a+b) (by rw[f];exact i) g;rw[f]at this;exact this
 case sub=>have f:num k (a-b)=(l,pre):=d;refine⟨.int k<|k.wrap<|a-b,by simp[binOp,Tz,pure],?_⟩;have:=FG k (a-b) (by rw[f];exact i) g;rw[f]at this;exact this
 case mul=>have f:num k (a*b)=(l,pre):=d;refine⟨.int k<|k.wrap<|a*b,by simp[binOp,Tz,pure],?_⟩;have:=FG k (a*b) (by rw[f];exact i) g;rw[f]at this;exact this
 case quo=>
  obtain⟨rfl,rfl⟩:=d
  exact⟨.int k<|k.wrap<|a.tdiv b,by simp[binOp,Op.intDiv,show b≠0 from(show b≠0/\_ from i).1,pure],FG k _ (show b≠0/\_ from i).2 g⟩
 case rem=>
  obtain⟨rfl,rfl⟩:=d
  exact⟨.int k<|a.tmod b,by simp[binOp,Op.intDiv,show b≠0 from i,pure],J⟩
 case and=>obtain⟨rfl,rfl⟩:=d;exact⟨_,by simp[binOp,Op.intBits,pure],J⟩
 case or=>obtain⟨rfl,rfl⟩:=d;exact⟨_,by simp[binOp,Op.intBits,pure],J⟩
 case eql=>obtain⟨rfl,rfl⟩:=d;exact⟨_,FJ,J⟩
 case neq=>obtain⟨rfl,rfl⟩:=d;exact⟨_,FJ,J⟩
 case lss=>obtain⟨rfl,rfl⟩:=d;exact⟨_,FJ,J⟩
 case leq=>obtain⟨rfl,rfl⟩:=d;exact⟨_,FJ,J⟩
 case gtr=>obtain⟨rfl,rfl⟩:=d;exact⟨_,FJ,J⟩
 case geq=>obtain⟨rfl,rfl⟩:=d;exact⟨_,FJ,J⟩
def run_equal_bool{P}{t}(d:P.underlying t=ad .bool) a b W:(Op.equal t (.bool a)<|.bool b).run P W= .ok (a==b) W:=by rw[Op.equal,show Op.maxDepth=9999+1 from J,Op.equalIn];simp[run_underlying d]
def aaN(a:TT)(t:G):Bool:=match iJ t a with
 |some b=>(match b.kind with| .bool=>ae|_=>ah)
 |none=>ah
def FK(f:TT)(op:BinOp)(t:G)(x d:C):aw (C×Pr):=match x,d with
 | .B a,.B b=>if aaN f t then Nb op (.B a) (.B b)else none
 |x,d=>Nb op x d
def amE{P}{m}(n:cE P m=ae){op:BinOp}{t:eI}{x p}{D}{pre}(d:FK m op t x p=ad (D,pre))(s:pre) g{u z}(i:de g x u)(l:de g p z) W
 H N:∃v,(do eqGuard op t H N u z;binOp op t u z:Sem aT).run P W= .ok v W/\de g D v:=by
 cases x<;>cases p<;>simp only[FK,Nb,reduceCtorEq]at d
 case B.B a b=>
  split at d
  .rename_i f;have C:P.underlying t=ad .bool:=by
    unfold aaN at f;cases hl:iJ t m with
    |none=>rw[hl]at f;simp at f
    |some K=>
     rw[hl]at f
     have:=(fw n hl).kind
     cases Q:K.kind<;>simp only[Q]at f this<;>first|exact this| (simp at f)
   simp only[de]at i l;subst i l;cases op<;>simp only[aq,bM,reduceCtorEq]at d
   .obtain⟨rfl,rfl⟩:=d;exact⟨.bool<|a==b,by simp[eqGuard,binOp,run_equal_bool C],J⟩
   .obtain⟨rfl,rfl⟩:=d;exact⟨.bool<|a !=b,by simp[eqGuard,binOp,run_equal_bool C,bne],J⟩
  .simp at d
 case I.I k a A b=>
  simp only[de]at i l
  subst i l
  have T:∀op,(do eqGuard op t H N (.int k a) (.int A b);binOp op t (.int k a) (.int A b):Sem aT).run P W=(binOp op t (.int k a)<|.int A b).run P W:=by intro op;cases op<;>simp[eqGuard]
  rw[T]
  cases op
  case shl=>
   simp only[FI,aq,bM]at d
   obtain⟨rfl,rfl⟩:=d
   exact⟨_,by simp[binOp,Op.shift,Int.not_lt.2 (show(0:V)<=_ from s),pure],J⟩
  case shr=>
   simp only[FI,aq,bM]at d
   obtain⟨rfl,rfl⟩:=d
   exact⟨_,by simp[binOp,Op.shift,Int.not_lt.2 (show(0:V)<=_ from s),pure],J⟩
  all_goals
   simp only at d
   split at d
   next e=>subst e;exact amD d s g t W
   .simp at d
def Nc{P}{t}{b}(a:xA P t=ad b) W:(isAgg t).run P W= .ok b W:=by
 unfold xA at a;cases hu:P.underlying t with
 |none=>rw[hu]at a;simp at a
 |some d=>
  rw[hu]at a
  simp[isAgg,dH,run_underlying hu,eo]
  cases d<;>simp at a<;>subst a<;>rfl
def run_sizeOf{P}{t}{i:TypeInfo}(a:P.info? t=ad i) W:(sizeOf t).run P W= .ok i.size W:=by simp[sizeOf,typeInfo,a]
def Nd{P:bW}:∀{l:E (G×G×Bool)}{m:E Field},uN P l m=ae->∀{k:G}{a sz:G}{n:Bool},l[k]? =ad (a,sz,n)->
  ∃f,m[k]? =ad f/\f.offset=a/\(∃i,P.info? f.type=ad i/\i.size=sz)/\sz≠0/\xA P f.type=ad n
 |[],_,_,_,_,_,_,b=>by simp at b
 | (t,s,g)::u,[],d,_,_,_,_,_=>by simp[uN]at d
 | (t,s,g)::u,f::m,d,0,a,sz,n,b=>by
  simp[uN,beq_iff_eq]at d;simp[oG]at b;obtain⟨rfl,rfl,rfl⟩:=b;let ⟨⟨⟨⟨p,h2⟩,h3⟩,x⟩,_⟩:=d;refine⟨f,au,p,?_,CY,x⟩;cases v:P.info? f.type with
  |none=>rw[v]at h2;simp at h2
  |some i=>rw[v]at h2;simp at h2;exact⟨i,J,h2⟩
 | (t,s,g)::u,f::m,d,k+1,a,sz,n,b=>by simp[uN]at d;simp[xB]at b;let ⟨z,p,h2⟩:=Nd d.2 b;exact⟨z,by simpa using p,h2⟩
def pn(d:E C)(b sz:G)(f:Bool):aw AV:=
 if f then(if b+sz<=Z d then ad (.a<|(az b d).take sz)else none)else(d[b]?).map .c
def a6.get{g:Gh}:∀{d:E C}{vs:E aT},a6 g d vs->∀{k:G}{b:C},d[k]? =ad b->∃v,vs[k]? =ad v/\de g b v
 |[],_,_,_,_,a=>by simp at a
 |_::_,_,hr,0,b,a=>by obtain⟨v,r,rfl,f,_⟩:=hr;simp at a;subst a;exact⟨v,au,f⟩
 |_::_,_,hr,k+1,b,a=>by obtain⟨v,r,rfl,_,i⟩:=hr;simp at a;let ⟨u,h3,l⟩:=a6.get i a;exact⟨u,CY,l⟩
def a6.drop{g:Gh}:∀{b:E C}{vs:E aT},a6 g b vs->∀k,a6 g (az k b) (az k vs)
 |[],_,a,k=>by simp[a6]at a;subst a;simp[a6]
 |_::_,_,a,0=>by simpa using a
 |_::_,_,a,k+1=>by obtain⟨v,f,rfl,_,d⟩:=a;simpa using a6.drop d k
def a6.take{g:Gh}:∀{b:E C}{vs:E aT},a6 g b vs->∀k,a6 g (r k b) (r k vs)
 |[],_,a,k=>by simp[a6]at a;subst a;simp[a6]
 |_::_,_,_,0=>by simp[a6]
 |_::_,_,a,k+1=>by obtain⟨v,i,rfl,d,f⟩:=a;simpa using⟨v,_,J,d,a6.take f k⟩
def I5 cs k:∀a∈b6 (az k cs),a∈b6 cs:=by
 induction cs generalizing k with
 |nil=>simp
 |cons c cs b=>cases k with
  |zero=>simp
  |succ k=>intro a h;simp[List.drop_succ_cons]at h;simp[b6];exact .inr<|b k a h
def FM cs k:∀a∈b6 (r k cs),a∈b6 cs:=by
 induction cs generalizing k with
 |nil=>simp
 |cons c cs b=>cases k with
  |zero=>simp[b6]
  |succ k=>
   intro a h
   simp[List.take_succ_cons,b6]at h⊢
   exact h.imp (λx=>x)<|b k a
def amF{f}{k:G}{i}(b:f[k]? =ad i):∀g∈i.ak,g∈b6 f:=by
 induction f generalizing k with
 |nil=>simp at b
 |cons d f l=>cases k with
  |zero=>simp at b;subst b;intro g a;simp[b6,a]
  |succ k=>simp at b;intro g a;simp[b6];exact .inr<|l b g a
def aaO{P}{g}{l}{vs}(m:a6 g l vs){a sz}{k}{x}(b:pn l a sz k=ad x){t}(d:xA P t=ad k)
  {i:TypeInfo} (n:P.info? t=ad i) (p:i.size=sz) W:∃v,(part t vs.toArray a).run P W= .ok v W/\bh g x v:=by
 unfold pn at b
 cases k with
 |true=>
  simp only[cz]at b
  split at b
  .rename_i s;simp only[aq]at b;subst b;refine⟨.agg<|vs.toArray.extract a<|a+sz,?_,⟨(az a vs).take sz,?_,(m.drop a).take sz⟩⟩
   .simp only[part,dH,Nc d,eo,cz,run_sizeOf n,p];rfl
   .congr 1;simp[List.extract_toArray,List.extract_eq_take_drop]
  .simp at b
 |false=>
  simp only[jx,b8,bY]at b
  obtain⟨c,u,rfl⟩:=b
  let ⟨v,hv,f⟩:=m.get u
  refine⟨v,?_,f⟩
  simp only[part,dH,Nc d,eo,jx,b8,vR,hv];rfl
def AW{g}{d sz}{i}{x}(a:pn g d sz i=ad x):∀b∈x.ak,b∈b6 g:=by
 unfold pn at a;cases i with
 |true=>
  simp only[cz]at a
  split at a
  .simp only[aq]at a;subst a;exact λb f=>I5 _ _ b<|FM _ _ b f
  .simp at a
 |false=>
  simp only[jx,b8,bY]at a
  obtain⟨c,k,rfl⟩:=a
  exact amF k
def aaP(a x d:aw AV):aw (AV×Pr):=match a with
 |some (.c<|.B b)=>match x,d with
  |some (.c<|.B p),ad (.c<|.B q)=>ad (.c<|.B<|cond b p q,.t)
  |some v,none=>ad (v,.vQ b ae)
  |none,ad v=>ad (v,.vQ b ah)
  |some v,ad (.c .any)=>ad (v,.vQ b ae)
  |some (.c .any),ad v=>ad (v,.vQ b ah)
  |_,_=>none
 |_=>none
def TA(op:UnOp)(x:AV):aw (AV×Pr):=match op,x with
 | .not,.c (.B b)=>ad (.c<|.B<|!b,.t)
 | .neg,.c (.I k n)=>ad (.c (num k<|0-n).1,(num k<|0-n).2)
 |_,_=>none
def TB(d:TT)(a b:G)(x:AV):aw (AV×Pr):=match iJ a d,iJ b d,x with
 |some _,ad f,.c (.I _ n)=>(match f.kind with
  | .int k=>ad (.c (num k n).1,(num k n).2)
  |_=>none)
 |_,_,_=>none
def TC(d:TT)(t:G)(x:AV)(f:G):aw AV:=match x,iJ t d with
 | .a cs,ad b=>(match b.kind,b.fields[f]? with
  | .st,ad (off,sz,g)=>pn cs off sz g
  |_,_=>none)
 |_,_=>none
def Nf(b:TT)(t:G)(x:AV)(f:G):aw AV:=match iJ t b with
 |some a=>(match a.kind,a.fields[f]? with
  | .st,ad (off,_,_)=>(match x with
   | .c (.P id o)=>ad<|.c<|.P id<|o+off
   | .c (.E T e o)=>ad<|.c<|.E T e<|o+off
   | .c (.Y id n i o)=>ad<|.c<|.Y id n i<|o+off
   |_=>none)
  |_,_=>none)
 |none=>none
def Ng(x:AV)(k:G):aw AV:=match x with
 | .t b=>(match b[k]? with
  |some (ae,cs)=>ad<|.a cs
  |some (ah,[c])=>ad<|.c c
  |_=>none)
 |_=>none
def yW(a:TT)(t:G)(n:G):Bool:=match iJ t a with
 |some b=>(match b.kind with
  | .sl e=>(match iJ e a with|some d=>d.size=n|none=>ah)
  |_=>ah)
 |none=>ah
def Nh(a:TT)(t:G):aw (G×G):=match iJ t a with
 |some b=>(match b.kind with
  | .arr n e=>(match iJ e a with
   |some d=>ad (n,d.size)
   |none=>none)
  |_=>none)
 |none=>none
def Ni(a:TT)(t:G)(x i:AV):aw (AV×Pr):=match x,i with
 | .c (.S T xs),.c (.I _ k)=>if yW a t T.n then ad (.c<|.E T (List.getD xs (af k) T.eP) 0,.and (.le 0 k)<|.lt k<|Z xs)else none
 | .c (.P id off),.c (.I _ k)=>(match Nh a t with
  |some (n,sz)=>ad (.c<|.P id<|off+af k*sz,.and (.le 0 k)<|.lt k n)
  |none=>none)
 | .c (.E T e off),.c (.I _ k)=>(match Nh a t with
  |some (n,sz)=>ad (.c<|.E T e<|off+af k*sz,.and (.le 0 k)<|.lt k n)
  |none=>none)
 |_,_=>none
def I6(a:TT)(t:G)(x:AV):aw AV:=match iJ t a with
 |some b=>(match b.kind with
  | .sl _=>(match x with
   | .c (.S _ xs)=>ad<|.c<|.I .i64<|Z xs
   | .c (.V<|.slice none 0 0)=>ad<|.c<|.I .i64 0
   | .c (.W _ _ len)=>ad<|.c<|.I .i64 len
   |_=>none)
  |_=>none)
 |none=>none
def Nj(n:G):aw AV->G->aw (G×Pr)
 |none,d=>ad (d,.t)
 |some (.c<|.I _ k),_=>ad (af k,.and (.le 0 k)<|.le k n)
 |_,_=>none
def TD(a:TT)(t:G)(x:AV)(b d:aw AV):aw (AV×Pr):=match x with
 | .c (.S T xs)=>if yW a t T.n then
   (match Nj (Z xs) d (Z xs)with
   |some (h,p)=>(match Nj h b 0 with
    |some (l,q)=>ad (.c<|.S T<|(r h xs).drop l,.and p q)
    |none=>none)
   |none=>none)
  else none
 |_=>none
def Nk(d:Bool):E AV->aw AV
 |[.c (.I k a),.c<|.I f b]=>if k=f then ad (.c<|.I k (if d then(if b>a then b else a)else(if b<a then b else a)))else none
 |_=>none
def AX(a:St):aw Operand->aw (aw AV)
 |none=>ad none
 |some x=>(a.ev x).map ad
def vT(m:TT)(g:St):Op->aw (AV×Pr)
 | .move x=>(match g.ev x with|some v=>ad (v,.t)|none=>none)
 | .assign x=>(match g.ev x with|some v=>ad (v,.t)|none=>none)
 | .pick A x n=>aaP (g.ev A) (g.ev x)<|g.ev n
 | .binOp op t x n _=>(match g.ev x,g.ev n with
  |some (.c a),ad (.c b)=>(match FK m op t a b with|some (A,p)=>ad (.c A,p)|none=>none)
  |_,_=>none)
 | .unOp op _ x=>(match g.ev x with|some v=>TA op v|none=>none)
 | .convert s d x=>(match g.ev x with|some v=>TB m s d v|none=>none)
 | .field t x f=>(match g.ev x with|some v=>(match TC m t v f with|some u=>ad (u,.t)|none=>none)|none=>none)
 | .fieldAddr t x f=>(match g.ev x with|some v=>(match Nf m t v f with|some u=>ad (u,.t)|none=>none)|none=>none)
 | .extract x k=>(match g.ev x with|some v=>(match Ng v k with|some u=>ad (u,.t)|none=>none)|none=>none)
 | .indexAddr t x i=>(match g.ev x,g.ev i with|some v,ad z=>Ni m t v z|_,_=>none)
 | .slice t x lo D none=>(match g.ev x,AX g lo,AX g D with|some v,ad l,ad H=>TD m t v l H|_,_,_=>none)
 | .call ⟨.builtin .len,args,B⟩=>(match args.toList,B.toList with
  |[x],[t]=>(match g.ev x with|some v=>(match I6 m t v with|some u=>ad (u,.t)|none=>none)|none=>none)
  |_,_=>none)
 | .call ⟨.builtin .max,args,_⟩=>(match args.toList with
  |[x,n]=>(match g.ev x,g.ev n with|some v,ad z=>(match Nk ae [v,z]with|some u=>ad (u,.t)|none=>none)|_,_=>none)
  |_=>none)
 | .call ⟨.builtin .min,args,_⟩=>(match args.toList with
  |[x,n]=>(match g.ev x,g.ev n with|some v,ad z=>(match Nk ah [v,z]with|some u=>ad (u,.t)|none=>none)|_,_=>none)
  |_=>none)
 |_=>none
def qe(a:St)(op:Op):E (Key×Info):=op.operands.toList.flatMap<|cQ a
section
variable{P:bW}{tt:TT}{g:Gh}{W:cJ}
def amG{op:UnOp}{x}{d}{p}(a:TA op x=ad (d,p))(l:p){v}(b:bh g x v):(∃u,(Op.unary op v).run P W= .ok u W/\bh g d u)/\∀i∈d.ak,i∈x.ak:=by
 unfold TA at a;split at a
 .simp only[aq,bM]at a;obtain⟨rfl,rfl⟩:=a;simp only[bh,de]at b;subst b;exact⟨⟨_,by simp[Op.unary,pure],J⟩,tz⟩
 next k n=>simp only[aq,bM]at a;obtain⟨rfl,rfl⟩:=a;simp only[bh,de]at b;subst b;refine⟨⟨.int k<|k.wrap<|0-n,by simp[Op.unary,Tz,pure],FG k _ l g⟩,?_⟩;intro i f;cases k<;>simp[num,AV.ak,C.ak]at f
 .simp at a
def I7 k n:(num k n).1.ak=[]:=by cases k<;>rfl
def amH(b:cE P tt=ae){s d}{x i}{p}(a:TB tt s d x=ad (i,p))(z:p){v}(m:bh g x v):(∃u,(convert s d v).run P W= .ok u W/\bh g i u)/\i.ak=[]:=by
 unfold TB at a;split at a
 .rename_i A H K n B C;split at a
  .rename_i k D;simp at a;obtain⟨rfl,rfl⟩:=a;simp[bh,de]at m;subst m;have t:=(fw b C).kind;rw[D]at t;have l:∃f,P.underlying s=ad f:=by
    have:=(fw b B).agg;unfold xA at this;cases hu:P.underlying s with
    |none=>rw[hu]at this;simp at this
    |some f=>exact⟨f,J⟩
   let ⟨f,l⟩:=l;refine⟨⟨.int k<|k.wrap n,?_,FG k n z g⟩,I7 k n⟩;simp[convert,dH,run_underlying l,run_underlying t,eo];cases f<;>rfl
  .simp at a
 .simp at a
def amI(l:cE P tt=ae){t f}{x m}(a:TC tt t x f=ad m){v}(B:bh g x v):(∃u,(Instr.field t v f).run P W= .ok u W/\bh g m u)/\∀D∈m.ak,D∈x.ak:=by
 unfold TC at a;split at a
 .rename_i c e C;split at a
  .rename_i H sz j K N;have A:=(fw l C).kind;rw[K]at A;let ⟨fs,hu,n⟩:=A;obtain⟨Q,p,rfl,⟨i,T,s⟩,_,z⟩:=Nd n N;obtain⟨vs,rfl,X⟩:=B;let ⟨u,b,d⟩:=aaO (W:=W) X a z T s;refine⟨⟨u,?_,d⟩,AW a⟩;have k:fs[f]? =ad Q:=by simpa using p
   simp[Instr.field,dH,run_underlying hu,eo,k,asAgg];simpa using b
  .simp at a
 .simp at a
def ns b a n:(Addr.mk b a none).add n=⟨b,a+n,none⟩:=by
 unfold Addr.add;split
 next e=>subst e;rfl
 .rfl
def amJ(m:cE P tt=ae){t f}{x n}(a:Nf tt t x f=ad n){v}(p:bh g x v):(∃u,(aaQ t v f).run P W= .ok u W/\bh g n u)/\∀N∈n.ak,N∈x.ak:=by
 unfold Nf at a;split at a
 .rename_i F Q;split at a
  .rename_i T sz G X e;have H:=(fw m Q).kind;rw[X]at H;let ⟨fs,hu,s⟩:=H;obtain⟨K,z,rfl,⟨i,j,A⟩,B,q⟩:=Nd s e;have k:fs[f]? =ad K:=by simpa using z
   have d:∀b o,(aaQ t (.pointer<|ad ⟨b,o,none⟩) f).run P W= .ok (.pointer<|ad ⟨b,o+K.offset,none⟩) W:=by intro b o;simp[aaQ,dH,run_underlying hu,eo,k,I9,fieldPlace,run_sizeOf j];simp[A,B,ns]
   split at a
   .simp at a;subst a;obtain⟨b,D,rfl⟩:=p;exact⟨⟨_,d _ _,b,D,J⟩,tz⟩
   .simp at a;subst a;obtain⟨b,o,r,rfl,w,E⟩:=p;exact⟨⟨_,d _ _,b,o,r,by simp[tC],w,E⟩,tz⟩
   .simp at a;subst a;obtain⟨b,l,c,D,rfl⟩:=p;exact⟨⟨_,d _ _,b,l,c,D,by simp[tC]⟩,tz⟩
   .simp at a
  .simp at a
 .simp at a
def dK.get{g:Gh}:∀{b:E (Bool×E C)}{vs:E aT},dK g b vs->∀{k:G}{s:Bool×E C},b[k]? =ad s->∃v,vs[k]? =ad v/\CQ g s v
 |[],_,_,_,_,a=>by simp at a
 |_::_,_,hr,0,d,a=>by obtain⟨v,r,rfl,f,_⟩:=hr;simp at a;subst a;exact⟨v,au,f⟩
 |_::_,_,hr,k+1,d,a=>by obtain⟨v,r,rfl,_,i⟩:=hr;simp at a;let ⟨u,h3,l⟩:=dK.get i a;exact⟨u,CY,l⟩
def aaR{f}{k:G}{l}(b:f[k]? =ad l):∀i∈b6 l.2,i∈et f:=by
 induction f generalizing k with
 |nil=>simp at b
 |cons d f m=>cases k with
  |zero=>simp at b;subst b;intro i a;simp[et,a]
  |succ k=>simp at b;intro i a;simp[et];exact .inr<|m b i a
def amK{x f}{k}(b:Ng x k=ad f){v}(n:bh g x v):(∃u,(aaS v k).run P W= .ok u W/\bh g f u)/\∀i∈f.ak,i∈x.ak:=by
 unfold Ng at b;split at b
 .rename_i p;obtain⟨vs,rfl,m⟩:=n;split at b
  next s d=>simp at b;subst b;let ⟨u,hu,a⟩:=m.get d;exact⟨⟨u,by simp[aaS,hu,pure],a⟩,aaR d⟩
  next c d=>simp at b;subst b;let ⟨u,hu,a⟩:=m.get d;exact⟨⟨u,by simp[aaS,hu,pure],a⟩,λi l=>aaR d i<|by simp[b6];exact l⟩
  .simp at b
 .simp at b
def FN(b:cE P tt=ae){t n}(a:yW tt t n=ae):∃d i,P.underlying t=ad (.slice d)/\P.info? d=ad i/\i.size=n:=by
 unfold yW at a;split at a
 .rename_i u k;split at a
  .rename_i d l;split at a
   next v m=>have f:=(fw b k).kind;rw[l]at f;let ⟨i,p,s,_⟩:=(fw b m).info;exact⟨d,i,f,p,by rw[s];simpa using a⟩
   .simp at a
  .simp at a
 .simp at a
def aaT(b:cE P tt=ae){t n sz}(a:Nh tt t=ad (n,sz)):∃d i,P.underlying t=ad (.array n d)/\P.info? d=ad i/\i.size=sz:=by
 unfold Nh at a;split at a
 .rename_i u k;split at a
  .rename_i v d l;split at a
   next x m=>cases a;have f:=(fw b k).kind;rw[l]at f;let ⟨i,p,s,_⟩:=(fw b m).info;exact⟨d,i,f,p,s⟩
   .simp at a
  .simp at a
 .simp at a
def amL(s:cE P tt=ae){t}{x i N}{p}(f:Ni tt t x i=ad (N,p))(Q:p){v u}(hv:bh g x v)(B:bh g i u):(∃z,(CZ t v u).run P W= .ok z W/\bh g N z)/\∀D∈N.ak,D∈x.ak:=by
 unfold Ni at f;split at f
 .rename_i T xs E k;split at f
  .rename_i X;simp only[aq,bM]at f;obtain⟨rfl,rfl⟩:=f;let ⟨e,i,m,C,H⟩:=FN s X;simp only[bh,de]at B;subst B;obtain⟨a,I,rfl,F,G,K⟩:=hv;let ⟨c,q⟩:=(show 0<=k/\k<(Z xs:V)from Q);have A:af k<Z xs:=Y;rcases K with K|⟨b,l,rfl,K⟩
   .subst K;simp at A
   .let ⟨r,hl,hr,hc⟩:=K (af k) A;refine⟨⟨.pointer<|ad ⟨b,l+af k*T.n,none⟩,?_,b,l+af k*T.n,r,J,?_,?_⟩,λD aY=>yX⟩
    .have d:(0<=k/\k<(Z xs:V)):=⟨c,q⟩;simp only[CZ,asIntOf,dH,run_underlying m,eo];simp[d,run_sizeOf C,H,ns]
    .rw[aO,df A];exact hr
    .intro j L;have:=hc j L;rw[this]
  .simp at f
 .rename_i D l E k;split at f
  next n sz w=>simp only[aq,bM]at f;obtain⟨rfl,rfl⟩:=f;let ⟨e,i,m,C,H⟩:=aaT s w;simp only[bh,de]at B;subst B;obtain⟨b,M,rfl⟩:=hv;have d:0<=k/\k<(n:V):=Q;refine⟨⟨.pointer<|ad ⟨b,l+af k*sz,none⟩,?_,b,M,J⟩,λD aY=>aY⟩;simp only[CZ,I9,asIntOf,dH,C0,run_underlying m,eo];simp[d,run_sizeOf C,H,ns]
  .simp at f
 .rename_i T O l E k;split at f
  next n sz w=>simp only[aq,bM]at f;obtain⟨rfl,rfl⟩:=f;let ⟨e,i,m,C,H⟩:=aaT s w;simp only[bh,de]at B;subst B;obtain⟨b,o,r,rfl,F,G⟩:=hv;have d:0<=k/\k<(n:V):=Q;refine⟨⟨.pointer<|ad ⟨b,o+(l+af k*sz),none⟩,?_,b,o,r,J,F,G⟩,λD aY=>aY⟩;simp only[CZ,I9,asIntOf,dH,C0,run_underlying m,eo];simp[d,run_sizeOf C,H,ns,tC]
  .simp at f
 .simp at f
def amM(i:cE P tt=ae){t r:G}{x k}(d:I6 tt t x=ad k){v}(f:bh g x v):(∃u,(aaU #[t] r #[v]).run P W= .ok u W/\bh g k u)/\k.ak=[]:=by
 unfold I6 at d;split at d
 .rename_i p l;split at d
  .rename_i e m;have h2:=(fw i l).kind;rw[m]at h2;split at d
   next T xs=>simp at d;subst d;obtain⟨a,n,rfl,_⟩:=f;exact⟨⟨_,Nl,J⟩,J⟩
   .simp at d;subst d;simp[bh,de]at f;subst f;exact⟨⟨_,Nl,J⟩,J⟩
   .simp at d;subst d;obtain⟨b,c,_,rfl,_⟩:=f;exact⟨⟨_,Nl,J⟩,J⟩
   .simp at d
  .simp at d
 .simp at d
def aaV{f}{l}{i}(d:Nk f l=ad i){v m}{n x2}(p:l=[n,x2])(s:bh g n v)(x:bh g x2 m) t z:
  (∃u,(if f then Builtin.max_ t z #[v,m]else Builtin.min_ t z #[v,m]).run P W= .ok u W/\bh g i u)/\i.ak=[]:=by
 unfold Nk at d
 split at d
 .rename_i k a A b;split at d
  .rename_i e;subst e;simp at d;subst d;simp at p;obtain⟨rfl,rfl⟩:=p;simp[bh,de]at s x;subst s x;cases f
   .exact⟨⟨_,by simp[Builtin.min_,Builtin.min2,mX,pure],J⟩,J⟩
   .exact⟨⟨_,by simp[Builtin.max_,Builtin.max2,mX,pure],J⟩,J⟩
  .simp at d
 .simp at d
def AY(g:Gh):aw AV->aw aT->Prop
 |none,none=>True
 |some a,ad u=>bh g a u
 |_,_=>False
def aaW{op:BinOp}{t}{x i f}{p}(d:FK tt op t x i=ad (f,p)):f.ak=[]:=by
 cases x<;>cases i<;>simp only[FK,Nb,reduceCtorEq]at d;case B.B a b=>
  split at d
  .cases op<;>simp only[aq,bM,reduceCtorEq]at d;all_goals (obtain⟨rfl,_⟩:=d;rfl)
  .simp at d
 case I.I k a m b=>
  have l:∀op,I4 op k a b=ad (f,p)->f.ak=[]:=by
   intro op d;cases op<;>simp only[I4,aq,reduceCtorEq]at d;case add=>have:=bm Prod.fst d;simp only at this;rw[<-this];exact I7 _ _
   case sub=>have:=bm Prod.fst d;simp only at this;rw[<-this];exact I7 _ _
   case mul=>have:=bm Prod.fst d;simp only at this;rw[<-this];exact I7 _ _
   all_goals
    simp only[bM]at d
    obtain⟨rfl,_⟩:=d
    first|rfl|exact I7 _ _
  cases op
  case shl=>simp only[FI,aq,bM]at d;obtain⟨rfl,_⟩:=d;rfl
  case shr=>simp only[FI,aq,bM]at d;obtain⟨rfl,_⟩:=d;rfl
  all_goals
   simp only at d
   split at d
   .exact l _ d
   .simp at d
def TF{n}{x}{d h}{p}(a:Nj n x d=ad (h,p))(l:p){v}(b:AY g x v)
 m (t:n<=m) (code:BoundsCode):
  (x=none/\v=none/\h=d)\/(∃u,v=ad u/\h<=n/\(TG u m code).run P W= .ok h W):=by
 unfold Nj at a
 split at a
 .simp at a;cases v with
  |none=>exact .inl ⟨J,J,a.1.symm⟩
  |some u=>exact b.elim
 .rename_i s k;simp at a;obtain⟨rfl,rfl⟩:=a;cases v with
  |none=>exact b.elim
  |some u=>
   have f:u= .int s k:=b
   subst f
   have i:0<=k/\k<=(n:V):=l
   refine .inr ⟨_,J,Y,?_⟩
   have:0<=k/\k<=(m:V):=⟨i.1,Y⟩
   simp[TG,asIntOf,this,mX,pure]
 .simp at a
def nl.sub{t:Type}{p:t->E aT->Prop}{n}{H}{xs}{a}{d}(u:nl p n H xs (.slice a (Z xs) d)){l k}(A:l<=k)(v:k<=Z xs):
  nl p n H ((r k xs).drop l) (.slice (if d=l then a else a.map (·.add (l*n))) (k-l)<|d-l):=by
 let ⟨B,s,e,C,x,m⟩:=u
 simp[aaX]at e
 obtain⟨rfl,rfl⟩:=e
 have f:Z ((r k xs).drop l)=k-l:=cd
 refine⟨_,d-l,by rw[f],Y,?_,?_⟩
 .rw[f];exact br (dS n Y) x
 .by_cases D:k=l
  .left;apply gx;omega
  .right;rcases m with m|⟨b,off,rfl,m⟩
   .subst m;simp at v;omega
   .refine⟨b,off+l*n,?_,λi K=>?_⟩
    .rw[y Y];simp[ns]
    .let ⟨cs,hl,hr,hc⟩:=m (l+i) Y;refine⟨cs,hl,?_,λj z=>?_⟩
     .simpa using hr
     .have:=hc j z;rw[(Ja:off+l*n+i*n+j=off+(l+i)*n+j)];exact this
def amN(A:cE P tt=ae){t}{x B}{lo hi}{p}(b:TD tt t x lo hi=ad (B,p))(hp:p){v}{D H}(hv:bh g x v)
  (hl:AY g lo D) (hh:AY g hi H):
  (∃z,(Instr.sliceAt t v D H none).run P W= .ok z W/\bh g B z)/\B.ak=[]:=by
 unfold TD at b
 split at b
 .rename_i T xs;split at b
  .rename_i C;let ⟨e,i,K,N,w⟩:=FN A C;split at b
   .rename_i d I Q;split at b
    .rename_i l L X;simp only[aq,bM]at b;obtain⟨rfl,rfl⟩:=b;let ⟨c,j⟩:=hp;have o:=hv;obtain⟨a,m,rfl,E,M,O⟩:=o;have f:=TF (P:=P) (W:=W) Q c hh m E<|.sliceAcap;have q:d<=Z xs:=by rcases f with⟨_,_,e⟩|⟨_,_,b,_⟩<;>omega
     have k:=TF (P:=P) (W:=W) X j hl d (aL _)<|.sliceB;have n:l<=d:=by rcases k with⟨_,_,e⟩|⟨_,_,b,_⟩<;>omega
     refine⟨⟨_,?_,nl.sub hv n q⟩,J⟩;have r:(yY ae (Z xs) m D H none).run P W= .ok (l,d,m) W:=by rcases f with⟨_,rfl,rfl⟩|⟨u,rfl,_,F⟩<;>rcases k with⟨_,rfl,rfl⟩|⟨R,rfl,_,G⟩<;>simp[yY, *]
     simp only[Instr.sliceAt,dH,run_underlying K,eo,Instr.slice,r,run_sizeOf N,w];rfl
    .simp at b
   .simp at b
  .simp at b
 .simp at b
def Jb{l}{b:G->Prop}{i}{a}(m:aR l b i g W a) st x v(f:AX st x=ad v)
  (n:∀d,x=ad d->∀k∈cQ st d,i k.1=ad k.2):AY g v (x.map a.eval):=by
 cases x with
 |none=>simp[AX]at f;subst f;trivial
 |some d=>
  simp[AX]at f
  obtain⟨u,p,rfl⟩:=f
  exact dY m st d u p<|n d J
def Nm(T:cE P tt=ae){ops}{i}{aG:a8}{d:G}(ho:ops[i]? =ad aG)(hg:aG.guard=none)(hd:aG.dst=ad d){n}(dG:d<n)
 {st}{x}{p}(m:vT tt st aG.op=ad (x,p)) (hp:p) new:jd P n ops i (qe st aG.op) [(.s d,ad<|.v x)] new:=by
 refine uO ho hg hd dG _ x new ?_
 intro F L Z g W a X V
 have B:∀y∈aG.op.operands,∀u,st.ev y=ad u->bh g u (a.eval y)/\∀N∈u.ak,L N:=by
  intro y j u Q;have hr:∀I∈cQ st y,Z I.1=ad I.2:=λI M=>V I<|js.2 ⟨y,by simpa using j,M⟩
  exact⟨dY X st y u Q hr,tx X st y u Q hr⟩
 have O:∀y∈aG.op.operands,∀I∈cQ st y,Z I.1=ad I.2:=λy j I M=>V I<|js.2 ⟨y,by simpa using j,M⟩
 let ⟨od,op,R,azZ,az0,ogd⟩:=aG
 simp only at m B O
 unfold vT at m
 split at m
 .rename_i y;split at m
  next v H=>simp only[aq,bM]at m;obtain⟨rfl,rfl⟩:=m;have:=B y iL _ H;exact⟨this.2,_,by simp[execOp,pure],this.1⟩
  .simp at m
 .rename_i y;split at m
  next v H=>simp only[aq,bM]at m;obtain⟨rfl,rfl⟩:=m;have:=B y iL _ H;exact⟨this.2,_,by simp[execOp,pure],this.1⟩
  .simp at m
 .rename_i c y z;unfold aaP at m;split at m
  .rename_i b hb;have yZ:=(B c iL _ hb).1;simp only[bh,de]at yZ;split at m
   next p1 q1 j S=>simp only[aq,bM]at m;obtain⟨rfl,rfl⟩:=m;have D:=(B y iL _ j).1;have e:=(B z iL _ S).1;simp only[bh,de]at D e;refine⟨tz,.bool<|cond b p1 q1,?_,J⟩;cases b<;>simp[execOp,yZ,asBool,D,e,mX,pure]
   next v j S=>simp only[aq,bM]at m;obtain⟨rfl,rfl⟩:=m;have D:=B y iL _ j;simp only[Pr.h]at hp;subst hp;exact⟨D.2,_,Nn,D.1⟩
   next v j S=>simp only[aq,bM]at m;obtain⟨rfl,rfl⟩:=m;have D:=B z iL _ S;simp only[Pr.h]at hp;subst hp;exact⟨D.2,_,Nn,D.1⟩
   next v j S=>simp only[aq,bM]at m;obtain⟨rfl,rfl⟩:=m;have D:=B y iL _ j;simp only[Pr.h]at hp;subst hp;exact⟨D.2,_,Nn,D.1⟩
   next v j S=>simp only[aq,bM]at m;obtain⟨rfl,rfl⟩:=m;have D:=B z iL _ S;simp only[Pr.h]at hp;subst hp;exact⟨D.2,_,Nn,D.1⟩
   .simp at m
  .simp at m
 .rename_i op t y z _;split at m
  .rename_i u w Q U;split at m
   .rename_i c q hc;simp only[aq,bM]at m;obtain⟨rfl,rfl⟩:=m;let ⟨v,jL,A⟩:=amE (P:=P) T hc hp g ((B y iL _ Q).1) ((B z iL _ U).1) W y z;refine⟨?_,v,?_,A⟩
    .intro N aY;simp only[AV.ak,aaW hc]at aY;cases aY
    .simp only[execOp,dH];rw[dH]at jL;simp only[jL];simp[eo,pure]
   .simp at m
  .simp at m
 .rename_i op t y;split at m
  next v H=>have D:=B y iL _ H;let ⟨⟨u,jL,A⟩,hm⟩:=amG (P:=P) (W:=W) m hp D.1;exact⟨λN aY=>D.2 N<|hm N aY,u,C1,A⟩
  .simp at m
 .rename_i s d' y;split at m
  next v H=>have D:=B y iL _ H;let ⟨⟨u,jL,A⟩,hm⟩:=amH (P:=P) (W:=W) T m hp D.1;exact⟨λN aY=>AZ,u,C1,A⟩
  .simp at m
 .rename_i t y f;split at m
  .rename_i v H;split at m
   next u Q=>simp only[aq,bM]at m;obtain⟨rfl,rfl⟩:=m;have D:=B y iL _ H;let ⟨⟨u,jL,A⟩,hm⟩:=amI (P:=P) (W:=W) T Q D.1;exact⟨λN aY=>D.2 N<|hm N aY,u,C1,A⟩
   .simp at m
  .simp at m
 .rename_i t y f;split at m
  .rename_i v H;split at m
   next u Q=>simp only[aq,bM]at m;obtain⟨rfl,rfl⟩:=m;have D:=B y iL _ H;let ⟨⟨u,jL,A⟩,hm⟩:=amJ (P:=P) (W:=W) T Q D.1;exact⟨λN aY=>D.2 N<|hm N aY,u,C1,A⟩
   .simp at m
  .simp at m
 .rename_i y k;split at m
  .rename_i v H;split at m
   next u Q=>simp only[aq,bM]at m;obtain⟨rfl,rfl⟩:=m;have D:=B y iL _ H;let ⟨⟨u,jL,A⟩,hm⟩:=amK (P:=P) (W:=W) Q D.1;exact⟨λN aY=>D.2 N<|hm N aY,u,C1,A⟩
   .simp at m
  .simp at m
 .rename_i t y z;split at m
  next v w H U=>have D:=B y iL _ H;let ⟨⟨u,jL,A⟩,hm⟩:=amL (P:=P) (W:=W) T m hp D.1 (B z iL _ U).1;exact⟨λN aY=>D.2 N<|hm N aY,u,C1,A⟩
  .simp at m
 .rename_i t y lo hi;split at m
  next v l h H hl hh=>have D:=B y iL _ H;let ⟨⟨u,jL,A⟩,hm⟩:=amN (P:=P) (W:=W) T m hp D.1 (Jb X st lo l hl<|λq hq=>O q Jc)<|Jb X st hi h hh<|λq hq=>O q Jc;exact⟨λN aY=>AZ,u,C1,A⟩
  .simp at m
 .rename_i args E;split at m
  .rename_i y t ha ht;have K:args= #[y]:=Jd;have Y:E= #[t]:=TH;subst K Y;split at m
   .rename_i v H;split at m
    next u Q=>simp only[aq,bM]at m;obtain⟨rfl,rfl⟩:=m;let ⟨⟨u,jL,A⟩,hm⟩:=amM (P:=P) (W:=W) (r:=R) T Q (B y FO _ H).1;exact⟨λN aY=>AZ,u,TL,A⟩
    .simp at m
   .simp at m
  .simp at m
 .rename_i args E;split at m
  .rename_i y z ha;have K:args= #[y,z]:=Jd;subst K;split at m
   .rename_i v w H U;split at m
    next u Q=>simp only[aq,bM]at m;obtain⟨rfl,rfl⟩:=m;let ⟨⟨u,jL,A⟩,hm⟩:=aaV (P:=P) (W:=W) Q J (B y FO _ H).1 (B z FO _ U).1 E R;simp only[cz]at jL;exact⟨λN aY=>AZ,u,TL,A⟩
    .simp at m
   .simp at m
  .simp at m
 .rename_i args E;split at m
  .rename_i y z ha;have K:args= #[y,z]:=Jd;subst K;split at m
   .rename_i v w H U;split at m
    next u Q=>simp only[aq,bM]at m;obtain⟨rfl,rfl⟩:=m;let ⟨⟨u,jL,A⟩,hm⟩:=aaV (P:=P) (W:=W) Q J (B y FO _ H).1 (B z FO _ U).1 E R;simp only[jx,b8]at jL;exact⟨λN aY=>AZ,u,TL,A⟩
    .simp at m
   .simp at m
  .simp at m
 .simp at m
def run_load{a:Addr}{v}(b:W.cell? a=ad v):(load a).run P W= .ok v W:=by simp[load,mX,b]
def run_loadCellsFrom(b:G):∀(n i a:G)(vs:E aT)(d:Array aT),Z vs=n->(∀f(l:f<Z vs),W.cell? ⟨b,a+i+f,none⟩=ad vs[f])->
  (loadCellsFrom ⟨b,a,none⟩ i n d).run P W= .ok (d++vs.toArray) W
 |0,i,a,vs,d,hl,_=>by have:vs=[]:=gx hl;subst this;simp[loadCellsFrom,pure]
 |n+1,i,a,[],d,hl,_=>by simp at hl
 |n+1,i,a,v::vs,d,hl,hc=>by have k:=hc 0 au;simp only[jZ,xC]at k;have m:=run_loadCellsFrom b n (i+1) a vs (d.push v) vU (λf l=>by have:=hc (f+1) cd;simp only[C2]at this;rw[(Y:a+(i+1)+f=a+i+(f+1))];exact this);simp only[loadCellsFrom,ns,dH,run_load k,eo,m];congr 1;apply FP;simp
def amO{t}{a}(d:xA P t=ad a){i:TypeInfo}(n:P.info? t=ad i) b off vs(l:Z vs=i.size)(f:a=ah->i.size=1)
  (m:∀k(s:k<Z vs),W.cell? ⟨b,off+k,none⟩=ad vs[k]):∃v,(loadVar t ⟨b,off,none⟩).run P W= .ok v W/\((a=ae/\v= .agg vs.toArray)\/(a=ah/\vs=[v])):=by
 cases a with
 |true=>
  refine⟨.agg vs.toArray,?_,.inl ⟨J,J⟩⟩
  simp[loadVar,dH,Nc d,eo,cz,run_sizeOf n,loadCells]
  rw[run_loadCellsFrom b i.size 0 off vs #[] l (by simpa using m)]
  simp[pure]
 |false=>
  have p:Z vs=1:=by rw[l];exact f J
  match vs,p with
  |[v],_=>
   refine⟨v,?_,.inr ⟨J,J⟩⟩
   have:=m 0 au
   simp[jZ,xC]at this
   simp[loadVar,dH,Nc d,eo,jx,b8,run_load this]
def qf(tt:TT)(t:G):aw (G×Bool):=match iJ t tt with
 |some a=>if a.agg then ad (a.size,ae)else if a.size=1 then ad (1,ah)else none
 |none=>none
def Je(b:cE P tt=ae){t sz}{d}(a:qf tt t=ad (sz,d)):xA P t=ad d/\(∃i,P.info? t=ad i/\i.size=sz)/\(d=ah->sz=1):=by
 unfold qf at a;split at a
 .rename_i s n;have f:=fw b n;let ⟨i,l,m,_⟩:=f.info;split at a
  next k=>simp at a;obtain⟨rfl,rfl⟩:=a;exact⟨by rw[f.agg,k],⟨i,l,m⟩,au⟩
  .rename_i k;split at a
   next p=>simp at a;obtain⟨rfl,rfl⟩:=a;exact⟨by rw[f.agg];simpa using k,⟨i,l,by rw[m];exact p⟩,λ_=>rfl⟩
   .simp at a
 .simp at a
def Jf(A:cE P tt=ae){t sz}{z}(T:qf tt t=ad (sz,z)){B}{vs}(D:a6 g B vs){a}{x}(d:pn B a sz z=ad x)
 b n (hc:∀k(N:k<Z vs),W.cell? ⟨b,n+k,none⟩=ad vs[k]):∃v,(aaY t<|.pointer<|ad ⟨b,n+a,none⟩).run P W= .ok v W/\bh g x v:=by
 let ⟨C,⟨i,X,e⟩,f⟩:=Je A T
 have Q:=D.length
 have H:a+sz<=Z B:=by
  unfold pn at d;cases z with
  |true=>simp only[cz]at d;split at d<;>simp_all
  |false=>
   simp only[jx,b8,bY]at d
   let ⟨c,l,_⟩:=d
   have:=(qQ.1 l).1
   have:=f J
   omega
 let ⟨v,p,m⟩:=amO (W:=W) C X b (n+a) ((az a vs).take sz) cd (by rw[e];exact f) (λk N=>by simp at N;have:=hc (a+k) Y;simp only[tD,vV];rw[(Y:n+a+k=n+(a+k))];exact this)
 refine⟨v,by simpa[aaY,I9]using p,?_⟩
 unfold pn at d
 cases z with
 |true=>
  simp only[cz]at d
  split at d
  .simp only[aq]at d;subst d;rcases m with⟨_,rfl⟩|⟨K,_⟩
   .exact⟨_,J,(D.drop a).take sz⟩
   .simp at K
  next q=>exact aF H q
 |false=>
  simp only[jx,b8,bY]at d
  obtain⟨c,l,rfl⟩:=d
  rcases m with⟨K,_⟩|⟨_,m⟩
  .simp at K
  .let ⟨u,hu,s⟩:=D.get l;have r:=f J;subst r;have:(az a vs).take 1=[u]:=by rw[List.take_one,List.head?_drop,hu];rfl
   rw[this]at m;simp only[I',and_true]at m;subst m;exact s
def Jg(tt:TT)(b:St)(t:G)(x:AV):aw (AV×Pr×E G):=match qf tt t with
 |some (sz,a)=>(match x with
  | .c (.P id off)=>(match iJ id b.mem with
   |some (.box _ _ cs)=>(match pn cs off sz a with|some y=>ad (y,.t,[id])|none=>none)
   |some (.fz _ cs)=>(match pn cs off sz a with|some y=>ad (y,.t,[id])|none=>none)
   |_=>none)
  | .c (.E T e off)=>(match pn (av T e) off sz a with|some y=>ad (y,.t,[])|none=>none)
  | .c (.Y id n i off)=>(match iJ id b.mem with
   |some (.vec _ T xs)=>if T.n=n then(match pn (av T<|List.getD xs i T.eP) off sz a with|some y=>ad (y,.CW i<|Z xs,[id])|none=>none)else none
   |_=>none)
  |_=>none)
 |none=>none
def fZ(f:St)(a:E G):E (Key×Info):=a.flatMap λd=>match iJ d f.mem with
 |some b=>[(.m d,.b b)]
 |none=>[]
def xD{b}{vs}{d}{f}(i:W.heap[b]? =ad (.cells vs.toArray d f)) a(k:a<Z vs):W.cell? ⟨b,a,none⟩=ad vs[a]:=by simp[Jh,i,k]
def Ji:∀(T:ET)(x:T.den),b6 (av T x)=[]
 | .int _,_=>rfl
 | .bool,_=>rfl
 | .z,_=>rfl
 | .q,_=>rfl
 | .sl _,_=>rfl
 | .pr A B,x=>by
  have i:∀(a b:E C),b6 a=[]->b6 b=[]->b6 (a++b)=[]:=by
   intro a;induction a with
   |nil=>intro b _ d;exact d
   |cons c a k=>
    intro b f d
    simp[b6,TM]at f
    simp[mY,b6,TM]
    exact⟨f.1,k b f.2 d⟩
  exact i _ _ (Ji A x.1)<|Ji B x.2
def aaZ(cK:cE P tt=ae){ops}{i}{aG:a8}{d:G}(ho:ops[i]? =ad aG)(hg:aG.guard=none)(hd:aG.dst=ad d){n}(dG:d<n){t}{x}(b9:aG.op= .load t x)
 {st}{v cc}{p}{ids:E G} (hx:st.ev x=ad v) (B:Jg tt st t v=ad (cc,p,ids)) (hp:p) (new:G):
  jd P n ops i (cQ st x++fZ st ids) [(.s d,ad<|.v cc)] new:=by
 refine uO ho hg hd dG _ cc new ?_
 intro F known σ g W a C L
 have Q:=dY C st x v hx<|λkx cy=>L kx<|eT _ cy
 have q:∀X∈ids,∀b,iJ X st.mem=ad b->σ (.m X)=ad (.b b):=by intro X aY b hb;exact L (.m X,.b b)<|gO _<|js.2 ⟨X,aY,by simp[hb]⟩
 have H:execOp a.eval aG=(do pure (.value<|<-aaY t (a.eval x))):=xE
 unfold Jg at B
 split at B
 .rename_i sz ag I;split at B
  .rename_i X M;split at B
   .rename_i bt bz cs O;split at B
    next z r=>simp at B;obtain⟨rfl,rfl,rfl⟩:=B;have N:=q X au _ O;let ⟨b,vs,rest,w,R,S,_,_⟩:=C.cM X _ N;let ⟨b',f,hv⟩:=Q;rw[w]at f;simp at f;subst f;let ⟨u,A,hu⟩:=Jf (W:=W) cK I S r b 0 (λj J=>by have:=xD R j cd;rw[sa J]at this;simpa using this);refine⟨λK D=>C.ak _ _ N K<|AW r K D,u,?_,hu⟩;rw[H,hv];simp[fD]at A;simp[A,mX,pure]
    .simp at B
   .rename_i bt cs O;split at B
    next z r=>simp at B;obtain⟨rfl,rfl,rfl⟩:=B;have N:=q X au _ O;let ⟨b,vs,rest,w,R,S,_⟩:=C.cM X _ N;let ⟨b',f,hv⟩:=Q;rw[w]at f;simp at f;subst f;let ⟨u,A,hu⟩:=Jf (W:=W) cK I S r b 0 (λj J=>by have:=xD R j cd;rw[sa J]at this;simpa using this);refine⟨λK D=>C.ak _ _ N K<|AW r K D,u,?_,hu⟩;rw[H,hv];simp[fD]at A;simp[A,mX,pure]
    .simp at B
   .simp at B
  .rename_i T e M;split at B
   .rename_i z r;simp at B;obtain⟨rfl,rfl,rfl⟩:=B;let ⟨b,o',cs,hv,U,hc⟩:=Q;let ⟨u,A,hu⟩:=Jf (W:=W) cK I (AS T e cs U) r b o'<|λj J=>C.sub _ _ _<|hc j J;refine⟨λK D=>?_,u,?_,hu⟩
    .have:=AW r K D;rw[Ji]at this;cases this
    .rw[H,hv];simp[A,mX,pure]
   .simp at B
  .rename_i X m k M;split at B
   .rename_i bt T xs O;split at B
    .rename_i uQ;split at B
     .rename_i z r;simp at B;obtain⟨rfl,rfl,rfl⟩:=B;have N:=q X au _ O;let ⟨b',l,c,f,hv⟩:=Q;rcases C.cM X _ N with⟨_,h0⟩|⟨b,cap,vs,w,R,hlen,hle,_,S,_,_⟩
      .subst h0;simp[Pr.h]at hp
      .rw[w]at f;simp[aaX,Addr.mk.injEq]at f;obtain⟨rfl,_,_⟩:=f;have hp:k<Z xs:=hp;have V:=S k hp;rw[show xs[k]=List.getD xs k T.eP by rw[aO,df hp];rfl]at V;have xF:(k+1)*T.n<=cap*T.n:=dS _ Y;rw[gY,je]at xF;have az2:Z ((az (k*T.n) vs).take T.n)=T.n:=cd;let ⟨u,A,hu⟩:=Jf (W:=W) cK I (AS T _ _ V) r b (k*T.n) (λj J=>by have:=xD R (k*T.n+j) Y;simp[tD,vV];exact this);refine⟨λK D=>?_,u,?_,hu⟩
       .have:=AW r K D;rw[Ji]at this;cases this
       .rw[H,hv,<-uQ];simp[A,mX,pure]
     .simp at B
    .simp at B
   .simp at B
  .simp at B
 .simp at B
def po:aT->Bool
 | .agg _=>ah
 | .tuple _=>ah
 |_=>ae
def lO:C->Bool
 | .any=>ah
 | .V v=>po v
 | .M _=>ah
 | .X _=>ah
 |_=>ae
def aa0{f}{v}(s:lO f=ae)(d:de g f v):po v=ae:=by
 cases f with
 |any=>simp[lO]at s
 |B b=>simp[de]at d;subst d;rfl
 |I k n=>simp[de]at d;subst d;rfl
 |V u=>simp[de]at d;subst d;exact s
 |S T xs=>obtain⟨a,p,rfl,_⟩:=d;rfl
 |P id off=>obtain⟨b,_,rfl⟩:=d;rfl
 |X id=>simp[lO]at s
 |Y id n i off=>obtain⟨b,l,f,_,rfl⟩:=d;rfl
 |E T x off=>obtain⟨b,o,t,rfl,_⟩:=d;rfl
 |M m=>simp[lO]at s
 |L id off len p=>
  cases p with
  |some f=>obtain⟨b,_,rfl⟩:=d;rfl
  |none=>obtain⟨_,b,f,_,rfl,_⟩:=d;rfl
 |W id off len=>obtain⟨b,f,_,rfl,_⟩:=d;rfl
def jy(W:cJ)(b:G)(vs:E aT)(a:eI):cJ:={W with heap:=W.heap.setIfInBounds b<|.cells vs.toArray a (0,0)}
def FQ{b}{vs}{a}(d:b<W.heap.size):(jy W b vs a).heap[b]? =ad (.cells vs.toArray a (0,0)):=by simp[jy,d]
def y4{b k}{vs}{a}(d:b≠k):(jy W b vs a).heap[k]? =W.heap[k]? :=by simp[jy,l0 d]
def amP{b j}{vs}{a}(d:W.heap[b]? =ad (.cells vs.toArray a (0,0)))(i:j<Z vs){v}(l:po v=ae):
  (store ⟨b,j,none⟩ v).run P W= .ok () (jy W b (vs.set j v) a):=by
 have m:b<W.heap.size:=(fY.1 d).1
 have n:W.cell? ⟨b,j,none⟩=ad vs[j]:=xD d j i
 have p:W.frozen? ⟨b,j,none⟩=ah:=by simp[World.frozen?,d]
 have s:W.setCell ⟨b,j,none⟩ v=jy W b (vs.set j v) a:=by
  unfold World.setCell jy;congr 1;apply amQ;intro k;rw[Array.getElem?_modify,amR];have f:W.heap[b]= .cells vs.toArray a (0,0):=(fY.1 d).2;by_cases e:b=k
  .subst e;simp[m,f]
  .simp[e]
 cases v<;>simp[store,mX,n,p,s]<;>simp[po]at l
def amS{b}{vs a}{f d}:jy (jy W b vs f) b a d=jy W b a d:=by simp[jy]
def amT{b}{vs}{a}(f:W.heap[b]? =ad (.cells vs.toArray a (0,0))):jy W b vs a=W:=by
 have i:b<W.heap.size:=(fY.1 f).1;have:W.heap.setIfInBounds b (.cells vs.toArray a (0,0))=W.heap:=by
  apply amQ;intro k;rw[amR];by_cases e:b=k
  .subst e;have d:W.heap[b]= .cells vs.toArray a (0,0):=(fY.1 f).2;simp[i,d]
  .simp[e]
 unfold jy;rw[this]
def cR{b:Type}(vs d:E b)(a:G):E b:=r a vs++d++az (a+Z d) vs
def y5{b:Type}(vs a:E b) off(d:off+Z a<=Z vs):(cR vs a off).length=Z vs:=by simp[cR];omega
def aa1{a:Type} vs us(u:a) off(h:off<Z vs):cR (vs.set off u) us (off+1)=cR vs (u::us) off:=by
 unfold cR;rw[List.drop_set_of_lt Y];have b:(vs.set off u).take (off+1)=r off vs++[u]:=by rw[TN fg];simp[List.take_set,List.getElem_set_self];rw[List.set_eq_of_length_le cd]
 rw[b];simp[nt,mY];rw[(Y:off+1+Z us=off+(Z us+1))]
def A1(b:G){l:eI}:∀(f:E aT)(W:cJ)(vs:E aT)(a i:G),W.heap[b]? =ad (.cells vs.toArray l (0,0))->a+i+Z f<=Z vs->(∀u∈f,po u=ae)->
  (storeCells ⟨b,a,none⟩ f i).run P W= .ok () (jy W b (cR vs f<|a+i) l)
 |[],W,vs,a,i,k,_,_=>by
  have:cR vs [] (a+i)=vs:=by simp[cR]
  rw[this,amT k];simp[storeCells,pure]
 |u::f,W,vs,a,i,k,hle,d=>by simp at hle;have m:b<W.heap.size:=(fY.1 k).1;simp[storeCells,ns,dH,amP (P:=P) k (j:=a+i) Y<|d u au,eo,A1 b f (jy W b (vs.set (a+i) u) l) (vs.set (a+i) u) a (i+1) (FQ m) cd<|λx hx=>d x mW,amS];rw[(Y:a+(i+1)=a+i+1),aa1 _ _ _ _ Y]
def l3:AV->aw (E C)
 | .c x=>ad [x]
 | .a cs=>ad cs
 | .t _=>none
def No{x}{i}(b:l3 x=ad i){v}(d:bh g x v)(f:∀k∈i,lO k=ae):∃vs,v.cells=vs.toArray/\a6 g i vs:=by
 cases x with
 |c y=>
  simp[l3]at b
  subst b
  have l:=aa0 (f y au) d
  refine⟨[v],?_,v,[],J,d,J⟩
  cases v<;>first|rfl| (simp[po]at l)
 |a ds=>
  simp[l3]at b
  subst b
  obtain⟨vs,rfl,d⟩:=d
  exact⟨vs,J,d⟩
 |t _=>simp[l3]at b
def a6.one{b}{vs}(d:a6 g b vs)(a:∀f∈b,lO f=ae):∀v∈vs,po v=ae:=by
 induction b generalizing vs with
 |nil=>simp[a6]at d;subst d;simp
 |cons f b l=>
  obtain⟨v,r,rfl,m,n⟩:=d
  intro u i
  rcases b7.1 i with rfl|i
  .exact aa0 (a f au) m
  .exact l n (λp k=>a p<|by simp[k]) u i
def a6.cR{a b}{vs d}(f:a6 g a vs)(i:a6 g b d) off:a6 g (Go.El.cR a b off) (Go.El.cR vs d off):=by unfold Go.El.cR;rw[i.length];exact a6.append (a6.append (f.take off) i)<|f.drop _
def FR a b:∀d∈b6 (a++b),d∈b6 a\/d∈b6 b:=by
 induction a with
 |nil=>intro d h;exact .inr h
 |cons c a f=>
  intro d h
  simp[mY,b6]at h⊢
  rcases h with h|h
  .exact .inl<|.inl h
  .rcases f d h with h|h
   .exact .inl<|.inr h
   .exact .inr h
end
section
variable{P:bW}{tt:TT}
def Jj(tt:TT)(a:St)(t:G)(x v:AV):aw (G×aA):=match qf tt t,x,l3 v with
 |some (sz,_),.c (.P id off),ad us=>(match iJ id a.mem with
  |some (.box E b cs)=>if Z us=sz/\off+sz<=Z cs/\us.all lO=ae then ad (id,.box E b<|cR cs us off)else none
  |_=>none)
 |_,_,_=>none
def FT cs us off:∀a∈b6 (cR cs us off),a∈b6 cs\/a∈b6 us:=by
 intro a b;unfold cR at b;rcases FR _ _ a b with h|h
 .rcases FR _ _ a h with h|h
  .exact .inl<|FM _ _ a h
  .exact .inr h
 .exact .inl<|I5 _ _ a h
def A2{H}{W}(g:Sub H W){b}{vs}{i}(k:∀a,H b a=none):Sub H (jy W b vs i):=by
 intro f a v d;by_cases e:b=f
 .subst e;rw[k a]at d;cases d
 .simp[Jh,y4 e];exact g f a v d
def Np{b:Type}(vs rest a:E b) off(d:off+Z a<=Z vs):cR (vs++rest) a off=cR vs a off++rest:=by unfold cR;rw[y6 Y,C3 Y];simp[nt]
def aa2(cK:cE P tt=ae){ops}{i}{aG}(ho:ops[i]? =ad aG)(hg:aG.guard=none)(hd:aG.dst=none){n}{t:eI}{x cc}(b9:aG.op= .store t x cc)
 {A}{vx vy}{id}{bk:aA} (hx:A.ev x=ad vx) (hy:A.ev cc=ad vy) (B:Jj tt A t vx vy=ad (id,bk)) (new:G):
  jd P n ops i (cQ A x++cQ A cc++fZ A [id]) [(.m id,ad<|.b bk)] new:=by
 intro F lM Q L σ g W a K r d C hK
 have M:=dY d A x vx hx<|λw cy=>C w e9
 unfold Jj at B
 split at B
 .rename_i _ sz ag u l us S p;split at B
  .rename_i E bz cs hl;split at B
   .rename_i N;let ⟨h1,h2,h3⟩:=N;simp only[aq,bM]at B;obtain⟨rfl,rfl⟩:=B;have s:σ (.m u)=ad (.b<|.box E bz cs):=C (.m u,.b<|.box E bz cs) sb;let ⟨b,vs,rest,T,hh,hr,hN,hz,U⟩:=d.cM u _ s;let ⟨b',v,hv⟩:=M;rw[T]at v;simp only[aq]at v;subst v;have H:∀c∈us,lO c=ae:=λc hc=>nY.1 h3 c hc
    let ⟨ws,V,X⟩:=No p (dY d A cc vy hy<|λw cy=>C w e9) H;let ⟨_,⟨ti,Z,aa3⟩,_⟩:=Je cK S;have az3:=X.length;have amU:=hr.length;have I:(TO t (a.eval x)<|a.eval cc).run P W= .ok () (jy W b (cR (vs++rest) ws l) E):=by rw[hv];simp only[TO,I9,storeVar,dH,C0,eo,run_sizeOf Z,V];have:¬(ws.toArray.size≠ti.size):=cd;simp only[this,b8];have:=A1 (P:=P) b ws W (vs++rest) l 0 hh cd<|X.one H;simp only[jZ]at this;simpa using this
    unfold wpOp;simp only[ho,iv,hg,cz];refine .inl ?_;unfold p';have hex:(execOp a.eval aG).run P W= .ok .skip (jy W b (cR (vs++rest) ws l) E):=by rw[execOp,b9];simp[I,mX,pure]
    rw[hex];simp only[ph,hd,iK];have hb:b<W.heap.size:=(fY.1 hh).1;refine hK g _ a<|d.step (chg:=λj=>j=u) (g':=g) ⟨⟨cL.refl _,λ_ _=>rfl⟩,λ_ _ _=>rfl,A2 d.sub hz,A3,?_,J,J,J⟩ _ new r J d.defers (λ_ _=>rfl) ?_ ?_ ?_ ?_ ?_
    .intro k hk eZ;have:b≠k:=λe=>eZ u J (by rw[T,e])
     exact y4 this
    .intro j D;subst D;exact⟨y7,_,s⟩
    .intro t' v' ht;simp[aD]at ht
    .intro j bk D;simp only[aD]at D;split at D
     next e=>simp only[Key.m.injEq]at e;subst e;simp only[aq,Info.b.injEq]at D;subst D;have tE:cR (vs++rest) ws l=cR vs ws l++rest:=Np vs rest ws l Y;exact⟨⟨b,cR vs ws l,rest,T,Nq,hr.cR X l,hN,hz,λh0=>by let ⟨c,e1,e2⟩:=U h0;refine⟨c,e1,?_⟩;rw[<-tE,y5 _ _ _ cd];exact e2⟩,.inl ⟨d.dX _ _ s,_,s⟩⟩
     .simp at D
    .intro k z f;simp only[aD]at f;split at f
     .simp only[aq]at f;subst f;intro j D;rcases FT _ _ _ j D with h|h
      .exact .inl<|d.ak _ _ s j h
      .refine .inl<|(tx d A cc vy hy<|λw cy=>C w e9) j ?_;cases vy with
       |c q=>simp only[l3,aq]at p;subst p;simpa[b6,AV.ak]using h
       |a q=>simp only[l3,aq]at p;subst p;exact h
       |t q=>simp[l3]at p
     .simp at f
    .intro j z f;simp only[aD]at f;split at f
     next e=>simp only[Key.m.injEq]at e;subst e;exact .inl<|d.dX _ _ s
     .simp at f
   .simp at B
  .simp at B
 .simp at B
def FU(W:cJ)(a:Obj) k(b:k<W.heap.size):(W.heap.push a)[k]? =W.heap[k]? :=by rw[Array.getElem?_push,y Y]
def C4{H}{W}(g:Sub H W)(f:Obj):Sub H {W with heap:=W.heap.push f}:=by intro b a v i;have d:=g b a v i;have k:=C5 W _ d;simp[Jh]at d⊢;rw[FU W f b k];exact d
def aa4{D}{i}{z:a8}{d:G}(ho:D[i]? =ad z)(hg:z.guard=none)(hd:z.dst=ad d){n}(dG:d<n){bt}rd cs new
  (cA:∀(hZ:dO)(f:G->Prop)(σ:Kn)(g:Gh)(W:cJ)(a:Act),aR hZ f σ g W a->(∀kx∈rd,σ kx.1=ad kx.2)->
   (∀p∈b6 cs,f p)/\∃vs,a6 g cs vs/\(execOp a.eval z).run P W= .ok (.value<|.pointer<|ad ⟨W.heap.size,0,none⟩) {W with heap:=W.heap.push<|.cells vs.toArray bt (0,0)}):
  jd P n D i rd [(.s d,ad<|.v<|.c<|.P new 0),(.m new,ad<|.b<|.box bt 0 cs)] new:=by
 intro hZ lM Q f σ g W a K A aX X w
 let ⟨hm,vs,hr,N⟩:=cA hZ f σ g W a aX X
 unfold wpOp
 simp only[ho,iv,hg,cz]
 refine .inl ?_
 unfold p'
 rw[N]
 simp only[ph,hd]
 have j:d<a.tmps.size:=nX
 let B:Gh:=⟨g.H,λp=>if p=new then .pointer (ad ⟨W.heap.size,0,none⟩)else g.γ p⟩
 have T:gN f g B:=⟨cL.refl _,λp l=>by
  have:p≠new:=λe=>A<|e▸l
  simp[B,this]⟩
 have x:∀z,g.H W.heap.size z=none:=by
  intro z;cases hv:g.H W.heap.size z with
  |none=>rfl
  |some v=>
   have:=C5 W _<|aX.sub _ _ _ hv
   simp at this
 refine w B _ _<|aX.step (chg:=λ_=>False) (g':=B) ⟨T,λ_ _ _=>rfl,C4 aX.sub _,au,λk q _=>FU W _ k q,J,J,J⟩ _ new A pj aX.defers ?_ (λ_ cA=>cA.elim) ?_ ?_ ?_ ?_
 .intro t ht;have r:d≠t:=uR;simp[iK,l0 r]
 .intro t u ht;simp only[aD]at ht;split at ht
  next e=>simp only[Key.s.injEq]at e;simp only[aq,Info.v.injEq]at ht;subst e;subst ht;refine⟨W.heap.size,by simp[B,cO],?_⟩;simp[iK,j]
  .split at ht
   .simp at ht
   .simp at ht
 .intro p b ht;simp only[aD,reduceCtorEq,b8]at ht;split at ht
  next e=>simp only[Key.m.injEq]at e;subst e;simp only[aq,Info.b.injEq]at ht;subst ht;refine⟨⟨W.heap.size,vs,[],by simp[B,cO],au,a6.mono T hm hr,.inl aX.below.size,x,au⟩,.inr ⟨J,λk q=> .inl ?_⟩⟩;simp only[B,cz,cO,aq]at q;omega
  .simp at ht
 .intro k y ht;simp only[aD]at ht;split at ht
  .simp only[aq]at ht;subst ht;intro p l;simp[Info.ak,AV.ak,C.ak]at l;exact .inr l
  .split at ht
   .simp only[aq]at ht;subst ht;exact λp l=> .inl<|hm p l
   .simp at ht
 .intro p y ht;simp only[aD,reduceCtorEq,b8]at ht;split at ht
  next e=>simp only[Key.m.injEq]at e;exact .inr e.symm
  .simp at ht
def amV{p}{i}{A:a8}{d:G}(ho:p[i]? =ad A)(hg:A.guard=none)(hd:A.dst=ad d){n}(H:d<n){bt}{x}(N:A.op= .box bt x)
 {B}{v}{D}(hx:B.ev x=ad v) (f:l3 v=ad D) (Q:D.all lO=ae) (k:G):
  jd P n p i (cQ B x) [(.s d,ad<|.v<|.c<|.P k 0),(.m k,ad<|.b<|.box bt 0 D)] k:=by
 refine aa4 ho hg hd H _ D k ?_
 intro F C r g W a l u
 let ⟨vs,K,T⟩:=No f (dY l B x v hx u)<|λc h=>nY.1 Q c h
 refine⟨λj z=>(tx l B x v hx u) j ?_,vs,T,?_⟩
 .cases v with
  |c q=>simp[l3]at f;subst f;simpa[b6,AV.ak]using z
  |a q=>simp[l3]at f;subst f;exact z
  |t q=>simp[l3]at f
 .rw[execOp,N];simp[Instr.box,newVar,newRow,newObj,K,mX,pure]
def A4(g:Gh):∀a:E ZV,a6 g (a.map ZV.qP) (a.map ZV.fU)
 |[]=>rfl
 |z::a=>⟨_,_,J,by cases z<;>rfl,A4 g a⟩
def amW(x:cE P tt=ae){f}{i}{p:a8}{d:G}(Q:f[i]? =ad p)(T:p.guard=none)(hd:p.dst=ad d){n}(A:d<n){B}(D:p.op= .alloc B)
 {t}(H:iJ B tt=ad t) new:
  jd P n f i [] [(.s d,ad<|.v<|.c<|.P new 0),(.m new,ad<|.b<|.box B 0<|t.zero.map ZV.qP)] new:=by
 refine aa4 Q T hd A _ _ new ?_
 intro F C q g W a N X
 let ⟨r,e,_,_,z,h,K⟩:=(fw x H).info
 refine⟨?_,t.zero.map ZV.fU,A4 g _,?_⟩
 .intro w k;exfalso;have:∀u:E ZV,b6 (u.map ZV.qP)=[]:=by
   intro u;induction u with
   |nil=>rfl
   |cons z u j=>simp[gX,b6,j];cases z<;>rfl
  rw[this]at k;cases k
 .have l:z.cells=(t.zero.map ZV.fU).toArray:=by rw[<-Nr];simpa using K
  rw[execOp,D];simp[Instr.alloc,zeroValue,typeInfo,e,h,newVar,newRow,newObj,l,mX,pure]
def TP(tt:TT)(b:St)(t a:G)(i:AV):aw (AV×Pr):=match iJ a b.mem,i with
 |some (.vec _ T xs),.c (.I _ k)=>if yW tt t T.n then ad (.c<|.Y a T.n (af k) 0,.and (.le 0 k)<|.lt k<|Z xs)else none
 |_,_=>none
def amX(cK:cE P tt=ae){N}{i}{Q:a8}{d:G}(ho:N[i]? =ad Q)(hg:Q.guard=none)(hd:Q.dst=ad d){n}(dG:d<n){t}{x H}(b9:Q.op= .indexAddr t x H)
 {l}{z}{vy v}{p:Pr} (hx:l.ev x=ad (.c<|.X z)) (hy:l.ev H=ad vy) (A:TP tt l t z vy=ad (v,p)) (hp:p) (new:G):
  jd P n N i (cQ l x++cQ l H++fZ l [z]) [(.s d,ad<|.v v)] new:=by
 refine uO ho hg hd dG _ v new ?_
 intro F w U g W a f u
 have I:a.eval x=g.γ z:=dY f l x _ hx<|λK cy=>u K e9
 have J:=dY f l H vy hy<|λK cy=>u K e9
 unfold TP at A
 split at A
 .rename_i E T xs Y k hl;split at A
  .rename_i M;simp at A;obtain⟨rfl,rfl⟩:=A;have O:U (.m z)=ad (.b<|.vec E T xs):=u (.m z,.b<|.vec E T xs) sb;let ⟨e,i',R,hi,hs⟩:=FN cK M;have q:a.eval H= .int Y k:=J;rcases f.cM z _ O with⟨_,h0⟩|⟨b,S,vs,r,_⟩
   .subst h0;simp[Pr.h]at hp;omega
   .refine⟨λj hj=>(tx f l x _ hx<|λK cy=>u K e9) j TQ,.pointer (ad ⟨b,af k*T.n,none⟩),?_,b,Z xs,S,r,au⟩;have B:execOp a.eval Q=(do pure (.value<|<-CZ t (a.eval x) (a.eval H))):=xE;rw[B,I,r,q];have D:(0<=k/\k<(Z xs:V)):=hp;simp[CZ,asIntOf,dH,run_underlying R,eo];simp[D,run_sizeOf hi,hs,ns]
  .simp at A
 .simp at A
def TS(tt:TT)(f:St)(t d a b:G)(i:AV):aw (AV×Pr):=match iJ d f.mem,i with
 |some (.vec _ T _),.c (.I _ k)=>if T.n=1/\yW tt t 1=ae then ad (.c<|.Y d 1 (a+af k) 0,.and (.le 0 k)<|.lt k b)else none
 |_,_=>none
def amY(cK:cE P tt=ae){ops}{i}{aG:a8}{d:G}(ho:ops[i]? =ad aG)(hg:aG.guard=none)(hd:aG.dst=ad d){n}(dG:d<n){t}{x Q}(b9:aG.op= .indexAddr t x Q)
 {u}{id B D}{vy v}{p:Pr} (hx:u.ev x=ad (.c<|.W id B D)) (hy:u.ev Q=ad vy) (H:TS tt u t id B D vy=ad (v,p)) (hp:p) (new:G):
  jd P n ops i (cQ u x++cQ u Q++fZ u [id]) [(.s d,ad<|.v v)] new:=by
 refine uO ho hg hd dG _ v new ?_
 intro F q R g W a f z
 let ⟨b0,c0,l,r,_⟩:=dY f u x _ hx<|λX cy=>z X e9
 have w:=dY f u Q vy hy<|λX cy=>z X e9
 unfold TS at H
 split at H
 .rename_i E T xs S k hl;split at H
  .rename_i J;simp at H;obtain⟨rfl,rfl⟩:=H;have L:R (.m id)=ad (.b<|.vec E T xs):=z (.m id,.b<|.vec E T xs) sb;let ⟨e,i',M,U,Y⟩:=FN cK J.2;have h:a.eval Q= .int S k:=w;rcases f.cM id _ L with⟨A,_⟩|⟨b,O,vs,A,_⟩
   .rw[A]at l;simp[cO]at l
   .rw[A]at l;simp[cO]at l;subst l;refine⟨λj hj=>(tx f u x _ hx<|λX cy=>z X e9) j TQ,.pointer (ad ⟨b,B+af k,none⟩),?_,b,Z xs,O,A,au⟩;have K:execOp a.eval aG=(do pure (.value<|<-CZ t (a.eval x) (a.eval Q))):=xE;rw[K,r,h];have N:(0<=k/\k<(D:V)):=hp;simp[CZ,asIntOf,dH,run_underlying M,eo];simp[N,run_sizeOf U,Y,ns]
  .simp at H
 .simp at H
def TU(tt:TT)(a:St)(t b:G):aw AV:=match iJ b a.mem,iJ t tt with
 |some (.vec _ _ xs),ad d=>(match d.kind with| .sl _=>ad (.c<|.I .i64<|Z xs)|_=>none)
 |_,_=>none
def amZ(N:cE P tt=ae){u}{i}{H:a8}{d:G}(ho:u[i]? =ad H)(hg:H.guard=none)(hd:H.dst=ad d){n}(Q:d<n){t}{x}(b9:H.op= .call ⟨.builtin .len,#[x],#[t]⟩)
 {z}{k}{v}(hx:z.ev x=ad (.c<|.X k)) (l:TU tt z t k=ad v) (A:G):
  jd P n u i (cQ z x++fZ z [k]) [(.s d,ad<|.v v)] A:=by
 refine uO ho hg hd Q _ v A ?_
 intro F K q g W a f B
 have D:a.eval x=g.γ k:=dY f z x _ hx<|λr cy=>B r e9
 unfold TU at l
 split at l
 .rename_i E T xs M hl w;split at l
  .rename_i e y;simp at l;subst l;have h:q (.m k)=ad (.b<|.vec E T xs):=B (.m k,.b<|.vec E T xs) sb;have j:=(fw N w).kind;rw[y]at j;refine⟨tz,.int .i64<|Z xs,?_,J⟩;rw[execOp,b9];rcases f.cM k _ h with⟨p,I⟩|⟨b,L,vs,p,_⟩
   .subst I;simp[resolve,invoke,builtin,aaU,D,p,run_underlying j,goInt,mX,pure]
   .simp[resolve,invoke,builtin,aaU,D,p,run_underlying j,goInt,mX,pure]
  .simp at l
 .simp at l
def Jk(T:ET):E C->aw T.den:=match T with
 | .int k=>λa=>(match a with|[.I d n]=>if k=d then ad n else none|_=>none)
 | .bool=>λa=>(match a with|[.B b]=>ad b|_=>none)
 |_=>λ_=>none
def am0{T}{b}{x:T.den}(a:Jk T b=ad x):b=av T x:=by
 cases T with
 |int k=>
  simp[Jk]at a
  split at a
  .split at a
   next e=>subst e;simp at a;subst a;rfl
   .simp at a
  .simp at a
 |bool=>
  simp[Jk]at a
  split at a
  .simp at a;subst a;rfl
  .simp at a
 |_=>simp[Jk]at a
def FV:∀(T:ET)(x:T.den),∀b∈av T x,lO b=ae
 | .int _,_,b,a=>by simp[av]at a;subst a;rfl
 | .bool,_,b,a=>by simp[av]at a;subst a;rfl
 | .z,_,b,a=>by simp[av]at a;rcases a with rfl|rfl<;>rfl
 | .q,_,b,a=>by simp[av]at a;rcases a with rfl|rfl|rfl|rfl<;>rfl
 | .sl _,_,b,a=>by simp[av]at a;subst a;rfl
 | .pr A B,x,b,a=>by
  simp[av]at a;rcases a with a|a
  .exact FV A _ b a
  .exact FV B _ b a
def am1{g:Type}(vs d:E g) n i a(p:Z d=n)(l:(i+1)*n<=Z vs)(m:i≠a):r n ((cR vs d<|i*n).drop<|a*n)=(az (a*n) vs).take n:=by
 have s:(i+1)*n=i*n+n:=Jl;apply List.ext_getElem?;intro k;rw[Jm,Jm];split
 .rename_i t;rw[uS,uS];unfold cR;rcases r7 a i with b|b
  .have f:(a+1)*n<=i*n:=dS _ b;rw[gY,je]at f;rw[nt,C6 cd,Jn Y]
  .have f:(i+1)*n<=a*n:=dS _ Y;rw[C7 cd,uS];simp[iC];congr 1;omega
 .rfl
def am2{b:Type}(vs a:E b) n i(f:Z a=n)(d:(i+1)*n<=Z vs):r n ((cR vs a<|i*n).drop<|i*n)=a:=by have g:(i+1)*n=i*n+n:=Jl;unfold cR;have:(r (i*n) vs).length=i*n:=cd;rw[nt,C3 Y,vX Y,vW,y6 Y,jM Y]
def aa5(cK:cE P tt=ae){ops}{i}{aG}(ho:ops[i]? =ad aG)(hg:aG.guard=none)(hd:aG.dst=none){n}{t:eI}{x cc}(b9:aG.op= .store t x cc)
 {A}{u m k}{bt}{T:ET} {xs:E T.den} {vy:AV} (hx:A.ev x=ad (.c<|.Y u m k 0)) (hy:A.ev cc=ad vy) (hl:iJ u A.mem=ad (.vec bt T xs)) (hm:T.n=m) {ag:Bool} (FW:qf tt t=ad (m,ag)) {B:T.den} (TV:l3 vy=ad (av T B)) (hk:k<Z xs) (new:G):
  jd P n ops i (cQ A x++cQ A cc++fZ A [u]) [(.m u,ad<|.b<|.vec bt T<|xs.set k B)] new:=by
 intro F lM Q M σ g W a K X d D hK
 have p:σ (.m u)=ad (.b<|.vec bt T xs):=D (.m u,.b<|.vec bt T xs) sb
 let ⟨b',l',c',s,hv⟩:=(dY d A x _ hx<|λR cy=>D R e9)
 rcases d.cM u _ p with⟨_,h0⟩|⟨b,U,vs,N,hh,h,V,q,hr,hN,hz⟩
 .subst h0;simp at hk
 rw[N]at s
 simp only[aaX,aq,Addr.mk.injEq,and_true]at s
 obtain⟨rfl,_,_⟩:=s
 let ⟨ws,C8,r⟩:=No TV (dY d A cc vy hy<|λR cy=>D R e9)<|FV T B
 have w:dq g.H T B ws:=CR T B ws r
 have I:Z ws=T.n:=dq.length T _ _ w
 let ⟨_,⟨ti,pq,aa3⟩,_⟩:=Je cK FW
 have C:(k+1)*T.n<=Z vs:=by rw[h];exact dS _ Y
 have hk1:(k+1)*T.n=k*T.n+T.n:=Jl
 subst hm
 have L:(TO t (a.eval x)<|a.eval cc).run P W= .ok () (jy W b (cR vs ws<|k*T.n) bt):=by rw[hv];simp only[TO,I9,storeVar,dH,C0,eo,run_sizeOf pq,C8,jZ];have:¬(ws.toArray.size≠ti.size):=cd;simp only[this,b8];have:=A1 (P:=P) b ws W vs (k*T.n) 0 hh Y<|r.one<|FV T B;simp only[jZ]at this;simpa using this
 unfold wpOp
 simp only[ho,iv,hg,cz]
 refine .inl ?_
 unfold p'
 have hex:(execOp a.eval aG).run P W= .ok .skip (jy W b (cR vs ws<|k*T.n) bt):=by rw[execOp,b9];simp[L,mX,pure]
 rw[hex]
 simp only[ph,hd,iK]
 have hb:b<W.heap.size:=(fY.1 hh).1
 refine hK g _ a<|d.step (chg:=λj=>j=u) (g':=g) ⟨⟨cL.refl _,λ_ _=>rfl⟩,λ_ _ _=>rfl,A2 d.sub hz,A3,?_,J,J,J⟩ _ new X J d.defers (λ_ _=>rfl) ?_ ?_ ?_ ?_ ?_
 .intro k' uT eZ;have:b≠k':=λB=>eZ u J (by rw[N,B];rfl)
  exact y4 this
 .intro j l;subst l;exact⟨y7,_,p⟩
 .intro t' v' ht;simp[aD]at ht
 .intro j bk l;simp only[aD]at l;split at l
  .rename_i v;simp only[Key.m.injEq]at v;subst v;simp only[aq,Info.b.injEq]at l;subst l;refine⟨.inr ⟨b,U,cR vs ws<|k*T.n,by simpa using N,FQ hb,?_,by simpa using V,by simpa using q,λj l=>?_,hN,hz⟩,.inl ⟨d.dX _ _ p,_,p⟩⟩
   .rw[y5 _ _ _ Y];exact h
   .simp only[px]at l;rw[List.getElem_set];split
    next v=>subst v;rw[am2 vs ws T.n k I C];exact w
    next v=>rw[am1 vs ws T.n k j I C v];exact hr j l
  .simp at l
 .intro k' z f;simp only[aD]at f;split at f
  .simp only[aq]at f;subst f;intro j l;simp[Info.ak,aA.ak]at l
  .simp at f
 .intro j z f;simp only[aD]at f;split at f
  next v=>simp only[Key.m.injEq]at v;subst v;exact .inl<|d.dX _ _ p
  .simp at f
end
end Go.El
