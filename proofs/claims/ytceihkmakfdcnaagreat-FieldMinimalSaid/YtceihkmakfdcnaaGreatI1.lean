/- Own work; no condition. -/
import Derived.WalkKit
import Derived.OrdersIn
import Derived.Test.YtceihkmakfdcnaaGreatI0
set_option linter.all false
set_option maxHeartbeats 16000000
set_option maxRecDepth 100000
open Array renaming ext_getElem?->ak9,getElem?_setIfInBounds->ak'
open BitVec renaming ofInt->jI
open Bool renaming false->ak,true->af
open Go renaming Value->aT,IntKind->pE,TypeId->eh,World->cA,Oper->a8,Program->bO
open Go.Act renaming put->iq
open Go.Builtin renaming len_->ZD
open Go.Instr renaming fieldAt->Zz,sureAddr->Ig,extract->ZB,indexAt->Ce,sliceBound->SC,sliceBounds->yk,loadAt->ZH,storeAt->SI
open Go.Op renaming intArith->Sw
open Go.Oper renaming wp->pG,upon->oL
open Go.Region renaming binds->ve,ready->Zr,wanted->gZ
open Go.Result renaming andThen->dM
open Go.Sem renaming run_bind->dq,run_pure->Cf,run->mr
open Go.Value.slice renaming injEq->ZG
open Go.World renaming cell?->Iq,block_lt_of_cell?->Cm
open Int renaming toNat->ah
open List renaming length->Z,filter_cons_of_pos->akF,filter_cons_of_neg->akG,range->cy,drop->az,take->c
open Nat renaming one_pos->H4
open Option renaming some->ae
open _root_ renaming Nat->G,Option->aw,Int->V,List->E
namespace Go.El
open Go Go.RowKit
abbrev FH:=G->G->aw aT
inductive ET where
 |int (k:pE)|bool|z|q|sl (T:ET)|pr (A B:ET)
@[reducible] def ET.den : ET -> Type
 | .int _=>V
 | .bool=>Bool
 | .z=>V
 | .q=>Rat
 | .sl T=>E T.den
 | .pr A B=>A.den×B.den
@[reducible] def ET.et : (T : ET) -> T.den
 | .int _=>(0:V)
 | .bool=>ak
 | .z=>(0:V)
 | .q=>(0:Rat)
 | .sl _=>[]
 | .pr A B=>(A.et,B.et)
@[reducible] def ET.n : ET -> G
 | .int _=>1
 | .bool=>1
 | .z=>2
 | .q=>4
 | .sl _=>1
 | .pr A B=>A.n+B.n
def ET.B5:∀T:ET,0<T.n
 | .int _=>H4
 | .bool=>H4
 | .z=>Nat.two_pos
 | .q=>by decide
 | .sl _=>H4
 | .pr A B=>by have:=A.B5;simp only[ET.n];omega
def Ad:G->G->E V
 |0,_=>[]
 |f+1,n=>if n=0 then[]else((n%4294967296:G):V)::Ad f (n/4294967296)
def akB(n:G):E V:=Ad n n
def cv(z:V):Bool:=decide<|z<0
def eX(z:V):E V:=akB<|Int.natAbs z
def mQ{k:Type}(l:k->E aT->Prop)(n:G)(H:FH)(xs:E k)(v:aT):Prop:=
 ∃a d,v= .slice a (Z xs) d/\Z xs<=d/\Z xs*n<=140737488355328/\
  (xs=[]\/∃b f,a=ae ⟨b,f,none⟩/\∀i(h:i<Z xs),∃g,Z g=n/\l xs[i] g/\
   ∀j(m:j<Z g),H b (f+i*n+j)=ae g[j])
def ED(H:FH)(a:E V)(v:aT):Prop:=mQ (λn b=>b=[.int .u32 n]) 1 H a v
def sB(H:FH)(z:V)(vs:E aT):Prop:=∃m,vs=[.bool (cv z),m]/\ED H (eX z) m
def de(H:FH):(T:ET)->T.den->E aT->Prop
 | .int k,n,vs=>vs=[.int k n]
 | .bool,b,vs=>vs=[.bool b]
 | .z,z,vs=>sB H z vs
 | .q,d,vs=>∃a b,vs=a++b/\sB H d.num a/\sB H (d.den:V) b
 | .sl T,xs,vs=>∃v,vs=[v]/\mQ (de H T) T.n H xs v
 | .pr A B,x,vs=>∃a b,vs=a++b/\de H A x.1 a/\de H B x.2 b
def cD(H a:FH):Prop:=∀b o v,H b o=ae v->a b o=ae v
def cD.refl H:cD H H:=λ_ _ _ h=>h
def cD.trans{a d f}(g:cD a d)(k:cD d f):cD a f:=λb o v e=>k b o v<|g b o v e
def mQ.mono{p:Type}{g k:p->E aT->Prop}{n}{H m}{xs}{v}(s:mQ g n H xs v)
  (t:cD H m) (u:∀x d,g x d->k x d):mQ k n m xs v:=by
 let ⟨a,cap,e,z,h2,f⟩:=s
 refine⟨a,cap,e,z,h2,?_⟩
 rcases f with f|⟨b,off,A,hc⟩
 .exact .inl f
 .refine .inr ⟨b,off,A,λi B=>?_⟩;let ⟨d,l,r,c⟩:=hc i B;exact⟨d,l,u _ _ r,λj C=>t _ _ _<|c j C⟩
def ED.mono{H b:FH}{d v}(a:ED H d v)(f:cD H b):ED b d v:=mQ.mono a f λ_ _ a=>a
def sB.mono{H b:FH}{z vs}(a:sB H z vs)(d:cD H b):sB b z vs:=by let ⟨m,e,a⟩:=a;exact⟨m,e,a.mono d⟩
def de.mono{H k:FH}(f:cD H k):∀(T:ET)(x:T.den)(vs:E aT),de H T x vs->de k T x vs
 | .int _,_,_,d=>d
 | .bool,_,_,d=>d
 | .z,_,_,d=>sB.mono d f
 | .q,_,_,d=>by let ⟨a,b,g,i,h2⟩:=d;exact⟨a,b,g,i.mono f,h2.mono f⟩
 | .sl T,_,_,d=>by let ⟨v,g,i⟩:=d;exact⟨v,g,i.mono f<|λx l=>de.mono f T x l⟩
 | .pr A B,_,_,d=>by let ⟨a,b,g,i,h2⟩:=d;exact⟨a,b,g,de.mono f A _ _ i,de.mono f B _ _ h2⟩
def sB.length{H z vs}(a:sB H z vs):Z vs=2:=by obtain⟨m,rfl,_⟩:=a;rfl
def de.length{H:FH}:∀(T:ET)(x:T.den)(vs:E aT),de H T x vs->Z vs=T.n
 | .int _,_,_,d=>by simp only[de]at d;subst d;rfl
 | .bool,_,_,d=>by simp only[de]at d;subst d;rfl
 | .z,_,_,d=>sB.length d
 | .q,_,_,d=>by obtain⟨a,b,rfl,f,g⟩:=d;simp[f.length,g.length]
 | .sl T,_,_,d=>by obtain⟨v,rfl,_⟩:=d;rfl
 | .pr A B,_,_,d=>by obtain⟨a,b,rfl,f,g⟩:=d;simp[de.length A _ _ f,de.length B _ _ g]
def tT(b:Bool)(vs:E aT):aT:=match b with
 |true=> .agg vs.toArray
 |false=>vs.headD undef
structure MP where
 p:FH->aT->Prop
 mono:∀H a v,cD H a->p H v->p a v
inductive C where
 |any
 |B (b:Bool)
 |I (k:pE) (n:Int)
 |V (v:aT)
 |S (T:ET) (xs:List T.den)
 |P (d a:G)
 |X (d:G)
 |Y (d:G) (n i a:G)
 |E (T:ET) (x:T.den) (a:G)
 |M (m:MP)
 |L (d a len:G) (cap:aw G)
 |W (d a len:G)
inductive AV where
 |c (x:C)
 |a (b:E C)
 |t (vs:E (Bool×E C))
def av:(T:ET)->T.den->E C
 | .int k,n=>[.I k n]
 | .bool,b=>[.B b]
 | .z,z=>[.B (cv z),.S (.int .u32)<|eX z]
 | .q,a=>[.B (cv a.num),.S (.int .u32)<|eX a.num,.B<|cv (a.den:V),.S (.int .u32)<|eX (a.den:V)]
 | .sl T,xs=>[.S T xs]
 | .pr A B,x=>av A x.1++av B x.2
structure Gh where
 H:FH
 γ:G->aT
def cF:aT->aw G
 | .pointer (ae a)=>ae a.block
 | .slice (ae a) _ _=>ae a.block
 | .map (ae b)=>ae b
 |_=>none
def c6(g:Gh):C->aT->Prop
 | .any,_=>True
 | .B b,v=>v= .bool b
 | .I k n,v=>v= .int k n
 | .V u,v=>v=u
 | .S T xs,v=>mQ (de g.H T) T.n g.H xs v
 | .P id off,v=>∃b,cF (g.γ id)=ae b/\v= .pointer (ae ⟨b,off,none⟩)
 | .X id,v=>v=g.γ id
 | .Y id n i off,v=>∃b a f,g.γ id= .slice (ae ⟨b,0,none⟩) a f/\v= .pointer (ae ⟨b,i*n+off,none⟩)
 | .E T x off,v=>∃b t l,v= .pointer (ae ⟨b,t+off,none⟩)/\de g.H T x l/\∀s(z:s<Z l),g.H b (t+s)=ae l[s]
 | .M m,v=>m.p g.H v
 | .L id off a (ae d),v=>∃b,cF (g.γ id)=ae b/\v= .slice (ae ⟨b,off,none⟩) a d
 | .L id off a none,v=>off=0/\∃b d,g.γ id= .slice (ae ⟨b,0,none⟩) 0 d/\v= .slice (ae ⟨b,0,none⟩) a d/\a<=d
 | .W id off a,v=>∃b d,cF (g.γ id)=ae b/\v= .slice (ae ⟨b,off,none⟩) a d/\a<=d
def a4(g:Gh):E C->E aT->Prop
 |[],vs=>vs=[]
 |b::cs,vs=>∃v a,vs=v::a/\c6 g b v/\a4 g cs a
def B6(g:Gh):Bool×E C->aT->Prop
 | (af,cs),v=>∃vs,v= .agg vs.toArray/\a4 g cs vs
 | (ak,[a]),v=>c6 g a v
 | (ak,_),_=>False
def dy(g:Gh):E (Bool×E C)->E aT->Prop
 |[],vs=>vs=[]
 |s::b,vs=>∃v a,vs=v::a/\B6 g s v/\dy g b a
def bf(g:Gh):AV->aT->Prop
 | .c x,v=>c6 g x v
 | .a cs,v=>∃vs,v= .agg vs.toArray/\a4 g cs vs
 | .t b,v=>∃vs,v= .tuple vs.toArray/\dy g b vs
def a4.length{g:Gh}:∀{b:E C}{vs:E aT},a4 g b vs->Z vs=Z b
 |[],_,a=>by simp only[a4]at a;subst a;rfl
 |_::b,_,a=>by obtain⟨v,d,rfl,_,a⟩:=a;simp[a4.length a]
def a4.append{g:Gh}:∀{b d:E C}{vs f:E aT},a4 g b vs->a4 g d f->a4 g (b++d) (vs++f)
 |[],_,_,_,a,k=>by simp only[a4]at a;subst a;exact k
 |_::b,_,_,_,a,k=>by obtain⟨v,m,rfl,i,l⟩:=a;exact⟨v,_,J,i,a4.append l k⟩
def akC{g:Gh}{a v}(b:ED g.H a v):c6 g (.S (.int .u32) a) v:=b
def Mb{g:Gh}{z vs}(a:sB g.H z vs):a4 g (av .z z) vs:=by obtain⟨m,rfl,a⟩:=a;exact⟨_,_,J,J,_,_,J,akC a,J⟩
def Ae{g:Gh}:∀(T:ET)(x:T.den)(vs:E aT),de g.H T x vs->a4 g (av T x) vs
 | .int _,_,_,d=>by simp only[de]at d;subst d;exact⟨_,_,J,J,J⟩
 | .bool,_,_,d=>by simp only[de]at d;subst d;exact⟨_,_,J,J,J⟩
 | .z,_,_,d=>Mb d
 | .q,k,_,d=>by obtain⟨a,b,rfl,f,i⟩:=d;exact a4.append (Mb f)<|Mb i
 | .sl T,_,_,d=>by obtain⟨v,rfl,d⟩:=d;exact⟨_,_,J,d,J⟩
 | .pr A B,_,_,d=>by obtain⟨a,b,rfl,f,i⟩:=d;exact a4.append (Ae A _ _ f)<|Ae B _ _ i
def H5{g:Gh}:∀{cs ds:E C}{vs:E aT},a4 g (cs++ds) vs->∃a b,vs=a++b/\a4 g cs a/\a4 g ds b
 |[],_,vs,d=>⟨[],vs,J,J,d⟩
 |_::cs,_,_,d=>by obtain⟨v,m,rfl,f,i⟩:=d;obtain⟨a,b,rfl,k,l⟩:=H5 i;exact⟨v::a,b,J,⟨v,a,J,f,k⟩,l⟩
def Sh{g:Gh}{z vs}(d:a4 g (av .z z) vs):sB g.H z vs:=by obtain⟨v,r,rfl,a,m,i,rfl,f,b⟩:=d;simp only[a4]at b;simp only[c6]at a;subst b a;exact⟨m,J,f⟩
def B7{g:Gh}:∀(T:ET)(x:T.den)(vs:E aT),a4 g (av T x) vs->de g.H T x vs
 | .int _,_,_,f=>by obtain⟨v,k,rfl,i,d⟩:=f;simp only[a4]at d;simp only[c6]at i;subst i d;rfl
 | .bool,_,_,f=>by obtain⟨v,k,rfl,i,d⟩:=f;simp only[a4]at d;simp only[c6]at i;subst i d;rfl
 | .z,_,_,f=>Sh f
 | .q,k,vs,f=>by obtain⟨a,b,rfl,i,d⟩:=H5 (cs:=av .z k.num) (ds:=av .z (k.den:V)) f;exact⟨a,b,J,Sh i,Sh d⟩
 | .sl T,_,_,f=>by obtain⟨v,k,rfl,i,d⟩:=f;simp only[a4]at d;subst d;exact⟨v,J,i⟩
 | .pr A B,x,vs,f=>by obtain⟨a,b,rfl,i,d⟩:=H5 (cs:=av A x.1) (ds:=av B x.2) f;exact⟨a,b,J,B7 A _ _ i,B7 B _ _ d⟩
def C.al:C->List G
 | .P id _=>[id]
 | .X id=>[id]
 | .Y id _ _ _=>[id]
 | .L id _ _ _=>[id]
 | .W id _ _=>[id]
 |_=>[]
def b8:E C->E G
 |[]=>[]
 |a::cs=>a.al++b8 cs
def dX:E (Bool×E C)->E G
 |[]=>[]
 |s::a=>b8 s.2++dX a
def AV.al:AV->E G
 | .c x=>x.al
 | .a cs=>b8 cs
 | .t b=>dX b
structure gw(a:G->Prop)(g d:Gh):Prop where
 H:cD g.H d.H
 γ:∀b,a b->d.γ b=g.γ b
def c6.mono{known:G->Prop}{g g':Gh}(f:gw known g g'):∀{n:C}{v:aT},(∀d∈n.al,known d)->c6 g n v->c6 g' n v
 | .any,_,_,_=>trivial
 | .B _,_,_,a=>a
 | .I _ _,_,_,a=>a
 | .V _,_,_,a=>a
 | .S T _,_,_,a=>mQ.mono a f.H<|λx p=>de.mono f.H T x p
 | .P d _,_,i,a=>by let ⟨b,k,a⟩:=a;exact⟨b,by rw[f.γ d (i d EE)];exact k,a⟩
 | .X d,_,i,a=>by simp only[c6]at a⊢;rw[f.γ d (i d EE)];exact a
 | .Y d _ _ _,_,i,a=>by let ⟨b,l,n,k,a⟩:=a;exact⟨b,l,n,by rw[f.γ d (i d EE)];exact k,a⟩
 | .E T _ _,_,_,a=>by let ⟨b,o,p,k,s,h2⟩:=a;exact⟨b,o,p,k,de.mono f.H T _ _ s,λj t=>f.H _ _ _<|h2 j t⟩
 | .M m,_,_,a=>m.mono _ _ _ f.H a
 | .L d _ _ (ae _),_,i,a=>by let ⟨b,k,a⟩:=a;exact⟨b,by rw[f.γ d (i d EE)];exact k,a⟩
 | .L d _ _ none,_,i,a=>by let ⟨u,b,n,k,a⟩:=a;exact⟨u,b,n,by rw[f.γ d (i d EE)];exact k,a⟩
 | .W d _ _,_,i,a=>by let ⟨b,n,k,a⟩:=a;exact⟨b,n,by rw[f.γ d (i d EE)];exact k,a⟩
def a4.mono{known:G->Prop}{g g':Gh}(i:gw known g g'):∀{d:E C}{vs:E aT},(∀b∈b8 d,known b)->a4 g d vs->a4 g' d vs
 |[],_,_,f=>f
 |_::_,_,k,f=>by let ⟨v,l,m,n,h2⟩:=f;exact⟨v,l,m,c6.mono i (λb a=>k b<|by simp[b8,a]) n,a4.mono i (λb a=>k b<|by simp[b8,a]) h2⟩
def B6.mono{known:G->Prop}{g g':Gh}(i:gw known g g'):∀{s:Bool×E C}{v:aT},(∀b∈b8 s.2,known b)->B6 g s v->B6 g' s v
 | (af,_),_,d,a=>by let ⟨vs,k,a⟩:=a;exact⟨vs,k,a4.mono i d a⟩
 | (ak,[c]),_,d,a=>c6.mono i (λb f=>d b<|by simp[b8,f]) a
 | (ak,[]),_,_,a=>a
 | (ak,_::_::_),_,_,a=>a
def dy.mono{known:G->Prop}{g g':Gh}(i:gw known g g'):∀{d:E (Bool×E C)}{vs:E aT},(∀b∈dX d,known b)->dy g d vs->dy g' d vs
 |[],_,_,f=>f
 |_::_,_,k,f=>by let ⟨v,l,m,n,h2⟩:=f;exact⟨v,l,m,B6.mono i (λb a=>k b<|by simp[dX,a]) n,dy.mono i (λb a=>k b<|by simp[dX,a]) h2⟩
def bf.mono{known:G->Prop}{g g':Gh}(f:gw known g g'):∀{x:AV}{v:aT},(∀k∈x.al,known k)->bf g x v->bf g' x v
 | .c _,_,d,b=>c6.mono f d b
 | .a _,_,d,b=>by let ⟨vs,i,b⟩:=b;exact⟨vs,i,a4.mono f d b⟩
 | .t _,_,d,b=>by let ⟨vs,i,b⟩:=b;exact⟨vs,i,dy.mono f d b⟩
section
variable{κ ι:Type}[DecidableEq κ]
def aE(u:E (κ×aw ι))(k:κ):aw (aw ι):=
 match u with
 |[]=>none
 | (a,x)::r=>if a=k then ae x else aE r k
def bs(a:κ->aw ι)(u:E (κ×aw ι)):κ->aw ι:=λk=>
 match aE u k with
 |some x=>x
 |none=>a k
def fold(b:G->E (κ×aw ι))(a:κ->aw ι)(s:E G):κ->aw ι:=s.foldl (λa i=>bs a<|b i) a
def qi(u:E (κ×aw ι))(k:κ):Bool:=(aE u k).isSome
def akD{b:κ->aw ι}{u:E (κ×aw ι)}{k:κ}(a:qi u k=ak):bs b u k=b k:=by
 unfold qi at a;unfold bs;cases d:aE u k with
 |none=>rfl
 |some x=>rw[d]at a;simp at a
def akE{b a:κ->aw ι}{u:E (κ×aw ι)}{k:κ}(d:b k=a k):bs b u k=bs a u k:=by unfold bs;rw[d]
def Zm(b:G->E (κ×aw ι))(k:κ):∀(s:E G){f a:κ->aw ι},f k=a k->fold b f s k=fold b a s k
 |[],_,_,d=>d
 |i::s,_,_,d=>Zm b k s<|akE d
def fold_filter(a:G->E (κ×aw ι))(k:κ):∀(s:E G)(b:κ->aw ι),fold a b s k=fold a b (s.filter λi=>qi (a i) k) k
 |[],_=>rfl
 |i::s,b=>by
  cases h:qi (a i) k with
  |true=>
   rw[akF eQ]
   exact fold_filter a k s _
  |false=>
   rw[akG (by simp[h])]
   have d:=fold_filter a k s b
   rw[<-d]
   exact Zm a k s<|akD h
def Si(a:G->E (κ×aw ι))(b:κ->aw ι)(s:E G)(i:G):fold a b (s++[i])=bs (fold a b s) (a i):=by simp[fold]
def Sj:∀{l m:E G},l.Pairwise (·<·)->m.Pairwise (·<·)->(∀x,x∈l↔x∈m)->l=m
 |[],[],_,_,_=>rfl
 |[],k::m,_,_,d=>aJ ((d k).2<|B8) ax
 |x::l,[],_,_,d=>aJ ((d x).1<|B8) ax
 |x::l,k::m,hl,hm,d=>by
  have f:=kI.1 hl;have g:=kI.1 hm;have p:x=k:=by
   have i:=(d x).1<|B8;have s:=(d k).2<|B8;rcases b9.1 i with e|i
   .exact e
   .rcases b9.1 s with e|s
    .exact e.symm
    .have a:=g.1 x i;have b:=f.1 k s;omega
  subst p;congr 1;refine Sj f.2 g.2<|λz=>?_;constructor
  .intro n;rcases b9.1 ((d z).1<|kJ _ n)with e|i
   .have:=f.1 z n;omega
   .exact i
  .intro n;rcases b9.1 ((d z).2<|kJ _ n)with e|i
   .have:=g.1 z n;omega
   .exact i
def akH(n:G):(cy n).Pairwise (·<·):=Mc
structure sC(n:G)(a:G->G->Prop)(s:E G):Prop where
 nodup:s.Nodup
 lt:∀i∈s,i<n
 closed:∀p i r,s=p++i::r->∀b,a b i->b∈p
def sC.nil(n:G)(a:G->G->Prop):sC n a []:=⟨List.nodup_nil,ax,λp i r h=>by simp at h⟩
def sC.snoc{n:G}{f:G->G->Prop}{s:E G}(l:sC n f s){i:G}(H:i<n)(B:i∉s)(D:∀g,f g i->g∈s):sC n f (s++[i]):=by
 refine⟨?_,?_,?_⟩
 .rw[Sk];exact⟨l.nodup,ax,λa m b z=>by simp at z;subst z;exact λe=>B<|e▸m⟩
 .intro g d;rcases bg.1 d with d|d
  .exact l.lt g d
  .simp at d;omega
 .intro p k r A g d;rcases List.eq_nil_or_concat r with rfl|⟨t,x,rfl⟩
  .have u:s=p/\i=k:=by have:=List.append_inj' (s₁:=s) (t₁:=[i]) (s₂:=p) (t₂:=[k]) A J;exact⟨this.1,by simpa using this.2⟩
   obtain⟨rfl,rfl⟩:=u;exact D g d
  .have u:s=p++k::t:=by
    have v:s++[i]=(p++k::t)++[x]:=by rw[A];simp
    exact(List.append_inj' v J).1
   exact l.closed p k t u g d
def sC.Zn{n:G}{b:G->G->Prop}{s:E G}(l:sC n b s)(d:G->Bool)
  (z:∀i m,i<m->m<n->d i=af->d m=af->b i m):(s.filter d).Pairwise (·<·):=by
 have t:∀p r,s=p++r->(r.filter d).Pairwise (·<·):=by
  intro p r;induction r generalizing p with
  |nil=>intro _;simp
  |cons x r A=>
   intro f
   have g:=A (p++[x]) (by rw[f];simp)
   cases hx:d x with
   |false=>rw[akG k7];exact g
   |true=>
    rw[akF hx,kI]
    refine⟨λy B=>?_,g⟩
    let ⟨k,u⟩:=qj.1 B
    have v:x∈s:=by rw[f];simp
    have C:x≠y:=by intro e;have:=l.nodup;rw[f,Sk]at this;have:=this.2.1;rw[Af]at this;exact this.1<|e▸k
    rcases rq x y with a|D
    .exact a
    .have a:y<x:=by omega
     have H:=z y x a (l.lt x v) u hx;have K:=l.closed p x r f y H;have:=l.nodup;rw[f,Sk]at this;exact aJ J<|this.2.2 y K y<|kJ _ k
 exact t [] s J
def Zo(n:G)(a:G->Bool):((cy n).filter a).Pairwise (·<·):=(akH n).filter _
def sC.read{n:G}{d:G->G->Prop}{s:E G}(m:sC n d s)(f:G->E (κ×aw ι))(A:κ->aw ι)(k:κ)(i:G)(W:i<n)(B:i∉s)
  (H:∀D,d D i->D∈s)
  (N:∀a b,a<b->b<n->qi (f a) k=af->qi (f b) k=af->d a b)
  (P:∀a,a<i->qi (f a) k=af->d a i) (Q:∀b,i<b->b<n->qi (f b) k=af->d i b):
  fold f A s k=fold f A (cy i) k:=by
 rw[fold_filter f k s,fold_filter f k<|cy i]
 congr 1
 refine Sj (m.Zn _<|λa b t u K T=>N a b t u K T) (Zo i _)<|λx=>?_
 rw[qj,qj,ru]
 constructor
 .rintro⟨g,l⟩;refine⟨?_,l⟩;rcases Sl x i with v|he|z
  .exact v
  .exact aJ g<|he▸B
  .have u:=Q x z (m.lt x g) l;let ⟨p,r,C⟩:=Md g;have:=m.closed p x r C i u;exact aJ (by rw[C];exact eH _ this) B
 .rintro⟨g,l⟩;exact⟨H x<|P x g l,l⟩
def sC.all{n:G}{f:G->G->Prop}{s:E G}(p:sC n f s)(d:G->E (κ×aw ι))(t:κ->aw ι)(g:∀i,i<n->i∈s)
  (u:∀k a b,a<b->b<n->qi (d a) k=af->qi (d b) k=af->f a b):fold d t s=fold d t (cy n):=by
 funext k
 rw[fold_filter d k s,fold_filter d k<|cy n]
 congr 1
 refine Sj (p.Zn _<|λa b l v z A=>u k a b l v z A) (Zo n _)<|λx=>?_
 rw[qj,qj,ru]
 exact⟨λ⟨m,q⟩=>⟨p.lt x m,q⟩,λ⟨m,q⟩=>⟨g x m,q⟩⟩
end
inductive aC where
 |box (E:eh) (sz:G) (b:List C)
 |vec (E:eh) (T:ET) (xs:List T.den)
 |dS (f:FuncId) (first caps:List (Bool×List C))
 |fz (E:eh) (b:List C)
 |mp (d g:Bool) (xs:List (List C×List C))
 |it (m n:G) (a:List G)
inductive Key where
 |s (t:G)
 |m (a:G)
 deriving DecidableEq
inductive Info where
 |v (x:AV)
 |b (x:aC)
def lL:E (E C×E C)->E G
 |[]=>[]
 |x::xs=>b8 x.1++(b8 x.2++lL xs)
def aC.al:aC->E G
 | .box _ _ cs=>b8 cs
 | .vec _ _ _=>[]
 | .dS _ first caps=>dX first++dX caps
 | .fz _ cs=>b8 cs
 | .mp _ _ xs=>lL xs
 | .it m _ _=>[m]
def Info.al:Info->E G
 | .v x=>x.al
 | .b x=>x.al
abbrev Kn:=Key->aw Info
def iX(g:Gh)(b d:Bool):G->E (E C×E C)->E MapEntry->Prop
 |_,[],es=>es=[]
 |n,x::xs,es=>∃a f,es=a::f/\a.born=n/\(∃i,a.key=tT b i/\a4 g x.1 i)/\(∃vs,a.val=tT d vs/\a4 g x.2 vs)/\iX g b d (n+1) xs f
def iX.mono{known:G->Prop}{g g':Gh}(d:gw known g g'){l m:Bool}:∀{n:G}{xs:E (E C×E C)}{p:E MapEntry},(∀b∈lL xs,known b)->iX g l m n xs p->iX g' l m n xs p
 |_,[],_,_,s=>s
 |_,_::_,_,f,⟨t,u,v,h2,⟨x,z,i⟩,⟨vs,A,k⟩,B⟩=>⟨t,u,v,h2,⟨x,z,a4.mono d (λb a=>f b<|by simp[lL,a]) i⟩,⟨vs,A,a4.mono d (λb a=>f b<|by simp[lL,a]) k⟩,iX.mono d (λb a=>f b<|by simp[lL,a]) B⟩
def Sub(H:FH)(a:cA):Prop:=∀b o v,H b o=ae v->a.cell? ⟨b,o,none⟩=ae v
def gL(N:G->Prop)(g:Gh)(W:cA)(k:G):aC->Prop
 | .box p sz cs=>∃b,∃vs rest:E aT,cF (g.γ k)=ae b/\W.heap[b]? =ae (.cells (vs++rest).toArray p (0,0))/\a4 g cs vs/\N b/\(∀a,g.H b a=none)/\(sz≠0->∃s,g.γ k= .slice (ae ⟨b,0,none⟩) 0 s/\Z (vs++rest)=s*sz)
 | .vec p T xs=>(g.γ k= .slice none 0 0/\xs=[])\/∃b l,∃vs:E aT,g.γ k= .slice (ae ⟨b,0,none⟩) (Z xs) l/\W.heap[b]? =ae (.cells vs.toArray p (0,0))/\
   Z vs=l*T.n/\Z xs<=l/\Z xs*T.n<=140737488355328/\(∀i(A:i<Z xs),de g.H T xs[i] ((az (i*T.n) vs).take T.n))/\N b/\∀a,g.H b a=none
 | .dS f first caps=>∃t u:E aT,g.γ k= .func (.func f) t.toArray u.toArray/\dy g first t/\dy g caps u
 | .fz p cs=>∃b,∃vs rest:E aT,cF (g.γ k)=ae b/\W.heap[b]? =ae (.cells (vs++rest).toArray p (0,0))/\a4 g cs vs/\N b/\(∀a,g.H b a=(vs++rest)[a]?)
 | .mp x z xs=>∃d,∃v:Array MapEntry,g.γ k= .map (ae d)/\W.heap[d]? =ae (.map v<|Z xs)/\iX g x z 0 xs v.toList/\N d/\(∀a,g.H d a=none)
 | .it m n seen=>∃d b,g.γ k= .pointer (ae ⟨d,0,none⟩)/\g.γ m= .map (ae b)/\W.heap[d]? =ae (.mapIter (ae b) n seen.toArray n)/\N d/\(∀a,g.H d a=none)
structure dB where
 w0:cA
 H0:FH
 n:G
 own:G->Prop:=λ_=>False
 k0:G:=0
 γ0:G->aT:=λ_=>undef
 ds:E Deferred:=[]
 rd:aw G:=none
def dB.N(a:dB)(b:G):Prop:=a.w0.heap.size<=b\/a.own b
structure EF(own:G->Prop)(w a:cA):Prop where
 os:a.os=w.os
 tape:a.tape=w.tape
 output:a.output=w.output
 size:w.heap.size<=a.heap.size
 block:∀k,k<w.heap.size->¬own k->a.heap[k]? =w.heap[k]?
structure aM(i:dB)(f:G->Prop)(p:Kn)(g:Gh)(W:cA)(a:Act):Prop where
 size:a.tmps.size=i.n
 defers:a.defers=i.ds
 dH:∀t v,p (.s t)=ae (.v v)->bf g v (a.tmps.getD t undef)
 cE:∀d b,p (.m d)=ae (.b b)->gL i.N g W d b
 inj:∀d l b u k,p (.m d)=ae (.b b)->p (.m l)=ae (.b u)->cF (g.γ d)=ae k->cF (g.γ l)=ae k->d=l
 al:∀k x,p k=ae x->∀d∈x.al,f d
 dI:∀d x,p (.m d)=ae x->f d
 sub:Sub g.H W
 below:EF i.own i.w0 W
 le:cD i.H0 g.H
 fresh:∀b o,b<i.w0.heap.size->¬i.own b->g.H b o=i.H0 b o
 fB:∀d,d<i.k0->f d/\g.γ d=i.γ0 d
structure Ext(a f:G->Prop)(g:Gh)(W:cA)(i:Gh)(d:cA):Prop where
 le:gw a g i
 fresh:∀b o,b<W.heap.size->i.H b o=g.H b o
 sub:Sub i.H d
 size:W.heap.size<=d.heap.size
 heap:∀k,k<W.heap.size->(∀l,f l->cF (g.γ l)≠ae k)->d.heap[k]? =W.heap[k]?
 os:d.os=W.os
 tape:d.tape=W.tape
 output:d.output=W.output
def gL.block{N:G->Prop}{g}{W}{p}{b}(l:gL N g W p b){k}(a:cF (g.γ p)=ae k):N k/\k<W.heap.size:=by
 cases b with
 |box E sz cs=>
  let ⟨b,vs,rest,e,d,_,i,_⟩:=l
  rw[e]at a
  simp only[ar]at a
  subst a
  exact⟨i,(fJ.1 d).1⟩
 |vec E T xs=>
  rcases l with⟨e,_⟩|⟨b,s,vs,e,d,_,_,_,_,i,_⟩
  .rw[e]at a;simp[cF]at a
  .rw[e]at a;simp only[cF,ar]at a;subst a;exact⟨i,(fJ.1 d).1⟩
 |dS f first caps=>
  let ⟨us,ws,e,_⟩:=l
  rw[e]at a;simp[cF]at a
 |fz E cs=>
  let ⟨b,vs,rest,e,d,_,i,_⟩:=l
  rw[e]at a
  simp only[ar]at a
  subst a
  exact⟨i,(fJ.1 d).1⟩
 |mp t u xs=>
  let ⟨r,es,e,d,_,i,_⟩:=l
  rw[e]at a
  simp only[cF,ar]at a
  subst a
  exact⟨i,(fJ.1 d).1⟩
 |it m n seen=>
  let ⟨r,b,e,_,d,i,_⟩:=l
  rw[e]at a
  simp only[cF,ar]at a
  subst a
  exact⟨i,(fJ.1 d).1⟩
def gL.step{known chg:G->Prop}{N:G->Prop}{g g'}{W W'}{id}{b}(v:gL N g W id b)(hx:Ext known chg g W g' W')
  (bc:known id) (x:∀a∈b.al,known a) (s:∀a k,chg a->cF (g.γ id)=ae k->cF (g.γ a)≠ae k):gL N g' W' id b:=by
 cases b with
 |box E sz cs=>
  let ⟨b,vs,rest,e,d,hr,t,u,hc⟩:=v
  have l:b<W.heap.size:=(fJ.1 d).1
  refine⟨b,vs,rest,B9,?_,a4.mono hx.le x hr,t,λo=>by rw[hx.fresh b o l];exact u o,by rw[hx.le.γ id bc];exact hc⟩
  rw[hx.heap b l (λa p=>s a b p e)];exact d
 |vec E T xs=>
  rcases v with⟨e,z⟩|⟨b,A,vs,e,d,B,C,D,K,t,u⟩
  .exact .inl ⟨B9,z⟩
  .have l:b<W.heap.size:=(fJ.1 d).1;refine .inr ⟨b,A,vs,B9,?_,B,C,D,λi P=>de.mono hx.le.H T _ _<|K i P,t,λo=>by rw[hx.fresh b o l];exact u o⟩;rw[hx.heap b l (λa p=>s a b p vd)];exact d
 |dS f first caps=>
  let ⟨us,ws,e,B,C⟩:=v
  exact⟨us,ws,B9,dy.mono hx.le (λa p=>x a<|eH _ p) B,dy.mono hx.le (λa p=>x a<|gx _ p) C⟩
 |fz E cs=>
  let ⟨b,vs,rest,e,d,hr,t,u⟩:=v
  have l:b<W.heap.size:=(fJ.1 d).1
  refine⟨b,vs,rest,B9,?_,a4.mono hx.le x hr,t,λo=>by rw[hx.fresh b o l];exact u o⟩
  rw[hx.heap b l (λa p=>s a b p e)];exact d
 |mp X c xs=>
  let ⟨r,es,e,d,hr,t,u⟩:=v
  have l:r<W.heap.size:=(fJ.1 d).1
  refine⟨r,es,B9,?_,iX.mono hx.le x hr,t,λo=>by rw[hx.fresh r o l];exact u o⟩
  rw[hx.heap r l (λa p=>s a r p vd)];exact d
 |it m n seen=>
  let ⟨r,b,e,Q,d,t,u⟩:=v
  have l:r<W.heap.size:=(fJ.1 d).1
  refine⟨r,b,B9,by rw[hx.le.γ m (x m<|by simp[aC.al])];exact Q,?_,t,λo=>by rw[hx.fresh r o l];exact u o⟩
  rw[hx.heap r l (λa p=>s a r p vd)];exact d
def aM.step{gP}{known chg:G->Prop}{D}{g g'}{W W'}{a a'}(i:aM gP known D g W a)(A:Ext known chg g W g' W')
 wr new (yh:¬known new)
  (gY:a'.tmps.size=a.tmps.size) (hdf:a'.defers=gP.ds)
  (akJ:∀t,aE wr (.s t)=none->a'.tmps.getD t undef=a.tmps.getD t undef)
  (T:∀d,chg d->aE wr (.m d)≠none/\∃b,D (.m d)=ae (.b b))
  (hs:∀t v,aE wr (.s t)=ae (ae<|.v v)->bf g' v (a'.tmps.getD t undef))
  (hb:∀d b,aE wr (.m d)=ae (ae<|.b b)->gL gP.N g' W' d b/\((known d/\∃P,D (.m d)=ae (.b P))\/(d=new/\∀k,cF (g'.γ d)=ae k->W.heap.size<=k\/∃z P,D (.m z)=ae (.b P)/\aE wr (.m z)=ae none/\cF (g.γ z)=ae k)))
  (hm:∀k x,aE wr k=ae (ae x)->∀d∈x.al,known d\/d=new)
  (nt:∀d x,aE wr (.m d)=ae (ae x)->known d\/d=new):
  aM gP (λd=>known d\/d=new) (bs D wr) g' W' a':=by
 have u:∀k x,bs D wr k=ae x->(aE wr k=none/\D k=ae x)\/aE wr k=ae (ae x):=by
  intro k x l;unfold bs at l;cases X:aE wr k with
  |none=>rw[X]at l;exact .inl ⟨J,l⟩
  |some y=>rw[X]at l;simp only at l;rw[l];exact .inr J
 refine⟨by rw[gY];exact i.size,hdf,?_,?_,?_,?_,?_,A.sub,?_,i.le.trans A.le.H,?_,λd f=>⟨.inl (i.fB d f).1,by rw[A.le.γ d (i.fB d f).1];exact(i.fB d f).2⟩⟩
 .intro t v ht;rcases u _ _ ht with⟨n,p⟩|n
  .rw[akJ t n];exact bf.mono A.le (λd f=>i.al _ _ p d f)<|i.dH t v p
  .exact hs t v n
 .intro d b f;rcases u _ _ f with⟨n,p⟩|n
  .refine(i.cE d b p).step A (i.dI _ _ p) (λz R=>i.al _ _ p z R)<|λz k R l S=>?_;let ⟨B,P,C⟩:=T z R;have:=i.inj d z b P k p C l S;subst this;exact B n
  .exact(hb d b n).1
 .intro d e b P k f I l q;have low:∀d b,(aE wr (.m d)=none/\D (.m d)=ae (.b b))\/aE wr (.m d)=ae (ae<|.b b)->cF (g'.γ d)=ae k->
    (∃K,D (.m d)=ae (.b K)/\cF (g.γ d)=ae k/\k<W.heap.size/\aE wr (.m d)≠ae none)\/(d=new/\(W.heap.size<=k\/∃z P,D (.m z)=ae (.b P)/\aE wr (.m z)=ae none/\cF (g.γ z)=ae k)):=by
   intro d b r l
   rcases r with⟨n,p⟩|n
   .rw[A.le.γ d (i.dI _ _ p)]at l;exact .inl ⟨b,p,l,((i.cE d b p).block l).2,by rw[n];simp⟩
   .rcases(hb d b n).2 with⟨U,K,p⟩|⟨rfl,V⟩
    .rw[A.le.γ d U]at l;exact .inl ⟨K,p,l,((i.cE d K p).block l).2,by rw[n];simp⟩
    .exact .inr ⟨J,V k l⟩
  rcases low d b (u _ _ f) l with⟨c,n,p,Y,h4⟩|⟨e1,Y⟩<;>rcases low e P (u _ _ I) q with⟨c',L,M,w,Z⟩|⟨e1',w⟩
  .exact i.inj d e c c' k n L p M
  .rcases w with w|⟨z,bj,B,C,E⟩
   .omega
   .have:=i.inj d z c bj k n B p E;subst this;exact aJ C h4
  .rcases Y with Y|⟨z,bj,B,C,E⟩
   .omega
   .have:=i.inj e z c' bj k L B M E;subst this;exact aJ C Z
  .rw[e1,e1']
 .intro k x l d f;rcases u _ _ l with⟨_,p⟩|n
  .exact .inl<|i.al _ _ p d f
  .exact hm k x n d f
 .intro d x l;rcases u _ _ l with⟨_,p⟩|n
  .exact .inl<|i.dI _ _ p
  .exact nt d x n
 .refine⟨A.os.trans i.below.os,A.tape.trans i.below.tape,A.output.trans i.below.output,bZ i.below.size A.size,λk l Q=>?_⟩;have q:k<W.heap.size:=fY l i.below.size;rw[<-i.below.block k l Q];refine A.heap k q<|λd f H6=>?_;let ⟨_,b,hσ⟩:=T d f;rcases((i.cE d b hσ).block H6).1 with n|n
  .omega
  .exact Q n
 .intro b o O Q;rw[A.fresh b o (fY O i.below.size)];exact i.fresh b o O Q
def aM.weaken{n}{f b:G->Prop}{p}{g}{W}{a}(d:aM n f p g W a)(m:∀i,f i->b i):aM n b p g W a:=
 ⟨d.size,d.defers,d.dH,d.cE,d.inj,λk x e i l=>m _<|d.al k x e i l,λi x e=>m _<|d.dI i x e,d.sub,d.below,d.le,d.fresh,λi l=>⟨m _ (d.fB i l).1,(d.fB i l).2⟩⟩
def aM.drew{k}{i:G->Prop}{l}{g}{W}{a}(d:aM k i l g W a):aM k i l g {W with drawn:=W.drawn+1} a:=by
 refine⟨d.size,d.defers,d.dH,?_,d.inj,d.al,d.dI,d.sub,⟨d.below.os,d.below.tape,d.below.output,d.below.size,d.below.block⟩,d.le,d.fresh,d.fB⟩;intro p b e;have:=d.cE p b e;cases b with
 |box E sz cs=>exact this
 |vec E T xs=>exact this
 |dS f first caps=>exact this
 |fz E cs=>exact this
 |mp s t xs=>exact this
 |it m n seen=>exact this
def dC(a:aw G):Fence:={Fence.wide with round:=a}
def wX(b:aw G)(a:Array a8):Prop:=∀(i:G)(o:a8),a[i]? =ae o->b=none\/∀c,o.op≠ .defer c
def akL{a}:wX none a:=λ_ _ _=> .inl J
def Zp{P}{b:Code}{Q:Exit->Act->cA->Prop}{a}{d}{r}(f:r=none):b.wpIn (dC r) 0 P Q a d↔b.wp P Q a d:=by subst f;exact wpIn_wide
def Me{P}{d}{i}{K:Act->cA->Prop}{a}{W}{m}{Q:Exit->Act->cA->Prop}(A:∀g,d[i]? =ae g->m=none\/∀p,g.op≠ .defer p)(b:wpOp P d (λ_ _ _=>False) i K a W):
  wpOpIn (dC m) 0 P d Q i K a W:=by
 unfold wpOp at b
 unfold wpOpIn
 cases ho:d[i]? with
 |none=>rw[ho]at b;exact b
 |some g=>
  rw[ho]at b
  simp only at b⊢
  split
  .rename_i s;rw[q s]at b;have f:g.wp P a W K (λ_ _ _=>False):=by
    rcases b with b|⟨_,_,_,t⟩
    .exact b
    .exact t.elim
   refine⟨λ_ _=>trivial,?_⟩;have k:(g.semAt (dC m).round a.eval)=execOp a.eval g:=by
    rcases A g ho with u|u
    .subst u;exact Oper.semAt_none _ _
    .exact Oper.semAt_eq _ _ _ u
   rw[k];unfold pG at f;generalize (execOp a.eval g).run P W=x at f;cases x with
   |ok y B=>
    cases y<;>simp only[oL,Oper.uponIn]at f⊢
    all_goals first
     |exact f
     |exact f.elim
     |skip
    .refine⟨λhh=>EG,?_⟩;have C:=(callsIn_wide (n:=0)).2 f;refine CallsIn.mono (F:=dC m) C<|λe l k=>?_;cases e with
     |returned v=>exact k
     |panicked p=>exact k.elim
     |outgrown=>let ⟨_,_,t⟩:=k;exact t.elim
    .refine⟨λhh=>EG,?_⟩;intro p D _;let ⟨v,l,hr,z⟩:=f p D;exact⟨v,l,hr,stepsIn_wide.2 z⟩
   |halt y B=>
    cases y<;>simp only[oL]at f⊢<;>exact f.elim
  .rename_i s;rw[j s]at b;exact⟨λ_ _=>trivial,b⟩
def iJ(P:bO)(n:G)(f:Array a8)(i:G)(t:E (Key×Info))(u:E (Key×aw Info))(d:G):Prop:=
 ∀(F:dB),F.n=n->∀(Q:Exit->Act->cA->Prop)(b:G->Prop)(k:Kn)(g:Gh)(W:cA)(a:Act)(K:Act->cA->Prop),¬b d->aM F b k g W a->
  (∀l∈t,k l.1=ae l.2)->(∀v m p,aM F (λs=>b s\/s=d) (bs k u) v m p->K p m)->wpOp P f Q i K a W
def tU(P:bO)(n:G)(k:Array a8)(i:G)(t:E (Key×Info))(u:E (Key×aw Info))(d:G->Prop):Prop:=
 ∀(F:dB),F.n=n->∀(Q:Exit->Act->cA->Prop)(b:G->Prop)(l:Kn)(g:Gh)(W:cA)(a:Act)(K:Act->cA->Prop),(∀f,d f->¬b f)->aM F b l g W a->
  (∀m∈t,l m.1=ae m.2)->(∀v p s,aM F (λf=>b f\/d f) (bs l u) v p s->K s p)->wpOp P k Q i K a W
def iJ.Mf{P}{n}{d}{i}{s}{t}{m}(l:iJ P n d i s t m){new:G->Prop}(u:new m):tU P n d i s t new:=by
 intro F v Q b x g W a K f k p z;refine l F v Q b x g W a K (f m u) k p<|λA B C D=>z A B C<|D.weaken ?_;rintro id (l|rfl)
 .exact .inl l
 .exact .inr u
def rv(a:G->G)(i:G):G->Prop:=λb=>a i<=b/\b<a (i+1)
def H7{a:G->G}(d:∀i,a i<=a (i+1)){i b}(f:i<=b):a i<=a b:=by
 induction f with
 |refl=>exact aN _
 |step _ g=>exact bZ g<|d _
section
variable{P:bO}{ops:Array a8}{Q:Exit->Act->cA->Prop}{F:dB}{σ:Kn}{rd:G->E (Key×Info)}{wr:G->E (Key×aw Info)}{nx:G}
def Sn{b}{g}{W}{a}{c:G->G}(t:∀i,c i<=c (i+1))(u:aM F (·<c 0) σ g W a)
  (v:∀i,i<ops.size->tU P F.n ops i (rd i) (wr i) (rv c i))
  (x:∀i,i<ops.size->∀s∈rd i,fold wr σ (cy i) s.1=ae s.2)
  (hQ:∀g W a,aM F (·<c ops.size) (fold wr σ<|cy ops.size) g W a->Q .normal a W) (d:wX F.rd ops):(Code.region b ops ak).wpIn (dC F.rd) 0 P Q a W:=by
 refine wpIn_region ?_
 have f:∀m k,k+m=ops.size->∀g W a,aM F (·<c k) (fold wr σ<|cy k) g W a->wpOpsIn (dC F.rd) 0 P ops Q (List.range' k m) a W:=by
  intro m;induction m with
  |zero=>intro k l g W a h;simp only[jZ]at l;subst l;exact hQ g W a h
  |succ m z=>
   intro k l g W a h
   rw[EH,wpOpsIn_cons]
   refine Me (d k) ?_
   refine v k Y F J _ (·<c k) _ g W a _ (λb A K=>by simp only[rv]at A;omega) h (x k Y)<|λB C D H=>?_
   refine z (k+1) Y B C D ?_
   rw[Ag,Si]
   exact H.weaken (λb p=>by have:=t k;simp only[rv]at p;omega)
 have:=f ops.size 0 Y g W a u
 rwa[<-Mg]at this
inductive mR(ops:Array a8):G->G->Prop where
 |one {i a:G} {o:a8} {e:Edge} (ho:ops[i]? =ae o) (b:e∈o.after) (d:ve .any e=af) (f:e.on=a):mR ops a i
 |more {i a k:G} {o:a8} {e:Edge} (ho:ops[i]? =ae o) (b:e∈o.after) (d:ve .any e=af) (g:e.on=k) (h:mR ops a k):mR ops a i
def mR.closed{s:E G}{i}(d:∀k∈s,∀b,mR ops b k->b∈s)(a:∀l,ops[i]? =ae l->∀m∈l.after,ve .any m=af->m.on∈s):∀b,mR ops b i->b∈s:=by
 intro b f;cases f with
 |one ho he g f=>subst f;exact a _ ho _ he g
 |more ho he g n h=>subst n;exact d _ (a _ ho _ he g) b h
def fR(u:E (Key×aw Info)):E Key:=u.map (·.1)
def dz(u:E (Key×Info)):E Key:=u.map (·.1)
def Ca{u}{k:Key}(a:qi u k=af):k∈fR u:=by
 induction u with
 |nil=>simp[qi,aE]at a
 |cons p u b=>
  let ⟨d,x⟩:=p
  by_cases e:d=k
  .simp[fR,e]
  .have:qi u k=af:=by simpa[qi,aE,e]using a
   have:=b this;simp only[fR,gM,b9];exact .inr this
def So{id}{g}{W}{a}{c:G->G}(hc:∀i,c i<=c (i+1))(k8:P.follows .mixedOrders=af)(jw:∀i aF u,ops[i]? =ae aF->u∈aF.after->ve .any u=af->u.on<i)(h0:aM F (·<c 0) σ g W a)
  (hs:∀i,i<ops.size->tU P F.n ops i (rd i) (wr i) (rv c i))
  (ht:∀i,i<ops.size->∀N∈rd i,fold wr σ (cy i) N.1=ae N.2)
  (Zq:∀i f,i<f->f<ops.size->∀k,k∈fR (wr i)->k∈fR (wr f)->mR ops i f)
  (EI:∀i f,i<f->f<ops.size->∀k,k∈fR (wr i)->k∈dz (rd f)->mR ops i f)
  (H8:∀i f,i<f->f<ops.size->∀k,k∈dz (rd i)->k∈fR (wr f)->mR ops i f)
  (hQ:∀g W a,aM F (·<c ops.size) (fold wr σ<|cy ops.size) g W a->Q .normal a W) (kd:wX F.rd ops):(Code.region id ops af).wpIn (dC F.rd) 0 P Q a W:=by
 refine wpIn_region_any k8 ?_
 have key:∀z d s g W a,d.size=ops.size->sC ops.size (mR ops) s->(∀i,i<ops.size->(d.getD i af=af↔i∈s))->z+s.length=ops.size->
   aM F (λid=>id<c 0\/∃i∈s,rv c i id) (fold wr σ s) g W a->wpAnyIn (dC F.rd) 0 P .any ops Q z d a W:=by
  intro z
  induction z with
  |zero=>
   intro d s g W a O l w y h
   have v:∀i,i<ops.size->i∈s:=by
    intro i B;refine eR λH=>?_
    have kd:(i::s).Nodup:=Af.2 ⟨H,l.nodup⟩;have R:i::s⊆cy ops.size:=λx S=>by
     rcases b9.1 S with rfl|S
     .exact ru.2 B
     .exact ru.2<|l.lt x S
    have:=kd.length_le_of_subset R;simp at this;omega
   refine⟨?_,?_⟩
   .cases hr:Zr .any ops d with
    |nil=>rfl
    |cons x xs=>
     have S:x∈Zr .any ops d:=by rw[hr];exact B8
     let ⟨U,aF,ho,_⟩:=mem_ready.1 S
     have V:x<ops.size:=(fJ.1 ho).1
     have:=(w x V).2<|v x V
     rw[this]at U
     cases U
   .refine hQ g W a ?_;rw[<-l.all wr σ v (λk i f Sp C A E=>Zq i f Sp C k (Ca A)<|Ca E)];refine h.weaken<|λid t=>?_;rcases t with t|⟨i,B,hf⟩
    .exact fY t<|H7 hc<|bm _
    .have:=H7 hc (show i+1<=ops.size from l.lt i B);simp only[rv]at hf;omega
  |succ z ih=>
   intro d s g W a O l w y h
   refine⟨λhr=>?_,λi B=>?_⟩
   .exfalso;have hex:∃i,i<ops.size/\i∉s:=by
     refine eR λew=>?_
     have v:∀i∈cy ops.size,i∈s:=λi B=>eR λH=>ew ⟨i,ru.1 B,H⟩
     have:=(List.nodup_range (n:=ops.size)).length_le_of_subset v;simp at this;omega
    have K:∀m,∀i,i<=m->i<ops.size->i∉s->∃i,i<ops.size/\i∉s/\∀f,f<i->f∈s:=by
     intro m;induction m with
     |zero=>intro i D X Z;exact⟨i,X,Z,λf C=>Y⟩
     |succ m ihm=>
      intro i D X Z
      by_cases C:∃f,f<i/\f∉s
      .let ⟨f,EJ,wY⟩:=C;exact ihm f Y Y wY
      .exact⟨i,X,Z,λf E=>eR λH=>C ⟨f,E,H⟩⟩
    let ⟨i0,Sq,Sr⟩:=hex;let ⟨i,B,H,T⟩:=K i0 i0 (aN _) Sq Sr;have:i∈Zr .any ops d:=by
     rw[mem_ready];refine⟨?_,ops[i],by simp[B],λu he I=>?_⟩
     .cases hg:d.getD i af with
      |false=>rfl
      |true=>exact aJ ((w i B).1 hg) H
     .have D:=jw i ops[i] u (by simp[B]) he I;have X:=(w u.on Y).2<|T u.on D;have Z:u.on<d.size:=Y;simpa[Z]using X
    rw[hr]at this;cases this
   .let ⟨Mh,aF,ho,v⟩:=mem_ready.1 B;have A:i<ops.size:=(fJ.1 ho).1;have H:i∉s:=λry=>by rw[(w i A).2 ry]at Mh;cases Mh
    have qk:∀k∈s,∀f,mR ops f k->f∈s:=by intro k hk f C;let ⟨p,r,Zs⟩:=Md hk;rw[Zs];exact eH _<|l.closed p k r Zs f C
    have L:∀o',ops[i]? =ae o'->∀u∈o'.after,ve .any u=af->u.on∈s:=by
     intro o' Zt u he I;rw[ho]at Zt;cases Zt;have D:=v u he I;have jw:u.on<ops.size:=by
      rcases rq u.on d.size with X|X
      .omega
      .simp[Array.getElem?_eq_none X]at D
     refine(w u.on jw).1 ?_;have akN:u.on<d.size:=Y;simpa[akN]using D
    have q:=mR.closed qk L;have fS:∀N∈rd i,fold wr σ s N.1=ae N.2:=by intro N cq;have hk:N.1∈dz (rd i):=kf.2 ⟨N,cq,J⟩;rw[l.read wr σ N.1 i A H q (λa b Ss I ha' mU=>Zq a b Ss I _ (Ca ha')<|Ca mU) (λa ha hwa=>EI a i ha A _ (Ca hwa) hk) (λb I hbn hwb=>H8 i b I hbn _ hk<|Ca hwb)];exact ht i A N cq
    refine Me (kd i) ?_;refine hs i A F J _ _ _ g W a _ (λid hf tV=>?_) h fS<|λg' W' a' h'=>?_
    .rcases tV with tV|⟨f,C,u⟩
     .have:=H7 hc<|bm i;simp only[rv]at hf;omega
     .have:i=f:=by
       simp only[rv]at hf u;rcases Sl i f with D|D|D
       .have:=H7 hc (show i+1<=f from D);omega
       .exact D
       .have:=H7 hc (show f+1<=i from D);omega
      exact H<|this▸C
    .refine ih (d.setIfInBounds i af) (s++[i]) g' W' a' (by simp[O]) (l.snoc A H q) (λf C=>?_) b6 ?_
     .by_cases M:f=i
      .subst M;have:f<d.size:=Y;simp[this]
      .rw[getD_set_ne af (Ne.symm M),w f C];simp[M]
     .rw[Si];refine h'.weaken<|λid t=>?_;rcases t with(t|⟨f,C,u⟩)|t
      .exact .inl t
      .exact .inr ⟨f,eH _ C,u⟩
      .exact .inr ⟨i,ax,t⟩
 refine key ops.size _ [] g _ a ax (sC.nil _ _) (λi B=>?_) ax ?_
 .simp[B]
 .exact h0.drew.weaken<|λid t=> .inl t
end
def iA{a:Type}(t:G):E (G×a)->aw a
 |[]=>none
 | (k,x)::b=>if k=t then ae x else iA t b
inductive ZV where
 |b|i (k:pE)|s|f|t|p|m
def ZV.fC:ZV->aT
 | .b=> .bool ak
 | .i k=> .int k 0
 | .s=> .slice none 0 0
 | .f=> .nilFunc
 | .t=> .string ⟨⟨[]⟩⟩
 | .p=> .pointer none
 | .m=> .map none
def ZV.qm:ZV->C
 | .b=> .B ak
 | .i k=> .I k 0
 | .s=> .V<|.slice none 0 0
 | .f=> .V .nilFunc
 | .t=> .V<|.string ⟨⟨[]⟩⟩
 | .p=> .V<|.pointer none
 | .m=> .V<|.map none
def ZV.ok:ZV->aT->Bool
 | .b,.bool ak=>af
 | .i k,.int a n=>k=a&&n=0
 | .s,.slice none 0 0=>af
 | .f,.nilFunc=>af
 | .t,.string ⟨⟨[]⟩⟩=>af
 | .p,.pointer none=>af
 | .m,.map none=>af
 |_,_=>ak
def ZV.ok_eq:∀{z:ZV}{v:aT},z.ok v=af->v=z.fC:=by
 intro z v h;unfold ZV.ok at h;split at h
 .rfl
 .simp only[cG,mV]at h;obtain⟨rfl,rfl⟩:=h;rfl
 .rfl
 .rfl
 .rfl
 .rfl
 .rfl
 .cases h
inductive TK where
 |int (k:pE)|bool|sl (E:G)|st|arr (len E:G)|str|map (K V:G)|other
structure TI where
 kind:TK
 size:G
 bytes:G
 fields:E (G×G×Bool)
 zero:E ZV
abbrev TT:=E<|G×TI
def TI.agg(t:TI):Bool:=match t.kind with| .st=>af| .arr _ _=>af|_=>ak
def wZ(P:bO)(t:eh):aw Bool:=match P.underlying t with
 |some (.struct _)=>ae af
 |some (.array _ _)=>ae af
 |some _=>ae ak
 |none=>none
def EK:E ZV->E aT->Bool
 |[],[]=>af
 |z::a,v::vs=>z.ok v&&EK a vs
 |_,_=>ak
def Su:∀{b:E ZV}{vs:E aT},EK b vs=af->vs=b.map ZV.fC
 |[],[],_=>rfl
 |_::_,_::_,a=>by simp only[EK,cG]at a;simp[ZV.ok_eq a.1,Su a.2]
 |[],_::_,a=>by simp[EK]at a
 |_::_,[],a=>by simp[EK]at a
def Mi:aT->Bool
 | .agg _=>af
 |_=>ak
def akS{v}{l}{b}(h:(Mi v==b)=af)(a:v.cells.toList=l):v=tT b l:=by
 have d:Mi v=b:=eQ;subst d;cases v with
 |agg vs=>
  simp only[Value.cells]at a
  subst a
  simp[Mi,tT]
 |_=>
  simp only[Value.cells]at a
  subst a
  rfl
def tW(P:bO):E (G×G×Bool)->E Field->Bool
 |[],[]=>af
 | (off,sz,a)::b,f::fs=>f.offset=off&&((P.info? f.type).map (·.size)==ae sz)&&sz≠0&&(wZ P f.type==ae a)&&tW P b fs
 |_,_=>ak
def Sv(P:bO)(t:G)(a:TI):Bool:=
 match P.info? t with
 |none=>ak
 |some i=>i.size=a.size&&Z a.zero=a.size&&i.bytes=a.bytes&&(match i.zero with|some z=>EK a.zero z.cells.toList&&(Mi z==a.agg)|none=>ak)&&
  match a.kind,P.underlying t with
  | .int k,ae (.int g)=>k=g
  | .bool,ae .bool=>af
  | .sl E,ae (.slice l)=>E=l
  | .st,ae (.struct fs)=>tW P a.fields fs.toList
  | .arr n e,ae (.array b f)=>n=b&&e=f
  | .str,ae .string=>af
  | .map n e,ae (.map b f)=>n=b&&e=f
  | .other,ae d=>(match d with| .struct _=>ak| .array _ _=>ak|_=>af)
  |_,_=>ak
structure Zu(P:bO)(t:G)(a:TI):Prop where
 Zv:a.zero.length=a.size
 info:∃i,P.info? t=ae i/\i.size=a.size/\i.bytes=a.bytes/\∃z,i.zero=ae z/\z.cells.toList=a.zero.map ZV.fC
 agg:wZ P t=ae a.agg
 zag:∀i z,P.info? t=ae i->i.zero=ae z->z=tT a.agg (a.zero.map ZV.fC)
 kind:match a.kind with
  | .int k=>P.underlying t=ae (.int k)
  | .bool=>P.underlying t=ae .bool
  | .sl E=>P.underlying t=ae (.slice E)
  | .st=>∃fs,P.underlying t=ae (.struct fs)/\tW P a.fields fs.toList=af
  | .arr n e=>P.underlying t=ae (.array n e)
  | .str=>P.underlying t=ae .string
  | .map n e=>P.underlying t=ae (.map n e)
  | .other=>True
def akU{P}{t}{g}(f:Sv P t g=af):Zu P t g:=by
 unfold Sv at f;cases l:P.info? t with
 |none=>rw[l]at f;simp at f
 |some i=>
  rw[l]at f
  simp only[cG,mV]at f
  let ⟨⟨⟨⟨s,u⟩,h2⟩,b⟩,a⟩:=f
  have m:∃z,i.zero=ae z/\z.cells.toList=g.zero.map ZV.fC:=by
   cases m:i.zero with
   |none=>rw[m]at b;simp at b
   |some z=>rw[m]at b;simp only[cG]at b;exact⟨z,J,Su b.1⟩
  refine⟨u,⟨i,l,s,h2,m⟩,?_,?_,?_⟩
  rotate_left
  .intro A z k n;rw[l]at k;cases k;rw[n]at b;simp only[cG]at b;exact akS b.2<|Su b.1
  rotate_right
  .unfold wZ TI.agg;cases p:g.kind<;>rw[p]at a<;>cases hu:P.underlying t<;>rw[hu]at a<;>try(simp at a;done)
   all_goals (rename_i d;cases d<;>first|rfl| (simp at a;done))
  .cases p:g.kind<;>rw[p]at a<;>cases hu:P.underlying t<;>rw[hu]at a<;>try(simp at a;done)
   all_goals (rename_i d;cases d<;>first|trivial| (simp at a;done)| (simp at a;subst a;rfl)| (simp at a;let ⟨v,x⟩:=a;subst v x;rfl)|exact⟨_,rfl,a⟩)
def cw(P:bO):TT->Bool
 |[]=>af
 | (t,a)::b=>Sv P t a&&cw P b
def fb{P:bO}:∀{f:TT},cw P f=af->∀{t b},iA t f=ae b->Zu P t b
 |[],_,_,_,a=>by simp[iA]at a
 | (k,x)::i,d,t,b,a=>by
  simp only[cw,cG]at d;simp only[iA]at a;split at a
  .rename_i g;subst g;cases a;exact akU d.1
  .exact fb d.2 a
structure St where
 sl:E (G×AV)
 mem:E (G×aC)
 nx:G
 gd:E (G×Bool):=[]
def St.kn(a:St):Kn
 | .s t=>(iA t a.sl).map .v
 | .m id=>(iA id a.mem).map .b
def EL:aT->AV
 | .bool b=> .c<|.B b
 | .int k n=> .c<|.I k n
 |v=> .c<|.V v
def St.ev(a:St):Operand->aw AV
 | .tmp t=>iA t a.sl
 | .const v=>ae<|EL v
 | .func f=>ae<|.c<|.V<|.func (.func f) #[] #[]
 | .global _=>none
def cH(a:St):Operand->E (Key×Info)
 | .tmp t=>match iA t a.sl with
  |some v=>[(.s t,.v v)]
  |none=>[]
 |_=>[]
def akV g v:bf g (EL v) v:=by cases v<;>exact J
def dJ{l}{b:G->Prop}{i}{g}{W}{a}(m:aM l b i g W a) st x v(d:st.ev x=ae v)
  (n:∀k∈cH st x,i k.1=ae k.2):bf g v (a.eval x):=by
 cases x with
 |tmp t=>
  simp only[St.ev]at d
  have:=n (.s t,.v v) (by simp[cH,d])
  exact m.dH t v this
 |const u=>simp only[St.ev,ar]at d;subst d;exact akV g u
 |func f=>simp only[St.ev,ar]at d;subst d;rfl
 |global _=>simp[St.ev]at d
def sH{n}{b:G->Prop}{l}{g}{W}{a}(p:aM n b l g W a) st x v(i:st.ev x=ae v)
  (z:∀m∈cH st x,l m.1=ae m.2):∀k∈v.al,b k:=by
 cases x with
 |tmp t=>
  simp only[St.ev]at i
  have:=z (.s t,.v v) (by simp[cH,i])
  exact λk d=>p.al _ _ this k d
 |const u=>simp only[St.ev,ar]at i;subst i;intro k d;cases u<;>simp[EL,AV.al,C.al]at d
 |func f=>simp only[St.ev,ar]at i;subst i;intro k d;simp[AV.al,C.al]at d
 |global _=>simp[St.ev]at i
def tX{P}{m}{i}{D:a8}{d:G}(ho:m[i]? =ae D)(hg:D.guard=none)(hd:D.dst=ae d){n}(dn:d<n)
 rd x new
  (N:∀(T:dB)(f:G->Prop)(H:Kn)(g:Gh)(W:cA)(a:Act),aM T f H g W a->(∀kx∈rd,H kx.1=ae kx.2)->
   (∀p∈x.al,f p)/\∃v,(execOp a.eval D).run P W= .ok (.value v) W/\bf g x v):
  iJ P n m i rd [(.s d,ae<|.v x)] new:=by
 intro T ly Q f H g W a K z aW C q
 let ⟨hm,v,A,B⟩:=N T f H g W a aW C
 unfold wpOp
 simp only[ho,gZ,hg,cr]
 refine .inl ?_
 unfold pG
 rw[A]
 simp only[oL,hd]
 have X:d<a.tmps.size:=nv
 refine q g W _<|aW.step (chg:=λ_=>False) (g':=g) (W':=W) ⟨⟨cD.refl _,λ_ _=>rfl⟩,λ_ _ _=>rfl,aW.sub,aN _,λ_ _ _=>rfl,J,J,J⟩ _ new z oM aW.defers ?_ (λ_ N=>N.elim) ?_ ?_ ?_ ?_
 .intro t l;have c:d≠t:=by intro e;subst e;simp[aE]at l
  simp[iq,lM c]
 .intro t u l;simp only[aE]at l;split at l
  .rename_i e;simp only[Key.s.injEq]at e;simp only[ar,Info.v.injEq]at l;subst e;subst l;simpa[iq,X]using B
  .simp at l
 .intro p b l;simp[aE]at l
 .intro k y l;simp only[aE]at l;split at l
  .simp only[ar]at l;subst l;exact λp j=> .inl<|hm p j
  .simp at l
 .intro p y l;simp[aE]at l
def gy(n:V):Prop:= -9223372036854775808<=n/\n<=9223372036854775807
inductive Pr where
 |t
 |i64 (n:V)
 |Cb (b:V)
 |le (a b:V)
 |lt (a b:V)
 |Cc (a b:G)
 |vf (a b:Bool)
 |and (p q:Pr)
def Pr.h:Pr->Prop
 | .t=>True
 | .i64 n=>gy n
 | .Cb d=>d≠0
 | .le a d=>a<=d
 | .lt a d=>a<d
 | .Cc a d=>a<d
 | .vf a d=>a=d
 | .and p f=>p.h/\f.h
def Pr.b:Pr->Bool
 | .t=>af
 | .i64 n=>decide (-9223372036854775808<=n)&&decide (n<=9223372036854775807)
 | .Cb d=> !decide (d=0)
 | .le a d=>decide<|a<=d
 | .lt a d=>decide<|a<d
 | .Cc a d=>Nat.blt a d
 | .vf a d=>a==d
 | .and p f=>p.b&&f.b
def Pr.H9:∀{p:Pr},p.b=af->p.h
 | .t,_=>trivial
 | .i64 _,a=>by simpa[Pr.b,Pr.h,gy]using a
 | .Cb _,a=>by simpa[Pr.b,Pr.h]using a
 | .le _ _,a=>by simpa[Pr.b,Pr.h]using a
 | .lt _ _,a=>by simpa[Pr.b,Pr.h]using a
 | .Cc _ _,a=>cQ a
 | .vf _ _,a=>by simpa[Pr.b,Pr.h]using a
 | .and p d,a=>by simp only[Pr.b,cG]at a;exact⟨Pr.H9 a.1,Pr.H9 a.2⟩
def Pr.an:Pr->Pr->Pr
 | .t,a=>a
 |p,.t=>p
 |p,a=> .and p a
def Pr.Ia{p d:Pr}(a:(p.an d).h):p.h/\d.h:=by
 unfold Pr.an at a;split at a
 .exact⟨M,a⟩
 .exact⟨a,M⟩
 .exact a
instance:CoeSort Pr Prop:=⟨Pr.h⟩
def num(k:pE)(n:V):C×Pr:=match k with
 | .i64=>(.I .i64 n,.i64 n)
 |k=>(.I k<|k.wrap n,.t)
def EM k n(a:(num k n).2.h) g:c6 g (num k n).1 (.int k<|k.wrap n):=by cases k<;>first|exact rfl| (show Value.int .i64 _=_;rw[Go.IntWalk.i64_in n a])
def Ib(op:BinOp)(k:pE)(a b:V):aw (C×Pr):=match op with
 | .add=>ae<|num k<|a+b
 | .sub=>ae<|num k<|a-b
 | .mul=>ae<|num k<|a*b
 | .quo=>ae ((num k<|a.tdiv b).1,.and (.Cb b) (num k<|a.tdiv b).2)
 | .rem=>ae (.I k<|a.tmod b,.Cb b)
 | .and=>ae (.I k<|k.wrap (jI k.bits a&&& jI k.bits b).toNat,.t)
 | .or=>ae (.I k<|k.wrap (jI k.bits a|||jI k.bits b).toNat,.t)
 | .eql=>ae (.B<|a==b,.t)
 | .neq=>ae (.B<|a !=b,.t)
 | .lss=>ae (.B<|decide<|a<b,.t)
 | .leq=>ae (.B<|decide<|a<=b,.t)
 | .gtr=>ae (.B<|decide<|a>b,.t)
 | .geq=>ae (.B<|decide<|a>=b,.t)
 |_=>none
def EN(op:BinOp)(k:pE)(a b:V):aw (C×Pr):=match op with
 | .shl=>ae (.I k<|k.wrap<|a*2^(min (ah b) k.bits),.le 0 b)
 | .shr=>ae (.I k<|a.fdiv<|2^(min (ah b) k.bits),.le 0 b)
 |_=>none
def Mj(op:BinOp):C->C->aw (C×Pr)
 | .I k a,.I d b=>match op with
  | .shl=>EN .shl k a b
  | .shr=>EN .shr k a b
  |op=>if k=d then Ib op k a b else none
 | .B a,.B b=>match op with
  | .eql=>ae (.B<|a==b,.t)
  | .neq=>ae (.B<|a !=b,.t)
  |_=>none
 |_,_=>none
def akW{P}{op:BinOp}{k}{a b}{l}{pre}(d:Ib op k a b=ae (l,pre))(i:pre) g t W:
  ∃v,(binOp op t (.int k a)<|.int k b).run P W= .ok v W/\c6 g l v:=by
 cases op<;>simp only[Ib,ar,bQ,reduceCtorEq]at d
 case add=>have f:num k (a+b)=(l,pre):=d;refine⟨.int k<|k.wrap<|a+b,by simp[binOp,Sw,pure],?_⟩;have:=EM k (a+b) (by rw[f];exact i) g;rw[f]at this;exact this
 case sub=>have f:num k (a-b)=(l,pre):=d;refine⟨.int k<|k.wrap<|a-b,by simp[binOp,Sw,pure],?_⟩;have:=EM k (a-b) (by rw[f];exact i) g;rw[f]at this;exact this
 case mul=>have f:num k (a*b)=(l,pre):=d;refine⟨.int k<|k.wrap<|a*b,by simp[binOp,Sw,pure],?_⟩;have:=EM k (a*b) (by rw[f];exact i) g;rw[f]at this;exact this
 case quo=>
  obtain⟨rfl,rfl⟩:=d
  exact⟨.int k<|k.wrap<|a.tdiv b,by simp[binOp,Op.intDiv,show b≠0 from(show b≠0/\_ from i).1,pure],EM k _ (show b≠0/\_ from i).2 g⟩
 case rem=>
  obtain⟨rfl,rfl⟩:=d
  exact⟨.int k<|a.tmod b,by simp[binOp,Op.intDiv,show b≠0 from i,pure],J⟩
 case and=>obtain⟨rfl,rfl⟩:=d;exact⟨_,by simp[binOp,Op.intBits,pure],J⟩
 case or=>obtain⟨rfl,rfl⟩:=d;exact⟨_,by simp[binOp,Op.intBits,pure],J⟩
 case eql=>obtain⟨rfl,rfl⟩:=d;exact⟨_,EO,J⟩
 case neq=>obtain⟨rfl,rfl⟩:=d;exact⟨_,EO,J⟩
 case lss=>obtain⟨rfl,rfl⟩:=d;exact⟨_,EO,J⟩
 case leq=>obtain⟨rfl,rfl⟩:=d;exact⟨_,EO,J⟩
 case gtr=>obtain⟨rfl,rfl⟩:=d;exact⟨_,EO,J⟩
 case geq=>obtain⟨rfl,rfl⟩:=d;exact⟨_,EO,J⟩
def run_equal_bool{P}{t}(d:P.underlying t=ae .bool) a b W:(Op.equal t (.bool a)<|.bool b).run P W= .ok (a==b) W:=by rw[Op.equal,show Op.maxDepth=9999+1 from J,Op.equalIn];simp[run_underlying d]
def Zw(a:TT)(t:G):Bool:=match iA t a with
 |some b=>(match b.kind with| .bool=>af|_=>ak)
 |none=>ak
def EP(f:TT)(op:BinOp)(t:G)(x d:C):aw (C×Pr):=match x,d with
 | .B a,.B b=>if Zw f t then Mj op (.B a) (.B b)else none
 |x,d=>Mj op x d
def akX{P}{m}(n:cw P m=af){op:BinOp}{t:eh}{x p}{D}{pre}(d:EP m op t x p=ae (D,pre))(s:pre) g{u z}(i:c6 g x u)(l:c6 g p z) W
 H N:∃v,(do eqGuard op t H N u z;binOp op t u z:Sem aT).run P W= .ok v W/\c6 g D v:=by
 cases x<;>cases p<;>simp only[EP,Mj,reduceCtorEq]at d
 case B.B a b=>
  split at d
  .rename_i f;have C:P.underlying t=ae .bool:=by
    unfold Zw at f;cases hl:iA t m with
    |none=>rw[hl]at f;simp at f
    |some K=>
     rw[hl]at f
     have:=(fb n hl).kind
     cases Q:K.kind<;>simp only[Q]at f this<;>first|exact this| (simp at f)
   simp only[c6]at i l;subst i l;cases op<;>simp only[ar,bQ,reduceCtorEq]at d
   .obtain⟨rfl,rfl⟩:=d;exact⟨.bool<|a==b,by simp[eqGuard,binOp,run_equal_bool C],J⟩
   .obtain⟨rfl,rfl⟩:=d;exact⟨.bool<|a !=b,by simp[eqGuard,binOp,run_equal_bool C,bne],J⟩
  .simp at d
 case I.I k a A b=>
  simp only[c6]at i l
  subst i l
  have T:∀op,(do eqGuard op t H N (.int k a) (.int A b);binOp op t (.int k a) (.int A b):Sem aT).run P W=(binOp op t (.int k a)<|.int A b).run P W:=by intro op;cases op<;>simp[eqGuard]
  rw[T]
  cases op
  case shl=>
   simp only[EN,ar,bQ]at d
   obtain⟨rfl,rfl⟩:=d
   exact⟨_,by simp[binOp,Op.shift,Int.not_lt.2 (show(0:V)<=_ from s),pure],J⟩
  case shr=>
   simp only[EN,ar,bQ]at d
   obtain⟨rfl,rfl⟩:=d
   exact⟨_,by simp[binOp,Op.shift,Int.not_lt.2 (show(0:V)<=_ from s),pure],J⟩
  all_goals
   simp only at d
   split at d
   .rename_i e;subst e;exact akW d s g t W
   .simp at d
def Mk{P}{t}{b}(a:wZ P t=ae b) W:(isAgg t).run P W= .ok b W:=by
 unfold wZ at a;cases hu:P.underlying t with
 |none=>rw[hu]at a;simp at a
 |some d=>
  rw[hu]at a
  simp only[isAgg,dq,run_underlying hu,dM]
  cases d<;>simp at a<;>subst a<;>rfl
def run_sizeOf{P}{t}{i:TypeInfo}(a:P.info? t=ae i) W:(sizeOf t).run P W= .ok i.size W:=by simp[sizeOf,typeInfo,a]
def Ml{P:bO}:∀{l:E (G×G×Bool)}{m:E Field},tW P l m=af->∀{k:G}{a sz:G}{n:Bool},l[k]? =ae (a,sz,n)->
  ∃f,m[k]? =ae f/\f.offset=a/\(∃i,P.info? f.type=ae i/\i.size=sz)/\sz≠0/\wZ P f.type=ae n
 |[],_,_,_,_,_,_,b=>by simp at b
 | (t,s,g)::u,[],d,_,_,_,_,_=>by simp[tW]at d
 | (t,s,g)::u,f::m,d,0,a,sz,n,b=>by
  simp only[tW,cG,mV,beq_iff_eq]at d;simp only[n9,ar,bQ]at b;obtain⟨rfl,rfl,rfl⟩:=b;let ⟨⟨⟨⟨p,h2⟩,h3⟩,x⟩,_⟩:=d;refine⟨f,ax,p,?_,Cd,x⟩;cases v:P.info? f.type with
  |none=>rw[v]at h2;simp at h2
  |some i=>rw[v]at h2;simp at h2;exact⟨i,J,h2⟩
 | (t,s,g)::u,f::m,d,k+1,a,sz,n,b=>by simp only[tW,cG]at d;simp only[w5]at b;let ⟨z,p,h2⟩:=Ml d.2 b;exact⟨z,by simpa using p,h2⟩
def oN(d:E C)(b sz:G)(f:Bool):aw AV:=
 if f then(if b+sz<=Z d then ae (.a<|(az b d).take sz)else none)else(d[b]?).map .c
def a4.get{g:Gh}:∀{d:E C}{vs:E aT},a4 g d vs->∀{k:G}{b:C},d[k]? =ae b->∃v,vs[k]? =ae v/\c6 g b v
 |[],_,_,_,_,a=>by simp at a
 |_::_,_,hr,0,b,a=>by obtain⟨v,r,rfl,f,_⟩:=hr;simp at a;subst a;exact⟨v,ax,f⟩
 |_::_,_,hr,k+1,b,a=>by obtain⟨v,r,rfl,_,i⟩:=hr;simp at a;let ⟨u,h3,l⟩:=a4.get i a;exact⟨u,Cd,l⟩
def a4.drop{g:Gh}:∀{b:E C}{vs:E aT},a4 g b vs->∀k,a4 g (az k b) (az k vs)
 |[],_,a,k=>by simp only[a4]at a;subst a;simp[a4]
 |_::_,_,a,0=>by simpa using a
 |_::_,_,a,k+1=>by obtain⟨v,f,rfl,_,d⟩:=a;simpa using a4.drop d k
def a4.take{g:Gh}:∀{b:E C}{vs:E aT},a4 g b vs->∀k,a4 g (c k b) (c k vs)
 |[],_,a,k=>by simp only[a4]at a;subst a;simp[a4]
 |_::_,_,_,0=>by simp[a4]
 |_::_,_,a,k+1=>by obtain⟨v,i,rfl,d,f⟩:=a;simpa using⟨v,_,J,d,a4.take f k⟩
def Ic cs k:∀a∈b8 (az k cs),a∈b8 cs:=by
 induction cs generalizing k with
 |nil=>simp
 |cons c cs b=>cases k with
  |zero=>simp
  |succ k=>intro a h;simp only[List.drop_succ_cons]at h;simp only[b8,bg];exact .inr<|b k a h
def ER cs k:∀a∈b8 (c k cs),a∈b8 cs:=by
 induction cs generalizing k with
 |nil=>simp
 |cons d cs b=>cases k with
  |zero=>simp[b8]
  |succ k=>
   intro a h
   simp only[List.take_succ_cons,b8,bg]at h⊢
   exact h.imp (λx=>x)<|b k a
def akY{f}{k:G}{i}(b:f[k]? =ae i):∀g∈i.al,g∈b8 f:=by
 induction f generalizing k with
 |nil=>simp at b
 |cons d f l=>cases k with
  |zero=>simp at b;subst b;intro g a;simp[b8,a]
  |succ k=>simp at b;intro g a;simp only[b8,bg];exact .inr<|l b g a
def Zx{P}{g}{l}{vs}(m:a4 g l vs){a sz}{k}{x}(b:oN l a sz k=ae x){t}(d:wZ P t=ae k)
  {i:TypeInfo} (n:P.info? t=ae i) (p:i.size=sz) W:∃v,(part t vs.toArray a).run P W= .ok v W/\bf g x v:=by
 unfold oN at b
 cases k with
 |true=>
  simp only[cr]at b
  split at b
  .rename_i s;simp only[ar]at b;subst b;refine⟨.agg<|vs.toArray.extract a<|a+sz,?_,⟨(az a vs).take sz,?_,(m.drop a).take sz⟩⟩
   .simp only[part,dq,Mk d,dM,cr,run_sizeOf n,p];rfl
   .congr 1;simp[List.extract_toArray,List.extract_eq_take_drop]
  .simp at b
 |false=>
  simp only[jh,bV,bS]at b
  obtain⟨c,u,rfl⟩:=b
  let ⟨v,hv,f⟩:=m.get u
  refine⟨v,?_,f⟩
  simp only[part,dq,Mk d,dM,jh,bV,vg,hv];rfl
def Ah{g}{d sz}{i}{x}(a:oN g d sz i=ae x):∀b∈x.al,b∈b8 g:=by
 unfold oN at a;cases i with
 |true=>
  simp only[cr]at a
  split at a
  .simp only[ar]at a;subst a;exact λb f=>Ic _ _ b<|ER _ _ b f
  .simp at a
 |false=>
  simp only[jh,bV,bS]at a
  obtain⟨c,k,rfl⟩:=a
  exact akY k
def Zy(a x d:aw AV):aw (AV×Pr):=match a with
 |some (.c<|.B b)=>match x,d with
  |some (.c<|.B p),ae (.c<|.B q)=>ae (.c<|.B<|cond b p q,.t)
  |some v,none=>ae (v,.vf b af)
  |none,ae v=>ae (v,.vf b ak)
  |some v,ae (.c .any)=>ae (v,.vf b af)
  |some (.c .any),ae v=>ae (v,.vf b ak)
  |_,_=>none
 |_=>none
def Sx(op:UnOp)(x:AV):aw (AV×Pr):=match op,x with
 | .not,.c (.B b)=>ae (.c<|.B<|!b,.t)
 | .neg,.c (.I k n)=>ae (.c (num k<|0-n).1,(num k<|0-n).2)
 |_,_=>none
def Sy(d:TT)(a b:G)(x:AV):aw (AV×Pr):=match iA a d,iA b d,x with
 |some _,ae f,.c (.I _ n)=>(match f.kind with
  | .int k=>ae (.c (num k n).1,(num k n).2)
  |_=>none)
 |_,_,_=>none
def Sz(d:TT)(t:G)(x:AV)(f:G):aw AV:=match x,iA t d with
 | .a cs,ae b=>(match b.kind,b.fields[f]? with
  | .st,ae (off,sz,g)=>oN cs off sz g
  |_,_=>none)
 |_,_=>none
def Mm(b:TT)(t:G)(x:AV)(f:G):aw AV:=match iA t b with
 |some a=>(match a.kind,a.fields[f]? with
  | .st,ae (off,_,_)=>(match x with
   | .c (.P id o)=>ae<|.c<|.P id<|o+off
   | .c (.E T e o)=>ae<|.c<|.E T e<|o+off
   | .c (.Y id n i o)=>ae<|.c<|.Y id n i<|o+off
   |_=>none)
  |_,_=>none)
 |none=>none
def Mn(x:AV)(k:G):aw AV:=match x with
 | .t b=>(match b[k]? with
  |some (af,cs)=>ae<|.a cs
  |some (ak,[c])=>ae<|.c c
  |_=>none)
 |_=>none
def yi(a:TT)(t:G)(n:G):Bool:=match iA t a with
 |some b=>(match b.kind with
  | .sl e=>(match iA e a with|some d=>d.size=n|none=>ak)
  |_=>ak)
 |none=>ak
def Mp(a:TT)(t:G):aw (G×G):=match iA t a with
 |some b=>(match b.kind with
  | .arr n e=>(match iA e a with
   |some d=>ae (n,d.size)
   |none=>none)
  |_=>none)
 |none=>none
def Mq(a:TT)(t:G)(x i:AV):aw (AV×Pr):=match x,i with
 | .c (.S T xs),.c (.I _ k)=>if yi a t T.n then ae (.c<|.E T (List.getD xs (ah k) T.et) 0,.and (.le 0 k)<|.lt k<|Z xs)else none
 | .c (.P id off),.c (.I _ k)=>(match Mp a t with
  |some (n,sz)=>ae (.c<|.P id<|off+ah k*sz,.and (.le 0 k)<|.lt k n)
  |none=>none)
 | .c (.E T e off),.c (.I _ k)=>(match Mp a t with
  |some (n,sz)=>ae (.c<|.E T e<|off+ah k*sz,.and (.le 0 k)<|.lt k n)
  |none=>none)
 |_,_=>none
def Ie(a:TT)(t:G)(x:AV):aw AV:=match iA t a with
 |some b=>(match b.kind with
  | .sl _=>(match x with
   | .c (.S _ xs)=>ae<|.c<|.I .i64<|Z xs
   | .c (.V<|.slice none 0 0)=>ae<|.c<|.I .i64 0
   | .c (.W _ _ len)=>ae<|.c<|.I .i64 len
   |_=>none)
  |_=>none)
 |none=>none
def Mr(n:G):aw AV->G->aw (G×Pr)
 |none,d=>ae (d,.t)
 |some (.c<|.I _ k),_=>ae (ah k,.and (.le 0 k)<|.le k n)
 |_,_=>none
def SA(a:TT)(t:G)(x:AV)(b d:aw AV):aw (AV×Pr):=match x with
 | .c (.S T xs)=>if yi a t T.n then
   (match Mr (Z xs) d (Z xs)with
   |some (h,p)=>(match Mr h b 0 with
    |some (l,q)=>ae (.c<|.S T<|(c h xs).drop l,.and p q)
    |none=>none)
   |none=>none)
  else none
 |_=>none
def Mt(d:Bool):E AV->aw AV
 |[.c (.I k a),.c<|.I f b]=>if k=f then ae (.c<|.I k (if d then(if b>a then b else a)else(if b<a then b else a)))else none
 |_=>none
def Ai(a:St):aw Operand->aw (aw AV)
 |none=>ae none
 |some x=>(a.ev x).map ae
def vi(m:TT)(g:St):Op->aw (AV×Pr)
 | .move x=>(match g.ev x with|some v=>ae (v,.t)|none=>none)
 | .assign x=>(match g.ev x with|some v=>ae (v,.t)|none=>none)
 | .pick A x n=>Zy (g.ev A) (g.ev x)<|g.ev n
 | .binOp op t x n _=>(match g.ev x,g.ev n with
  |some (.c a),ae (.c b)=>(match EP m op t a b with|some (A,p)=>ae (.c A,p)|none=>none)
  |_,_=>none)
 | .unOp op _ x=>(match g.ev x with|some v=>Sx op v|none=>none)
 | .convert s d x=>(match g.ev x with|some v=>Sy m s d v|none=>none)
 | .field t x f=>(match g.ev x with|some v=>(match Sz m t v f with|some u=>ae (u,.t)|none=>none)|none=>none)
 | .fieldAddr t x f=>(match g.ev x with|some v=>(match Mm m t v f with|some u=>ae (u,.t)|none=>none)|none=>none)
 | .extract x k=>(match g.ev x with|some v=>(match Mn v k with|some u=>ae (u,.t)|none=>none)|none=>none)
 | .indexAddr t x i=>(match g.ev x,g.ev i with|some v,ae z=>Mq m t v z|_,_=>none)
 | .slice t x lo D none=>(match g.ev x,Ai g lo,Ai g D with|some v,ae l,ae H=>SA m t v l H|_,_,_=>none)
 | .call ⟨.builtin .len,args,B⟩=>(match args.toList,B.toList with
  |[x],[t]=>(match g.ev x with|some v=>(match Ie m t v with|some u=>ae (u,.t)|none=>none)|none=>none)
  |_,_=>none)
 | .call ⟨.builtin .max,args,_⟩=>(match args.toList with
  |[x,n]=>(match g.ev x,g.ev n with|some v,ae z=>(match Mt af [v,z]with|some u=>ae (u,.t)|none=>none)|_,_=>none)
  |_=>none)
 | .call ⟨.builtin .min,args,_⟩=>(match args.toList with
  |[x,n]=>(match g.ev x,g.ev n with|some v,ae z=>(match Mt ak [v,z]with|some u=>ae (u,.t)|none=>none)|_,_=>none)
  |_=>none)
 |_=>none
def pI(a:St)(op:Op):E (Key×Info):=op.operands.toList.flatMap<|cH a
section
variable{P:bO}{tt:TT}{g:Gh}{W:cA}
def akZ{op:UnOp}{x}{d}{p}(a:Sx op x=ae (d,p))(l:p){v}(b:bf g x v):(∃u,(Op.unary op v).run P W= .ok u W/\bf g d u)/\∀i∈d.al,i∈x.al:=by
 unfold Sx at a;split at a
 .simp only[ar,bQ]at a;obtain⟨rfl,rfl⟩:=a;simp only[bf,c6]at b;subst b;exact⟨⟨_,by simp[Op.unary,pure],J⟩,sI⟩
 .rename_i k n;simp only[ar,bQ]at a;obtain⟨rfl,rfl⟩:=a;simp only[bf,c6]at b;subst b;refine⟨⟨.int k<|k.wrap<|0-n,by simp[Op.unary,Sw,pure],EM k _ l g⟩,?_⟩;intro i f;cases k<;>simp[num,AV.al,C.al]at f
 .simp at a
def If k n:(num k n).1.al=[]:=by cases k<;>rfl
def ak0(b:cw P tt=af){s d}{x i}{p}(a:Sy tt s d x=ae (i,p))(z:p){v}(m:bf g x v):(∃u,(convert s d v).run P W= .ok u W/\bf g i u)/\i.al=[]:=by
 unfold Sy at a;split at a
 .rename_i A H K n B C;split at a
  .rename_i k D;simp only[ar,bQ]at a;obtain⟨rfl,rfl⟩:=a;simp only[bf,c6]at m;subst m;have t:=(fb b C).kind;rw[D]at t;have l:∃f,P.underlying s=ae f:=by
    have:=(fb b B).agg;unfold wZ at this;cases hu:P.underlying s with
    |none=>rw[hu]at this;simp at this
    |some f=>exact⟨f,J⟩
   let ⟨f,l⟩:=l;refine⟨⟨.int k<|k.wrap n,?_,EM k n z g⟩,If k n⟩;simp only[convert,dq,run_underlying l,run_underlying t,dM];cases f<;>rfl
  .simp at a
 .simp at a
def ak1(l:cw P tt=af){t f}{x m}(a:Sz tt t x f=ae m){v}(B:bf g x v):(∃u,(Instr.field t v f).run P W= .ok u W/\bf g m u)/\∀D∈m.al,D∈x.al:=by
 unfold Sz at a;split at a
 .rename_i c e C;split at a
  .rename_i H sz j K N;have A:=(fb l C).kind;rw[K]at A;let ⟨fs,hu,n⟩:=A;obtain⟨Q,p,rfl,⟨i,T,s⟩,_,z⟩:=Ml n N;obtain⟨vs,rfl,X⟩:=B;let ⟨u,b,d⟩:=Zx (W:=W) X a z T s;refine⟨⟨u,?_,d⟩,Ah a⟩;have k:fs[f]? =ae Q:=by simpa using p
   simp only[Instr.field,dq,run_underlying hu,dM,k,asAgg];simpa using b
  .simp at a
 .simp at a
def mW b a n:(Addr.mk b a none).add n=⟨b,a+n,none⟩:=by
 unfold Addr.add;split
 .rename_i e;subst e;rfl
 .rfl
def ak2(m:cw P tt=af){t f}{x n}(a:Mm tt t x f=ae n){v}(p:bf g x v):(∃u,(Zz t v f).run P W= .ok u W/\bf g n u)/\∀N∈n.al,N∈x.al:=by
 unfold Mm at a;split at a
 .rename_i F Q;split at a
  .rename_i T sz G X e;have H:=(fb m Q).kind;rw[X]at H;let ⟨fs,hu,s⟩:=H;obtain⟨K,z,rfl,⟨i,j,A⟩,B,q⟩:=Ml s e;have k:fs[f]? =ae K:=by simpa using z
   have d:∀b o,(Zz t (.pointer<|ae ⟨b,o,none⟩) f).run P W= .ok (.pointer<|ae ⟨b,o+K.offset,none⟩) W:=by intro b o;simp only[Zz,dq,run_underlying hu,dM,k,Ig,fieldPlace,run_sizeOf j];simp[A,B,mW]
   split at a
   .simp only[ar]at a;subst a;obtain⟨b,D,rfl⟩:=p;exact⟨⟨_,d _ _,b,D,J⟩,sI⟩
   .simp only[ar]at a;subst a;obtain⟨b,o,r,rfl,w,E⟩:=p;exact⟨⟨_,d _ _,b,o,r,by simp[sJ],w,E⟩,sI⟩
   .simp only[ar]at a;subst a;obtain⟨b,l,c,D,rfl⟩:=p;exact⟨⟨_,d _ _,b,l,c,D,by simp[sJ]⟩,sI⟩
   .simp at a
  .simp at a
 .simp at a
def dy.get{g:Gh}:∀{b:E (Bool×E C)}{vs:E aT},dy g b vs->∀{k:G}{s:Bool×E C},b[k]? =ae s->∃v,vs[k]? =ae v/\B6 g s v
 |[],_,_,_,_,a=>by simp at a
 |_::_,_,hr,0,d,a=>by obtain⟨v,r,rfl,f,_⟩:=hr;simp at a;subst a;exact⟨v,ax,f⟩
 |_::_,_,hr,k+1,d,a=>by obtain⟨v,r,rfl,_,i⟩:=hr;simp at a;let ⟨u,h3,l⟩:=dy.get i a;exact⟨u,Cd,l⟩
def ZA{f}{k:G}{l}(b:f[k]? =ae l):∀i∈b8 l.2,i∈dX f:=by
 induction f generalizing k with
 |nil=>simp at b
 |cons d f m=>cases k with
  |zero=>simp at b;subst b;intro i a;simp[dX,a]
  |succ k=>simp at b;intro i a;simp only[dX,bg];exact .inr<|m b i a
def ak3{x f}{k}(b:Mn x k=ae f){v}(n:bf g x v):(∃u,(ZB v k).run P W= .ok u W/\bf g f u)/\∀i∈f.al,i∈x.al:=by
 unfold Mn at b;split at b
 .rename_i p;obtain⟨vs,rfl,m⟩:=n;split at b
  .rename_i s d;simp only[ar]at b;subst b;let ⟨u,hu,a⟩:=m.get d;exact⟨⟨u,by simp[ZB,hu,pure],a⟩,ZA d⟩
  .rename_i c d;simp only[ar]at b;subst b;let ⟨u,hu,a⟩:=m.get d;exact⟨⟨u,by simp[ZB,hu,pure],a⟩,λi l=>ZA d i<|by simp[b8];exact l⟩
  .simp at b
 .simp at b
def ES(b:cw P tt=af){t n}(a:yi tt t n=af):∃d i,P.underlying t=ae (.slice d)/\P.info? d=ae i/\i.size=n:=by
 unfold yi at a;split at a
 .rename_i u k;split at a
  .rename_i d l;split at a
   .rename_i v m;have f:=(fb b k).kind;rw[l]at f;let ⟨i,p,s,_⟩:=(fb b m).info;exact⟨d,i,f,p,by rw[s];simpa using a⟩
   .simp at a
  .simp at a
 .simp at a
def ZC(b:cw P tt=af){t n sz}(a:Mp tt t=ae (n,sz)):∃d i,P.underlying t=ae (.array n d)/\P.info? d=ae i/\i.size=sz:=by
 unfold Mp at a;split at a
 .rename_i u k;split at a
  .rename_i v d l;split at a
   .rename_i x m;cases a;have f:=(fb b k).kind;rw[l]at f;let ⟨i,p,s,_⟩:=(fb b m).info;exact⟨d,i,f,p,s⟩
   .simp at a
  .simp at a
 .simp at a
def ak4(s:cw P tt=af){t}{x i N}{p}(f:Mq tt t x i=ae (N,p))(Q:p){v u}(hv:bf g x v)(B:bf g i u):(∃z,(Ce t v u).run P W= .ok z W/\bf g N z)/\∀D∈N.al,D∈x.al:=by
 unfold Mq at f;split at f
 .rename_i T xs E k;split at f
  .rename_i X;simp only[ar,bQ]at f;obtain⟨rfl,rfl⟩:=f;let ⟨e,i,m,C,H⟩:=ES s X;simp only[bf,c6]at B;subst B;obtain⟨a,I,rfl,F,G,K⟩:=hv;let ⟨c,q⟩:=(show 0<=k/\k<(Z xs:V)from Q);have A:ah k<Z xs:=Y;rcases K with K|⟨b,l,rfl,K⟩
   .subst K;simp at A
   .let ⟨r,hl,hr,hc⟩:=K (ah k) A;refine⟨⟨.pointer<|ae ⟨b,l+ah k*T.n,none⟩,?_,b,l+ah k*T.n,r,J,?_,?_⟩,λD bc=>yj⟩
    .have d:(0<=k/\k<(Z xs:V)):=⟨c,q⟩;simp only[Ce,asIntOf,dq,run_underlying m,dM];simp[d,run_sizeOf C,H,mW]
    .rw[aO,cT A];exact hr
    .intro j L;have:=hc j L;rw[this]
  .simp at f
 .rename_i D l E k;split at f
  .rename_i n sz w;simp only[ar,bQ]at f;obtain⟨rfl,rfl⟩:=f;let ⟨e,i,m,C,H⟩:=ZC s w;simp only[bf,c6]at B;subst B;obtain⟨b,M,rfl⟩:=hv;have d:0<=k/\k<(n:V):=Q;refine⟨⟨.pointer<|ae ⟨b,l+ah k*sz,none⟩,?_,b,M,J⟩,λD bc=>bc⟩;simp only[Ce,Ig,asIntOf,dq,Cf,run_underlying m,dM];simp[d,run_sizeOf C,H,mW]
  .simp at f
 .rename_i T O l E k;split at f
  .rename_i n sz w;simp only[ar,bQ]at f;obtain⟨rfl,rfl⟩:=f;let ⟨e,i,m,C,H⟩:=ZC s w;simp only[bf,c6]at B;subst B;obtain⟨b,o,r,rfl,F,G⟩:=hv;have d:0<=k/\k<(n:V):=Q;refine⟨⟨.pointer<|ae ⟨b,o+(l+ah k*sz),none⟩,?_,b,o,r,J,F,G⟩,λD bc=>bc⟩;simp only[Ce,Ig,asIntOf,dq,Cf,run_underlying m,dM];simp[d,run_sizeOf C,H,mW,sJ]
  .simp at f
 .simp at f
def ak5(i:cw P tt=af){t r:G}{x k}(d:Ie tt t x=ae k){v}(f:bf g x v):(∃u,(ZD #[t] r #[v]).run P W= .ok u W/\bf g k u)/\k.al=[]:=by
 unfold Ie at d;split at d
 .rename_i p l;split at d
  .rename_i e m;have h2:=(fb i l).kind;rw[m]at h2;split at d
   .rename_i T xs;simp only[ar]at d;subst d;obtain⟨a,n,rfl,_⟩:=f;exact⟨⟨_,Mu,J⟩,J⟩
   .simp only[ar]at d;subst d;simp only[bf,c6]at f;subst f;exact⟨⟨_,Mu,J⟩,J⟩
   .simp only[ar]at d;subst d;obtain⟨b,c,_,rfl,_⟩:=f;exact⟨⟨_,Mu,J⟩,J⟩
   .simp at d
  .simp at d
 .simp at d
def ZE{f}{l}{i}(d:Mt f l=ae i){v m}{n x2}(p:l=[n,x2])(s:bf g n v)(x:bf g x2 m) t z:
  (∃u,(if f then Builtin.max_ t z #[v,m]else Builtin.min_ t z #[v,m]).run P W= .ok u W/\bf g i u)/\i.al=[]:=by
 unfold Mt at d
 split at d
 .rename_i k a A b;split at d
  .rename_i e;subst e;simp only[ar]at d;subst d;simp only[Ih,and_true]at p;obtain⟨rfl,rfl⟩:=p;simp only[bf,c6]at s x;subst s x;cases f
   .exact⟨⟨_,by simp[Builtin.min_,Builtin.min2,mr,pure],J⟩,J⟩
   .exact⟨⟨_,by simp[Builtin.max_,Builtin.max2,mr,pure],J⟩,J⟩
  .simp at d
 .simp at d
end
section
variable{P:bO}{tt:TT}{g:Gh}{W:cA}
def Aj(g:Gh):aw AV->aw aT->Prop
 |none,none=>True
 |some a,ae u=>bf g a u
 |_,_=>False
def ZF{op:BinOp}{t}{x i f}{p}(d:EP tt op t x i=ae (f,p)):f.al=[]:=by
 cases x<;>cases i<;>simp only[EP,Mj,reduceCtorEq]at d;case B.B a b=>
  split at d
  .cases op<;>simp only[ar,bQ,reduceCtorEq]at d;all_goals (obtain⟨rfl,_⟩:=d;rfl)
  .simp at d
 case I.I k a m b=>
  have l:∀op,Ib op k a b=ae (f,p)->f.al=[]:=by
   intro op d;cases op<;>simp only[Ib,ar,reduceCtorEq]at d;case add=>have:=bl Prod.fst d;simp only at this;rw[<-this];exact If _ _
   case sub=>have:=bl Prod.fst d;simp only at this;rw[<-this];exact If _ _
   case mul=>have:=bl Prod.fst d;simp only at this;rw[<-this];exact If _ _
   all_goals
    simp only[bQ]at d
    obtain⟨rfl,_⟩:=d
    first|rfl|exact If _ _
  cases op
  case shl=>simp only[EN,ar,bQ]at d;obtain⟨rfl,_⟩:=d;rfl
  case shr=>simp only[EN,ar,bQ]at d;obtain⟨rfl,_⟩:=d;rfl
  all_goals
   simp only at d
   split at d
   .exact l _ d
   .simp at d
def SB{n}{x}{d h}{p}(a:Mr n x d=ae (h,p))(l:p){v}(b:Aj g x v)
 m (t:n<=m) (code:BoundsCode):
  (x=none/\v=none/\h=d)\/(∃u,v=ae u/\h<=n/\(SC u m code).run P W= .ok h W):=by
 unfold Mr at a
 split at a
 .simp only[ar,bQ]at a;cases v with
  |none=>exact .inl ⟨J,J,a.1.symm⟩
  |some u=>exact b.elim
 .rename_i s k;simp only[ar,bQ]at a;obtain⟨rfl,rfl⟩:=a;cases v with
  |none=>exact b.elim
  |some u=>
   have f:u= .int s k:=b
   subst f
   have i:0<=k/\k<=(n:V):=l
   refine .inr ⟨_,J,Y,?_⟩
   have:0<=k/\k<=(m:V):=⟨i.1,Y⟩
   simp[SC,asIntOf,this,mr,pure]
 .simp at a
def mQ.sub{u:Type}{s:u->E aT->Prop}{n}{H}{xs}{a}{d}(v:mQ s n H xs (.slice a (Z xs) d)){l k}(B:l<=k)(x:k<=Z xs):
  mQ s n H ((c k xs).drop l) (.slice (if d=l then a else a.map (·.add (l*n))) (k-l)<|d-l):=by
 let ⟨C,t,e,D,z,m⟩:=v
 simp only[ZG,true_and]at e
 obtain⟨rfl,rfl⟩:=e
 have f:Z ((c k xs).drop l)=k-l:=b6
 refine⟨_,d-l,by rw[f],Y,?_,?_⟩
 .rw[f];exact bZ (eB n Y) z
 .by_cases K:k=l
  .left;apply gA;omega
  .right;rcases m with m|⟨b,off,rfl,m⟩
   .subst m;simp at x;omega
   .refine⟨b,off+l*n,?_,λi N=>?_⟩
    .rw[j Y];simp[mW]
    .let ⟨cs,hl,hr,hc⟩:=m (l+i) Y;refine⟨cs,hl,?_,λp A=>?_⟩
     .simpa using hr
     .have:=hc p A;rw[(Ii:off+l*n+i*n+p=off+(l+i)*n+p)];exact this
def ak6(A:cw P tt=af){t}{x B}{lo hi}{p}(b:SA tt t x lo hi=ae (B,p))(hp:p){v}{D H}(hv:bf g x v)
  (hl:Aj g lo D) (hh:Aj g hi H):
  (∃z,(Instr.sliceAt t v D H none).run P W= .ok z W/\bf g B z)/\B.al=[]:=by
 unfold SA at b
 split at b
 .rename_i T xs;split at b
  .rename_i C;let ⟨e,i,K,N,w⟩:=ES A C;split at b
   .rename_i d I Q;split at b
    .rename_i l L X;simp only[ar,bQ]at b;obtain⟨rfl,rfl⟩:=b;let ⟨c,j⟩:=hp;have o:=hv;obtain⟨a,m,rfl,E,M,O⟩:=o;have f:=SB (P:=P) (W:=W) Q c hh m E<|.sliceAcap;have q:d<=Z xs:=by rcases f with⟨_,_,e⟩|⟨_,_,b,_⟩<;>omega
     have k:=SB (P:=P) (W:=W) X j hl d (aN _)<|.sliceB;have n:l<=d:=by rcases k with⟨_,_,e⟩|⟨_,_,b,_⟩<;>omega
     have s:=mQ.sub hv n q;refine⟨⟨_,?_,s⟩,J⟩;have r:(yk af (Z xs) m D H none).run P W= .ok (l,d,m) W:=by rcases f with⟨_,rfl,rfl⟩|⟨u,rfl,_,F⟩<;>rcases k with⟨_,rfl,rfl⟩|⟨R,rfl,_,G⟩<;>simp[yk, *]
     simp only[Instr.sliceAt,dq,run_underlying K,dM,Instr.slice,r,run_sizeOf N,w];rfl
    .simp at b
   .simp at b
  .simp at b
 .simp at b
def Ij{l}{b:G->Prop}{i}{a}(m:aM l b i g W a) st x v(f:Ai st x=ae v)
  (n:∀d,x=ae d->∀k∈cH st d,i k.1=ae k.2):Aj g v (x.map a.eval):=by
 cases x with
 |none=>simp only[Ai,ar]at f;subst f;trivial
 |some d=>
  simp only[Ai,bS]at f
  obtain⟨u,p,rfl⟩:=f
  exact dJ m st d u p<|n d J
def Mv(T:cw P tt=af){ops}{i}{aF:a8}{d:G}(ho:ops[i]? =ae aF)(hg:aF.guard=none)(hd:aF.dst=ae d){n}(dn:d<n)
 {st}{x}{p}(m:vi tt st aF.op=ae (x,p)) (hp:p) new:iJ P n ops i (pI st aF.op) [(.s d,ae<|.v x)] new:=by
 refine tX ho hg hd dn _ x new ?_
 intro F L Z g W a X V
 have B:∀y∈aF.op.operands,∀u,st.ev y=ae u->bf g u (a.eval y)/\∀N∈u.al,L N:=by
  intro y j u Q;have hr:∀I∈cH st y,Z I.1=ae I.2:=λI M=>V I<|iY.2 ⟨y,by simpa using j,M⟩
  exact⟨dJ X st y u Q hr,sH X st y u Q hr⟩
 have O:∀y∈aF.op.operands,∀I∈cH st y,Z I.1=ae I.2:=λy j I M=>V I<|iY.2 ⟨y,by simpa using j,M⟩
 let ⟨od,op,R,ayp,ayq,ogd⟩:=aF
 simp only at m B O
 unfold vi at m
 split at m
 .rename_i y;split at m
  .rename_i v H;simp only[ar,bQ]at m;obtain⟨rfl,rfl⟩:=m;have:=B y iu _ H;exact⟨this.2,_,by simp[execOp,pure],this.1⟩
  .simp at m
 .rename_i y;split at m
  .rename_i v H;simp only[ar,bQ]at m;obtain⟨rfl,rfl⟩:=m;have:=B y iu _ H;exact⟨this.2,_,by simp[execOp,pure],this.1⟩
  .simp at m
 .rename_i c y z;unfold Zy at m;split at m
  .rename_i b hb;have yl:=(B c iu _ hb).1;simp only[bf,c6]at yl;split at m
   .rename_i p1 q1 j S;simp only[ar,bQ]at m;obtain⟨rfl,rfl⟩:=m;have D:=(B y iu _ j).1;have e:=(B z iu _ S).1;simp only[bf,c6]at D e;refine⟨sI,.bool<|cond b p1 q1,?_,J⟩;cases b<;>simp[execOp,yl,asBool,D,e,mr,pure]
   .rename_i v j S;simp only[ar,bQ]at m;obtain⟨rfl,rfl⟩:=m;have D:=B y iu _ j;simp only[Pr.h]at hp;subst hp;exact⟨D.2,_,Mw,D.1⟩
   .rename_i v j S;simp only[ar,bQ]at m;obtain⟨rfl,rfl⟩:=m;have D:=B z iu _ S;simp only[Pr.h]at hp;subst hp;exact⟨D.2,_,Mw,D.1⟩
   .rename_i v j S;simp only[ar,bQ]at m;obtain⟨rfl,rfl⟩:=m;have D:=B y iu _ j;simp only[Pr.h]at hp;subst hp;exact⟨D.2,_,Mw,D.1⟩
   .rename_i v j S;simp only[ar,bQ]at m;obtain⟨rfl,rfl⟩:=m;have D:=B z iu _ S;simp only[Pr.h]at hp;subst hp;exact⟨D.2,_,Mw,D.1⟩
   .simp at m
  .simp at m
 .rename_i op t y z _;split at m
  .rename_i u w Q U;split at m
   .rename_i c q hc;simp only[ar,bQ]at m;obtain⟨rfl,rfl⟩:=m;have D:=(B y iu _ Q).1;have e:=(B z iu _ U).1;let ⟨v,jx,A⟩:=akX (P:=P) T hc hp g D e W y z;refine⟨?_,v,?_,A⟩
    .intro N bc;simp only[AV.al,ZF hc]at bc;cases bc
    .simp only[execOp,dq];rw[dq]at jx;simp only[jx];simp[dM,pure]
   .simp at m
  .simp at m
 .rename_i op t y;split at m
  .rename_i v H;have D:=B y iu _ H;let ⟨⟨u,jx,A⟩,hm⟩:=akZ (P:=P) (W:=W) m hp D.1;exact⟨λN bc=>D.2 N<|hm N bc,u,Ch,A⟩
  .simp at m
 .rename_i s d' y;split at m
  .rename_i v H;have D:=B y iu _ H;let ⟨⟨u,jx,A⟩,hm⟩:=ak0 (P:=P) (W:=W) T m hp D.1;exact⟨λN bc=>Ak,u,Ch,A⟩
  .simp at m
 .rename_i t y f;split at m
  .rename_i v H;split at m
   .rename_i u Q;simp only[ar,bQ]at m;obtain⟨rfl,rfl⟩:=m;have D:=B y iu _ H;let ⟨⟨u,jx,A⟩,hm⟩:=ak1 (P:=P) (W:=W) T Q D.1;exact⟨λN bc=>D.2 N<|hm N bc,u,Ch,A⟩
   .simp at m
  .simp at m
 .rename_i t y f;split at m
  .rename_i v H;split at m
   .rename_i u Q;simp only[ar,bQ]at m;obtain⟨rfl,rfl⟩:=m;have D:=B y iu _ H;let ⟨⟨u,jx,A⟩,hm⟩:=ak2 (P:=P) (W:=W) T Q D.1;exact⟨λN bc=>D.2 N<|hm N bc,u,Ch,A⟩
   .simp at m
  .simp at m
 .rename_i y k;split at m
  .rename_i v H;split at m
   .rename_i u Q;simp only[ar,bQ]at m;obtain⟨rfl,rfl⟩:=m;have D:=B y iu _ H;let ⟨⟨u,jx,A⟩,hm⟩:=ak3 (P:=P) (W:=W) Q D.1;exact⟨λN bc=>D.2 N<|hm N bc,u,Ch,A⟩
   .simp at m
  .simp at m
 .rename_i t y z;split at m
  .rename_i v w H U;have D:=B y iu _ H;have e:=B z iu _ U;let ⟨⟨u,jx,A⟩,hm⟩:=ak4 (P:=P) (W:=W) T m hp D.1 e.1;exact⟨λN bc=>D.2 N<|hm N bc,u,Ch,A⟩
  .simp at m
 .rename_i t y lo hi;split at m
  .rename_i v l h H hl hh;have D:=B y iu _ H;have e:=Ij X st lo l hl<|λq hq=>O q Ik;have h3:=Ij X st hi h hh<|λq hq=>O q Ik;let ⟨⟨u,jx,A⟩,hm⟩:=ak6 (P:=P) (W:=W) T m hp D.1 e h3;exact⟨λN bc=>Ak,u,Ch,A⟩
  .simp at m
 .rename_i args E;split at m
  .rename_i y t ha ht;have K:args= #[y]:=Il;have Y:E= #[t]:=SD;subst K Y;split at m
   .rename_i v H;split at m
    .rename_i u Q;simp only[ar,bQ]at m;obtain⟨rfl,rfl⟩:=m;have D:=B y EU _ H;let ⟨⟨u,jx,A⟩,hm⟩:=ak5 (P:=P) (W:=W) (r:=R) T Q D.1;exact⟨λN bc=>Ak,u,SE,A⟩
    .simp at m
   .simp at m
  .simp at m
 .rename_i args E;split at m
  .rename_i y z ha;have K:args= #[y,z]:=Il;subst K;split at m
   .rename_i v w H U;split at m
    .rename_i u Q;simp only[ar,bQ]at m;obtain⟨rfl,rfl⟩:=m;have D:=B y EU _ H;have e:=B z EU _ U;let ⟨⟨u,jx,A⟩,hm⟩:=ZE (P:=P) (W:=W) Q J D.1 e.1 E R;simp only[cr]at jx;exact⟨λN bc=>Ak,u,SE,A⟩
    .simp at m
   .simp at m
  .simp at m
 .rename_i args E;split at m
  .rename_i y z ha;have K:args= #[y,z]:=Il;subst K;split at m
   .rename_i v w H U;split at m
    .rename_i u Q;simp only[ar,bQ]at m;obtain⟨rfl,rfl⟩:=m;have D:=B y EU _ H;have e:=B z EU _ U;let ⟨⟨u,jx,A⟩,hm⟩:=ZE (P:=P) (W:=W) Q J D.1 e.1 E R;simp only[jh,bV]at jx;exact⟨λN bc=>Ak,u,SE,A⟩
    .simp at m
   .simp at m
  .simp at m
 .simp at m
end
section
variable{P:bO}{tt:TT}{g:Gh}{W:cA}
def run_load{a:Addr}{v}(b:W.cell? a=ae v):(load a).run P W= .ok v W:=by simp[load,mr,b]
def run_loadCellsFrom(b:G):∀(n i a:G)(vs:E aT)(d:Array aT),Z vs=n->(∀f(l:f<Z vs),W.cell? ⟨b,a+i+f,none⟩=ae vs[f])->
  (loadCellsFrom ⟨b,a,none⟩ i n d).run P W= .ok (d++vs.toArray) W
 |0,i,a,vs,d,hl,_=>by have:vs=[]:=gA hl;subst this;simp[loadCellsFrom,pure]
 |n+1,i,a,[],d,hl,_=>by simp at hl
 |n+1,i,a,v::vs,d,hl,hc=>by have k:=hc 0 ax;simp only[jZ,w6]at k;have m:=run_loadCellsFrom b n (i+1) a vs (d.push v) vj (λf l=>by have:=hc (f+1) b6;simp only[Ci]at this;rw[(Y:a+(i+1)+f=a+i+(f+1))];exact this);simp only[loadCellsFrom,mW,dq,run_load k,dM,m];congr 1;apply EV;simp
def ak7{t}{a}(d:wZ P t=ae a){i:TypeInfo}(n:P.info? t=ae i) b off vs(l:Z vs=i.size)(f:a=ak->i.size=1)
  (m:∀k(s:k<Z vs),W.cell? ⟨b,off+k,none⟩=ae vs[k]):∃v,(loadVar t ⟨b,off,none⟩).run P W= .ok v W/\((a=af/\v= .agg vs.toArray)\/(a=ak/\vs=[v])):=by
 cases a with
 |true=>
  refine⟨.agg vs.toArray,?_,.inl ⟨J,J⟩⟩
  simp only[loadVar,dq,Mk d,dM,cr,run_sizeOf n,loadCells]
  rw[run_loadCellsFrom b i.size 0 off vs #[] l (by simpa using m)]
  simp[pure]
 |false=>
  have p:Z vs=1:=by rw[l];exact f J
  match vs,p with
  |[v],_=>
   refine⟨v,?_,.inr ⟨J,J⟩⟩
   have:=m 0 ax
   simp only[jZ,w6]at this
   simp only[loadVar,dq,Mk d,dM,jh,bV,run_load this]
def pJ(tt:TT)(t:G):aw (G×Bool):=match iA t tt with
 |some a=>if a.agg then ae (a.size,af)else if a.size=1 then ae (1,ak)else none
 |none=>none
def Im(b:cw P tt=af){t sz}{d}(a:pJ tt t=ae (sz,d)):wZ P t=ae d/\(∃i,P.info? t=ae i/\i.size=sz)/\(d=ak->sz=1):=by
 unfold pJ at a;split at a
 .rename_i s n;have f:=fb b n;let ⟨i,l,m,_⟩:=f.info;split at a
  .rename_i k;simp only[ar,bQ]at a;obtain⟨rfl,rfl⟩:=a;exact⟨by rw[f.agg,k],⟨i,l,m⟩,ax⟩
  .rename_i k;split at a
   .rename_i p;simp only[ar,bQ]at a;obtain⟨rfl,rfl⟩:=a;exact⟨by rw[f.agg];simpa using k,⟨i,l,by rw[m];exact p⟩,λ_=>rfl⟩
   .simp at a
 .simp at a
def Io(A:cw P tt=af){t sz}{z}(T:pJ tt t=ae (sz,z)){B}{vs}(D:a4 g B vs){a}{x}(d:oN B a sz z=ae x)
 b n (hc:∀k(N:k<Z vs),W.cell? ⟨b,n+k,none⟩=ae vs[k]):∃v,(ZH t<|.pointer<|ae ⟨b,n+a,none⟩).run P W= .ok v W/\bf g x v:=by
 let ⟨C,⟨i,X,e⟩,f⟩:=Im A T
 have Q:=D.length
 have H:a+sz<=Z B:=by
  unfold oN at d;cases z with
  |true=>simp only[cr]at d;split at d<;>simp_all
  |false=>
   simp only[jh,bV,bS]at d
   let ⟨c,l,_⟩:=d
   have:=(qn.1 l).1
   have:=f J
   omega
 let ⟨v,p,m⟩:=ak7 (W:=W) C X b (n+a) ((az a vs).take sz) b6 (by rw[e];exact f) (λk N=>by simp at N;have:=hc (a+k) Y;simp only[sK,vk];rw[(Y:n+a+k=n+(a+k))];exact this)
 refine⟨v,by simpa[ZH,Ig]using p,?_⟩
 unfold oN at d
 cases z with
 |true=>
  simp only[cr]at d
  split at d
  .simp only[ar]at d;subst d;rcases m with⟨_,rfl⟩|⟨K,_⟩
   .exact⟨_,J,(D.drop a).take sz⟩
   .simp at K
  .rename_i q;exact aJ H q
 |false=>
  simp only[jh,bV,bS]at d
  obtain⟨c,l,rfl⟩:=d
  rcases m with⟨K,_⟩|⟨_,m⟩
  .simp at K
  .let ⟨u,hu,s⟩:=D.get l;have r:=f J;subst r;have:(az a vs).take 1=[u]:=by rw[List.take_one,List.head?_drop,hu];rfl
   rw[this]at m;simp only[Ih,and_true]at m;subst m;exact s
def Ip(tt:TT)(b:St)(t:G)(x:AV):aw (AV×Pr×E G):=match pJ tt t with
 |some (sz,a)=>(match x with
  | .c (.P id off)=>(match iA id b.mem with
   |some (.box _ _ cs)=>(match oN cs off sz a with|some y=>ae (y,.t,[id])|none=>none)
   |some (.fz _ cs)=>(match oN cs off sz a with|some y=>ae (y,.t,[id])|none=>none)
   |_=>none)
  | .c (.E T e off)=>(match oN (av T e) off sz a with|some y=>ae (y,.t,[])|none=>none)
  | .c (.Y id n i off)=>(match iA id b.mem with
   |some (.vec _ T xs)=>if T.n=n then(match oN (av T<|List.getD xs i T.et) off sz a with|some y=>ae (y,.Cc i<|Z xs,[id])|none=>none)else none
   |_=>none)
  |_=>none)
 |none=>none
def fK(f:St)(a:E G):E (Key×Info):=a.flatMap λd=>match iA d f.mem with
 |some b=>[(.m d,.b b)]
 |none=>[]
def w7{b}{vs}{d}{f}(i:W.heap[b]? =ae (.cells vs.toArray d f)) a(k:a<Z vs):W.cell? ⟨b,a,none⟩=ae vs[a]:=by simp[Iq,i,k]
def Ir:∀(T:ET)(x:T.den),b8 (av T x)=[]
 | .int _,_=>rfl
 | .bool,_=>rfl
 | .z,_=>rfl
 | .q,_=>rfl
 | .sl _,_=>rfl
 | .pr A B,x=>by
  have i:∀(a b:E C),b8 a=[]->b8 b=[]->b8 (a++b)=[]:=by
   intro a;induction a with
   |nil=>intro b _ d;exact d
   |cons c a k=>
    intro b f d
    simp only[b8,SF]at f
    simp only[lO,b8,SF]
    exact⟨f.1,k b f.2 d⟩
  exact i _ _ (Ir A x.1)<|Ir B x.2
def ZI(cC:cw P tt=af){ops}{i}{aF:a8}{d:G}(ho:ops[i]? =ae aF)(hg:aF.guard=none)(hd:aF.dst=ae d){n}(dn:d<n){t}{x}(bW:aF.op= .load t x)
 {st}{v cN}{p}{ids:E G} (hx:st.ev x=ae v) (B:Ip tt st t v=ae (cN,p,ids)) (hp:p) (new:G):
  iJ P n ops i (cH st x++fK st ids) [(.s d,ae<|.v cN)] new:=by
 refine tX ho hg hd dn _ cN new ?_
 intro F known σ g W a C L
 have Q:=dJ C st x v hx<|λkx cq=>L kx<|eH _ cq
 have q:∀X∈ids,∀b,iA X st.mem=ae b->σ (.m X)=ae (.b b):=by intro X bc b hb;exact L (.m X,.b b)<|gx _<|iY.2 ⟨X,bc,by simp[hb]⟩
 have H:execOp a.eval aF=(do pure (.value<|<-ZH t (a.eval x))):=w8
 unfold Ip at B
 split at B
 .rename_i sz ag I;split at B
  .rename_i X M;split at B
   .rename_i bp bz cs O;split at B
    .rename_i z r;simp only[ar,bQ]at B;obtain⟨rfl,rfl,rfl⟩:=B;have N:=q X ax _ O;let ⟨b,vs,rest,w,R,S,_,_⟩:=C.cE X _ N;let ⟨b',f,hv⟩:=Q;rw[w]at f;simp only[ar]at f;subst f;let ⟨u,A,hu⟩:=Io (W:=W) cC I S r b 0 (λj J=>by have:=w7 R j b6;rw[rz J]at this;simpa using this);refine⟨λK D=>C.al _ _ N K<|Ah r K D,u,?_,hu⟩;rw[H,hv];simp only[fc]at A;simp[A,mr,pure]
    .simp at B
   .rename_i bp cs O;split at B
    .rename_i z r;simp only[ar,bQ]at B;obtain⟨rfl,rfl,rfl⟩:=B;have N:=q X ax _ O;let ⟨b,vs,rest,w,R,S,_⟩:=C.cE X _ N;let ⟨b',f,hv⟩:=Q;rw[w]at f;simp only[ar]at f;subst f;let ⟨u,A,hu⟩:=Io (W:=W) cC I S r b 0 (λj J=>by have:=w7 R j b6;rw[rz J]at this;simpa using this);refine⟨λK D=>C.al _ _ N K<|Ah r K D,u,?_,hu⟩;rw[H,hv];simp only[fc]at A;simp[A,mr,pure]
    .simp at B
   .simp at B
  .rename_i T e M;split at B
   .rename_i z r;simp only[ar,bQ]at B;obtain⟨rfl,rfl,rfl⟩:=B;let ⟨b,o',cs,hv,U,hc⟩:=Q;let ⟨u,A,hu⟩:=Io (W:=W) cC I (Ae T e cs U) r b o'<|λj J=>C.sub _ _ _<|hc j J;refine⟨λK D=>?_,u,?_,hu⟩
    .have:=Ah r K D;rw[Ir]at this;cases this
    .rw[H,hv];simp[A,mr,pure]
   .simp at B
  .rename_i X m k M;split at B
   .rename_i bp T xs O;split at B
    .rename_i tY;split at B
     .rename_i z r;simp only[ar,bQ]at B;obtain⟨rfl,rfl,rfl⟩:=B;have N:=q X ax _ O;let ⟨b',l,c,f,hv⟩:=Q;rcases C.cE X _ N with⟨_,h0⟩|⟨b,cap,vs,w,R,hlen,hle,_,S,_,_⟩
      .subst h0;simp[Pr.h]at hp
      .rw[w]at f;simp only[ZG,ar,Addr.mk.injEq,and_true]at f;obtain⟨rfl,_,_⟩:=f;have hp:k<Z xs:=hp;have V:=S k hp;rw[show xs[k]=List.getD xs k T.et by rw[aO,cT hp];rfl]at V;have xa:(k+1)*T.n<=cap*T.n:=eB _ Y;rw[fZ,hY]at xa;have ays:Z ((az (k*T.n) vs).take T.n)=T.n:=b6;let ⟨u,A,hu⟩:=Io (W:=W) cC I (Ae T _ _ V) r b (k*T.n) (λj J=>by have:=w7 R (k*T.n+j) Y;simp only[sK,vk];exact this);refine⟨λK D=>?_,u,?_,hu⟩
       .have:=Ah r K D;rw[Ir]at this;cases this
       .rw[H,hv,<-tY];simp[A,mr,pure]
     .simp at B
    .simp at B
   .simp at B
  .simp at B
 .simp at B
end
section
variable{P:bO}{tt:TT}{g:Gh}{W:cA}
def oO:aT->Bool
 | .agg _=>ak
 | .tuple _=>ak
 |_=>af
def lz:C->Bool
 | .any=>ak
 | .V v=>oO v
 | .M _=>ak
 | .X _=>ak
 |_=>af
def ZJ{f}{v}(s:lz f=af)(d:c6 g f v):oO v=af:=by
 cases f with
 |any=>simp[lz]at s
 |B b=>simp only[c6]at d;subst d;rfl
 |I k n=>simp only[c6]at d;subst d;rfl
 |V u=>simp only[c6]at d;subst d;exact s
 |S T xs=>obtain⟨a,p,rfl,_⟩:=d;rfl
 |P id off=>obtain⟨b,_,rfl⟩:=d;rfl
 |X id=>simp[lz]at s
 |Y id n i off=>obtain⟨b,l,f,_,rfl⟩:=d;rfl
 |E T x off=>obtain⟨b,o,t,rfl,_⟩:=d;rfl
 |M m=>simp[lz]at s
 |L id off len p=>
  cases p with
  |some f=>obtain⟨b,_,rfl⟩:=d;rfl
  |none=>obtain⟨_,b,f,_,rfl,_⟩:=d;rfl
 |W id off len=>obtain⟨b,f,_,rfl,_⟩:=d;rfl
def ji(W:cA)(b:G)(vs:E aT)(a:eh):cA:={W with heap:=W.heap.setIfInBounds b<|.cells vs.toArray a (0,0)}
def EW{b}{vs}{a}(d:b<W.heap.size):(ji W b vs a).heap[b]? =ae (.cells vs.toArray a (0,0)):=by simp[ji,d]
def ym{b k}{vs}{a}(d:b≠k):(ji W b vs a).heap[k]? =W.heap[k]? :=by simp[ji,lM d]
def ak8{b j}{vs}{a}(d:W.heap[b]? =ae (.cells vs.toArray a (0,0)))(i:j<Z vs){v}(l:oO v=af):
  (store ⟨b,j,none⟩ v).run P W= .ok () (ji W b (vs.set j v) a):=by
 have m:b<W.heap.size:=(fJ.1 d).1
 have n:W.cell? ⟨b,j,none⟩=ae vs[j]:=w7 d j i
 have p:W.frozen? ⟨b,j,none⟩=ak:=by simp[World.frozen?,d]
 have s:W.setCell ⟨b,j,none⟩ v=ji W b (vs.set j v) a:=by
  unfold World.setCell ji;congr 1;apply ak9;intro k;rw[Array.getElem?_modify,ak'];have f:W.heap[b]= .cells vs.toArray a (0,0):=(fJ.1 d).2;by_cases e:b=k
  .subst e;simp[m,f]
  .simp[e]
 cases v<;>simp[store,mr,n,p,s]<;>simp[oO]at l
def ala{b}{vs a}{f d}:ji (ji W b vs f) b a d=ji W b a d:=by simp[ji]
def alb{b}{vs}{a}(f:W.heap[b]? =ae (.cells vs.toArray a (0,0))):ji W b vs a=W:=by
 have i:b<W.heap.size:=(fJ.1 f).1;have:W.heap.setIfInBounds b (.cells vs.toArray a (0,0))=W.heap:=by
  apply ak9;intro k;rw[ak'];by_cases e:b=k
  .subst e;have d:W.heap[b]= .cells vs.toArray a (0,0):=(fJ.1 f).2;simp[i,d]
  .simp[e]
 unfold ji;rw[this]
def cK{b:Type}(vs d:E b)(a:G):E b:=c a vs++d++az (a+Z d) vs
def yn{b:Type}(vs a:E b) off(d:off+Z a<=Z vs):(cK vs a off).length=Z vs:=by simp[cK];omega
def ZK{a:Type} vs us(u:a) off(h:off<Z vs):cK (vs.set off u) us (off+1)=cK vs (u::us) off:=by
 unfold cK;rw[List.drop_set_of_lt Y];have b:(vs.set off u).take (off+1)=c off vs++[u]:=by rw[SH eQ];simp only[List.take_set,List.getElem_set_self];rw[List.set_eq_of_length_le b6]
 rw[b];simp only[iK,mX,lO,tZ];rw[(Y:off+1+Z us=off+(Z us+1))]
def Al(b:G){l:eh}:∀(f:E aT)(W:cA)(vs:E aT)(a i:G),W.heap[b]? =ae (.cells vs.toArray l (0,0))->a+i+Z f<=Z vs->(∀u∈f,oO u=af)->
  (storeCells ⟨b,a,none⟩ f i).run P W= .ok () (ji W b (cK vs f<|a+i) l)
 |[],W,vs,a,i,k,_,_=>by
  have:cK vs [] (a+i)=vs:=by simp[cK]
  rw[this,alb k];simp[storeCells,pure]
 |u::f,W,vs,a,i,k,hle,d=>by simp only[iK]at hle;have m:b<W.heap.size:=(fJ.1 k).1;have n:=ak8 (P:=P) k (j:=a+i) Y<|d u ax;have p:=Al b f (ji W b (vs.set (a+i) u) l) (vs.set (a+i) u) a (i+1) (EW m) b6<|λx hx=>d x k7;simp only[storeCells,mW,dq,n,dM,p,ala];rw[(Y:a+(i+1)=a+i+1),ZK _ _ _ _ Y]
def lP:AV->aw (E C)
 | .c x=>ae [x]
 | .a cs=>ae cs
 | .t _=>none
def My{x}{i}(b:lP x=ae i){v}(d:bf g x v)(f:∀k∈i,lz k=af):∃vs,v.cells=vs.toArray/\a4 g i vs:=by
 cases x with
 |c y=>
  simp only[lP,ar]at b
  subst b
  have l:=ZJ (f y ax) d
  refine⟨[v],?_,v,[],J,d,J⟩
  cases v<;>first|rfl| (simp[oO]at l)
 |a ds=>
  simp only[lP,ar]at b
  subst b
  obtain⟨vs,rfl,d⟩:=d
  exact⟨vs,J,d⟩
 |t _=>simp[lP]at b
def a4.one{b}{vs}(d:a4 g b vs)(a:∀f∈b,lz f=af):∀v∈vs,oO v=af:=by
 induction b generalizing vs with
 |nil=>simp only[a4]at d;subst d;simp
 |cons f b l=>
  obtain⟨v,r,rfl,m,n⟩:=d
  intro u i
  rcases b9.1 i with rfl|i
  .exact ZJ (a f ax) m
  .exact l n (λp k=>a p<|by simp[k]) u i
def a4.cK{a b}{vs d}(f:a4 g a vs)(i:a4 g b d) off:a4 g (Go.El.cK a b off) (Go.El.cK vs d off):=by unfold Go.El.cK;rw[i.length];exact a4.append (a4.append (f.take off) i)<|f.drop _
def EX a b:∀d∈b8 (a++b),d∈b8 a\/d∈b8 b:=by
 induction a with
 |nil=>intro d h;exact .inr h
 |cons c a f=>
  intro d h
  simp only[lO,b8,bg]at h⊢
  rcases h with h|h
  .exact .inl<|.inl h
  .rcases f d h with h|h
   .exact .inl<|.inr h
   .exact .inr h
end
section
variable{P:bO}{tt:TT}
def Is(tt:TT)(a:St)(t:G)(x v:AV):aw (G×aC):=match pJ tt t,x,lP v with
 |some (sz,_),.c (.P id off),ae us=>(match iA id a.mem with
  |some (.box E b cs)=>if Z us=sz/\off+sz<=Z cs/\us.all lz=af then ae (id,.box E b<|cK cs us off)else none
  |_=>none)
 |_,_,_=>none
def EY cs us off:∀a∈b8 (cK cs us off),a∈b8 cs\/a∈b8 us:=by
 intro a b;unfold cK at b;rcases EX _ _ a b with h|h
 .rcases EX _ _ a h with h|h
  .exact .inl<|ER _ _ a h
  .exact .inr h
 .exact .inl<|Ic _ _ a h
def Am{H}{W}(g:Sub H W){b}{vs}{i}(k:∀a,H b a=none):Sub H (ji W b vs i):=by
 intro f a v d;have l:=g f a v d;by_cases e:b=f
 .subst e;rw[k a]at d;cases d
 .simp only[Iq,ym e];exact l
def Mz{b:Type}(vs rest a:E b) off(d:off+Z a<=Z vs):cK (vs++rest) a off=cK vs a off++rest:=by unfold cK;rw[yo Y,Cj Y];simp[mX]
def ZL(cC:cw P tt=af){ops}{i}{aF}(ho:ops[i]? =ae aF)(hg:aF.guard=none)(hd:aF.dst=none){n}{t:eh}{x cN}(bW:aF.op= .store t x cN)
 {A}{vx vy}{id}{bk:aC} (hx:A.ev x=ae vx) (hy:A.ev cN=ae vy) (B:Is tt A t vx vy=ae (id,bk)) (new:G):
  iJ P n ops i (cH A x++cH A cN++fK A [id]) [(.m id,ae<|.b bk)] new:=by
 intro F ly Q L σ g W a K r d C hK
 have M:=dJ d A x vx hx<|λw cq=>C w eK
 have O:=dJ d A cN vy hy<|λw cq=>C w eK
 have R:=sH d A cN vy hy<|λw cq=>C w eK
 unfold Is at B
 split at B
 .rename_i _ sz ag u l us S p;split at B
  .rename_i E bz cs hl;split at B
   .rename_i N;let ⟨h1,h2,h3⟩:=N;simp only[ar,bQ]at B;obtain⟨rfl,rfl⟩:=B;have s:σ (.m u)=ae (.b<|.box E bz cs):=C (.m u,.b<|.box E bz cs) rB;let ⟨b,vs,rest,T,hh,hr,hN,hz,U⟩:=d.cE u _ s;let ⟨b',v,hv⟩:=M;rw[T]at v;simp only[ar]at v;subst v;have H:∀c∈us,lz c=af:=λc hc=>nw.1 h3 c hc
    let ⟨ws,V,X⟩:=My p O H;let ⟨_,⟨ti,Z,ZM⟩,_⟩:=Im cC S;have ayt:=X.length;have alc:=hr.length;have I:(SI t (a.eval x)<|a.eval cN).run P W= .ok () (ji W b (cK (vs++rest) ws l) E):=by rw[hv];simp only[SI,Ig,storeVar,dq,Cf,dM,run_sizeOf Z,V];have:¬(ws.toArray.size≠ti.size):=b6;simp only[this,bV];have:=Al (P:=P) b ws W (vs++rest) l 0 hh b6<|X.one H;simp only[jZ]at this;simpa using this
    unfold wpOp;simp only[ho,gZ,hg,cr];refine .inl ?_;unfold pG;have hex:(execOp a.eval aF).run P W= .ok .skip (ji W b (cK (vs++rest) ws l) E):=by rw[execOp,bW];simp[I,mr,pure]
    rw[hex];simp only[oL,hd,iq];have hb:b<W.heap.size:=(fJ.1 hh).1;refine hK g _ a<|d.step (chg:=λj=>j=u) (g':=g) ⟨⟨cD.refl _,λ_ _=>rfl⟩,λ_ _ _=>rfl,Am d.sub hz,An,?_,J,J,J⟩ _ new r J d.defers (λ_ _=>rfl) ?_ ?_ ?_ ?_ ?_
    .intro k hk ew;have:b≠k:=λe=>ew u J (by rw[T,e])
     exact ym this
    .intro j D;subst D;exact⟨yp,_,s⟩
    .intro t' v' ht;simp[aE]at ht
    .intro j bk D;simp only[aE]at D;split at D
     .rename_i e;simp only[Key.m.injEq]at e;subst e;simp only[ar,Info.b.injEq]at D;subst D;have sL:cK (vs++rest) ws l=cK vs ws l++rest:=Mz vs rest ws l Y;exact⟨⟨b,cK vs ws l,rest,T,MA,hr.cK X l,hN,hz,λh0=>by let ⟨c,e1,e2⟩:=U h0;refine⟨c,e1,?_⟩;rw[<-sL,yn _ _ _ b6];exact e2⟩,.inl ⟨d.dI _ _ s,_,s⟩⟩
     .simp at D
    .intro k z f;simp only[aE]at f;split at f
     .simp only[ar]at f;subst f;intro j D;rcases EY _ _ _ j D with h|h
      .exact .inl<|d.al _ _ s j h
      .refine .inl<|R j ?_;cases vy with
       |c q=>simp only[lP,ar]at p;subst p;simpa[b8,AV.al]using h
       |a q=>simp only[lP,ar]at p;subst p;exact h
       |t q=>simp[lP]at p
     .simp at f
    .intro j z f;simp only[aE]at f;split at f
     .rename_i e;simp only[Key.m.injEq]at e;subst e;exact .inl<|d.dI _ _ s
     .simp at f
   .simp at B
  .simp at B
 .simp at B
def EZ(W:cA)(a:Obj) k(b:k<W.heap.size):(W.heap.push a)[k]? =W.heap[k]? :=by rw[Array.getElem?_push,j Y]
def Ck{H}{W}(g:Sub H W)(f:Obj):Sub H {W with heap:=W.heap.push f}:=by intro b a v i;have d:=g b a v i;have k:=Cm W _ d;simp only[Iq]at d⊢;rw[EZ W f b k];exact d
def ZN{D}{i}{z:a8}{d:G}(ho:D[i]? =ae z)(hg:z.guard=none)(hd:z.dst=ae d){n}(dn:d<n){bp}rd cs new
  (cP:∀(gP:dB)(f:G->Prop)(σ:Kn)(g:Gh)(W:cA)(a:Act),aM gP f σ g W a->(∀kx∈rd,σ kx.1=ae kx.2)->
   (∀p∈b8 cs,f p)/\∃vs,a4 g cs vs/\(execOp a.eval z).run P W= .ok (.value<|.pointer<|ae ⟨W.heap.size,0,none⟩) {W with heap:=W.heap.push<|.cells vs.toArray bp (0,0)}):
  iJ P n D i rd [(.s d,ae<|.v<|.c<|.P new 0),(.m new,ae<|.b<|.box bp 0 cs)] new:=by
 intro gP ly Q f σ g W a K A aW X w
 let ⟨hm,vs,hr,N⟩:=cP gP f σ g W a aW X
 unfold wpOp
 simp only[ho,gZ,hg,cr]
 refine .inl ?_
 unfold pG
 rw[N]
 simp only[oL,hd]
 have j:d<a.tmps.size:=nv
 let B:Gh:=⟨g.H,λp=>if p=new then .pointer (ae ⟨W.heap.size,0,none⟩)else g.γ p⟩
 have T:gw f g B:=⟨cD.refl _,λp l=>by
  have:p≠new:=λe=>A<|e▸l
  simp[B,this]⟩
 have x:∀z,g.H W.heap.size z=none:=by
  intro z;cases hv:g.H W.heap.size z with
  |none=>rfl
  |some v=>
   have:=Cm W _<|aW.sub _ _ _ hv
   simp at this
 refine w B _ _<|aW.step (chg:=λ_=>False) (g':=B) ⟨T,λ_ _ _=>rfl,Ck aW.sub _,ax,λk q _=>EZ W _ k q,J,J,J⟩ _ new A oM aW.defers ?_ (λ_ cP=>cP.elim) ?_ ?_ ?_ ?_
 .intro t ht;have r:d≠t:=ua;simp[iq,lM r]
 .intro t u ht;simp only[aE]at ht;split at ht
  .rename_i e;simp only[Key.s.injEq]at e;simp only[ar,Info.v.injEq]at ht;subst e;subst ht;refine⟨W.heap.size,by simp[B,cF],?_⟩;simp[iq,j]
  .split at ht
   .simp at ht
   .simp at ht
 .intro p b ht;simp only[aE,reduceCtorEq,bV]at ht;split at ht
  .rename_i e;simp only[Key.m.injEq]at e;subst e;simp only[ar,Info.b.injEq]at ht;subst ht;refine⟨⟨W.heap.size,vs,[],by simp[B,cF],ax,a4.mono T hm hr,.inl aW.below.size,x,ax⟩,.inr ⟨J,λk q=> .inl ?_⟩⟩;simp only[B,cr,cF,ar]at q;omega
  .simp at ht
 .intro k y ht;simp only[aE]at ht;split at ht
  .simp only[ar]at ht;subst ht;intro p l;simp[Info.al,AV.al,C.al]at l;exact .inr l
  .split at ht
   .simp only[ar]at ht;subst ht;exact λp l=> .inl<|hm p l
   .simp at ht
 .intro p y ht;simp only[aE,reduceCtorEq,bV]at ht;split at ht
  .rename_i e;simp only[Key.m.injEq]at e;exact .inr e.symm
  .simp at ht
def ald{p}{i}{A:a8}{d:G}(ho:p[i]? =ae A)(hg:A.guard=none)(hd:A.dst=ae d){n}(H:d<n){bp}{x}(N:A.op= .box bp x)
 {B}{v}{D}(hx:B.ev x=ae v) (f:lP v=ae D) (Q:D.all lz=af) (k:G):
  iJ P n p i (cH B x) [(.s d,ae<|.v<|.c<|.P k 0),(.m k,ae<|.b<|.box bp 0 D)] k:=by
 refine ZN ho hg hd H _ D k ?_
 intro F C r g W a l u
 have X:=dJ l B x v hx u
 have e:=sH l B x v hx u
 let ⟨vs,K,T⟩:=My f X<|λc h=>nw.1 Q c h
 refine⟨λj z=>e j ?_,vs,T,?_⟩
 .cases v with
  |c q=>simp only[lP,ar]at f;subst f;simpa[b8,AV.al]using z
  |a q=>simp only[lP,ar]at f;subst f;exact z
  |t q=>simp[lP]at f
 .rw[execOp,N];simp[Instr.box,newVar,newRow,newObj,K,mr,pure]
def Ao(g:Gh):∀a:E ZV,a4 g (a.map ZV.qm) (a.map ZV.fC)
 |[]=>rfl
 |z::a=>⟨_,_,J,by cases z<;>rfl,Ao g a⟩
def ale(x:cw P tt=af){f}{i}{p:a8}{d:G}(Q:f[i]? =ae p)(T:p.guard=none)(hd:p.dst=ae d){n}(A:d<n){B}(D:p.op= .alloc B)
 {t}(H:iA B tt=ae t) new:
  iJ P n f i [] [(.s d,ae<|.v<|.c<|.P new 0),(.m new,ae<|.b<|.box B 0<|t.zero.map ZV.qm)] new:=by
 refine ZN Q T hd A _ _ new ?_
 intro F C q g W a N X
 let ⟨r,e,_,_,z,h,K⟩:=(fb x H).info
 refine⟨?_,t.zero.map ZV.fC,Ao g _,?_⟩
 .intro w k;exfalso;have:∀u:E ZV,b8 (u.map ZV.qm)=[]:=by
   intro u;induction u with
   |nil=>rfl
   |cons z u j=>simp only[gM,b8,j];cases z<;>rfl
  rw[this]at k;cases k
 .have l:z.cells=(t.zero.map ZV.fC).toArray:=by rw[<-MB];simpa using K
  rw[execOp,D];simp[Instr.alloc,zeroValue,typeInfo,e,h,newVar,newRow,newObj,l,mr,pure]
end
section
variable{P:bO}{tt:TT}
def SJ(tt:TT)(b:St)(t a:G)(i:AV):aw (AV×Pr):=match iA a b.mem,i with
 |some (.vec _ T xs),.c (.I _ k)=>if yi tt t T.n then ae (.c<|.Y a T.n (ah k) 0,.and (.le 0 k)<|.lt k<|Z xs)else none
 |_,_=>none
def alf(cC:cw P tt=af){N}{i}{Q:a8}{d:G}(ho:N[i]? =ae Q)(hg:Q.guard=none)(hd:Q.dst=ae d){n}(dn:d<n){t}{x H}(bW:Q.op= .indexAddr t x H)
 {l}{z}{vy v}{p:Pr} (hx:l.ev x=ae (.c<|.X z)) (hy:l.ev H=ae vy) (A:SJ tt l t z vy=ae (v,p)) (hp:p) (new:G):
  iJ P n N i (cH l x++cH l H++fK l [z]) [(.s d,ae<|.v v)] new:=by
 refine tX ho hg hd dn _ v new ?_
 intro F w U g W a f u
 have I:a.eval x=g.γ z:=dJ f l x _ hx<|λK cq=>u K eK
 have J:=dJ f l H vy hy<|λK cq=>u K eK
 have L:=sH f l x _ hx<|λK cq=>u K eK
 unfold SJ at A
 split at A
 .rename_i E T xs Y k hl;split at A
  .rename_i M;simp only[ar,bQ]at A;obtain⟨rfl,rfl⟩:=A;have O:U (.m z)=ae (.b<|.vec E T xs):=u (.m z,.b<|.vec E T xs) rB;let ⟨e,i',R,hi,hs⟩:=ES cC M;have q:a.eval H= .int Y k:=J;rcases f.cE z _ O with⟨_,h0⟩|⟨b,S,vs,r,_⟩
   .subst h0;simp[Pr.h]at hp;omega
   .refine⟨λj hj=>L j SK,.pointer (ae ⟨b,ah k*T.n,none⟩),?_,b,Z xs,S,r,ax⟩;have B:execOp a.eval Q=(do pure (.value<|<-Ce t (a.eval x) (a.eval H))):=w8;rw[B,I,r,q];have D:(0<=k/\k<(Z xs:V)):=hp;simp only[Ce,asIntOf,dq,run_underlying R,dM];simp[D,run_sizeOf hi,hs,mW]
  .simp at A
 .simp at A
def SL(tt:TT)(f:St)(t d a b:G)(i:AV):aw (AV×Pr):=match iA d f.mem,i with
 |some (.vec _ T _),.c (.I _ k)=>if T.n=1/\yi tt t 1=af then ae (.c<|.Y d 1 (a+ah k) 0,.and (.le 0 k)<|.lt k b)else none
 |_,_=>none
def alg(cC:cw P tt=af){ops}{i}{aF:a8}{d:G}(ho:ops[i]? =ae aF)(hg:aF.guard=none)(hd:aF.dst=ae d){n}(dn:d<n){t}{x Q}(bW:aF.op= .indexAddr t x Q)
 {u}{id B D}{vy v}{p:Pr} (hx:u.ev x=ae (.c<|.W id B D)) (hy:u.ev Q=ae vy) (H:SL tt u t id B D vy=ae (v,p)) (hp:p) (new:G):
  iJ P n ops i (cH u x++cH u Q++fK u [id]) [(.s d,ae<|.v v)] new:=by
 refine tX ho hg hd dn _ v new ?_
 intro F q R g W a f z
 let ⟨b0,c0,l,r,_⟩:=dJ f u x _ hx<|λX cq=>z X eK
 have w:=dJ f u Q vy hy<|λX cq=>z X eK
 have I:=sH f u x _ hx<|λX cq=>z X eK
 unfold SL at H
 split at H
 .rename_i E T xs S k hl;split at H
  .rename_i J;simp only[ar,bQ]at H;obtain⟨rfl,rfl⟩:=H;have L:R (.m id)=ae (.b<|.vec E T xs):=z (.m id,.b<|.vec E T xs) rB;let ⟨e,i',M,U,Y⟩:=ES cC J.2;have h:a.eval Q= .int S k:=w;rcases f.cE id _ L with⟨A,_⟩|⟨b,O,vs,A,_⟩
   .rw[A]at l;simp[cF]at l
   .rw[A]at l;simp only[cF,ar]at l;subst l;refine⟨λj hj=>I j SK,.pointer (ae ⟨b,B+ah k,none⟩),?_,b,Z xs,O,A,ax⟩;have K:execOp a.eval aF=(do pure (.value<|<-Ce t (a.eval x) (a.eval Q))):=w8;rw[K,r,h];have N:(0<=k/\k<(D:V)):=hp;simp only[Ce,asIntOf,dq,run_underlying M,dM];simp[N,run_sizeOf U,Y,mW]
  .simp at H
 .simp at H
def SM(tt:TT)(a:St)(t b:G):aw AV:=match iA b a.mem,iA t tt with
 |some (.vec _ _ xs),ae d=>(match d.kind with| .sl _=>ae (.c<|.I .i64<|Z xs)|_=>none)
 |_,_=>none
def alh(N:cw P tt=af){u}{i}{H:a8}{d:G}(ho:u[i]? =ae H)(hg:H.guard=none)(hd:H.dst=ae d){n}(Q:d<n){t}{x}(bW:H.op= .call ⟨.builtin .len,#[x],#[t]⟩)
 {z}{k}{v}(hx:z.ev x=ae (.c<|.X k)) (l:SM tt z t k=ae v) (A:G):
  iJ P n u i (cH z x++fK z [k]) [(.s d,ae<|.v v)] A:=by
 refine tX ho hg hd Q _ v A ?_
 intro F K q g W a f B
 have D:a.eval x=g.γ k:=dJ f z x _ hx<|λr cq=>B r eK
 unfold SM at l
 split at l
 .rename_i E T xs M hl w;split at l
  .rename_i e y;simp only[ar]at l;subst l;have h:q (.m k)=ae (.b<|.vec E T xs):=B (.m k,.b<|.vec E T xs) rB;have j:=(fb N w).kind;rw[y]at j;refine⟨sI,.int .i64<|Z xs,?_,J⟩;rw[execOp,bW];rcases f.cE k _ h with⟨p,I⟩|⟨b,L,vs,p,_⟩
   .subst I;simp[resolve,invoke,builtin,ZD,D,p,run_underlying j,goInt,mr,pure]
   .simp[resolve,invoke,builtin,ZD,D,p,run_underlying j,goInt,mr,pure]
  .simp at l
 .simp at l
def It(T:ET):E C->aw T.den:=match T with
 | .int k=>λa=>(match a with|[.I d n]=>if k=d then ae n else none|_=>none)
 | .bool=>λa=>(match a with|[.B b]=>ae b|_=>none)
 |_=>λ_=>none
def ali{T}{b}{x:T.den}(a:It T b=ae x):b=av T x:=by
 cases T with
 |int k=>
  simp only[It]at a
  split at a
  .split at a
   .rename_i e;subst e;simp at a;subst a;rfl
   .simp at a
  .simp at a
 |bool=>
  simp only[It]at a
  split at a
  .simp at a;subst a;rfl
  .simp at a
 |_=>simp[It]at a
def E0:∀(T:ET)(x:T.den),∀b∈av T x,lz b=af
 | .int _,_,b,a=>by simp[av]at a;subst a;rfl
 | .bool,_,b,a=>by simp[av]at a;subst a;rfl
 | .z,_,b,a=>by simp[av]at a;rcases a with rfl|rfl<;>rfl
 | .q,_,b,a=>by simp[av]at a;rcases a with rfl|rfl|rfl|rfl<;>rfl
 | .sl _,_,b,a=>by simp[av]at a;subst a;rfl
 | .pr A B,x,b,a=>by
  simp only[av,bg]at a;rcases a with a|a
  .exact E0 A _ b a
  .exact E0 B _ b a
def alj{g:Type}(vs d:E g) n i a(p:Z d=n)(l:(i+1)*n<=Z vs)(m:i≠a):c n ((cK vs d<|i*n).drop<|a*n)=(az (a*n) vs).take n:=by
 have s:(i+1)*n=i*n+n:=Iu;apply List.ext_getElem?;intro k;rw[Iv,Iv];split
 .rename_i t;rw[vn,vn];unfold cK;rcases rq a i with b|b
  .have f:(a+1)*n<=i*n:=eB _ b;rw[fZ,hY]at f;rw[mX,E3 b6,Iw Y]
  .have f:(i+1)*n<=a*n:=eB _ Y;rw[E4 b6,vn];simp only[iL,hZ];congr 1;omega
 .rfl
def alk{b:Type}(vs a:E b) n i(f:Z a=n)(d:(i+1)*n<=Z vs):c n ((cK vs a<|i*n).drop<|i*n)=a:=by have g:(i+1)*n=i*n+n:=Iu;unfold cK;have:(c (i*n) vs).length=i*n:=b6;rw[mX,Cj Y,vo Y,tZ,yo Y,jy Y]
def ZO(cC:cw P tt=af){ops}{i}{aF}(ho:ops[i]? =ae aF)(hg:aF.guard=none)(hd:aF.dst=none){n}{t:eh}{x cN}(bW:aF.op= .store t x cN)
 {A}{u m k}{bp}{T:ET} {xs:E T.den} {vy:AV} (hx:A.ev x=ae (.c<|.Y u m k 0)) (hy:A.ev cN=ae vy) (hl:iA u A.mem=ae (.vec bp T xs)) (hm:T.n=m) {ag:Bool} (E5:pJ tt t=ae (m,ag)) {B:T.den} (SN:lP vy=ae (av T B)) (hk:k<Z xs) (new:G):
  iJ P n ops i (cH A x++cH A cN++fK A [u]) [(.m u,ae<|.b<|.vec bp T<|xs.set k B)] new:=by
 intro F ly Q M σ g W a K X d D hK
 have O:=dJ d A x _ hx<|λR cq=>D R eK
 have S:=dJ d A cN vy hy<|λR cq=>D R eK
 have p:σ (.m u)=ae (.b<|.vec bp T xs):=D (.m u,.b<|.vec bp T xs) rB
 let ⟨b',l',c',s,hv⟩:=O
 rcases d.cE u _ p with⟨_,h0⟩|⟨b,U,vs,N,hh,h,V,q,hr,hN,hz⟩
 .subst h0;simp at hk
 rw[N]at s
 simp only[ZG,ar,Addr.mk.injEq,and_true]at s
 obtain⟨rfl,_,_⟩:=s
 let ⟨ws,Cn,r⟩:=My SN S<|E0 T B
 have w:de g.H T B ws:=B7 T B ws r
 have I:Z ws=T.n:=de.length T _ _ w
 let ⟨_,⟨ti,oP,ZM⟩,_⟩:=Im cC E5
 have C:(k+1)*T.n<=Z vs:=by rw[h];exact eB _ Y
 have ZP:(k+1)*T.n=k*T.n+T.n:=Iu
 subst hm
 have L:(SI t (a.eval x)<|a.eval cN).run P W= .ok () (ji W b (cK vs ws<|k*T.n) bp):=by rw[hv];simp only[SI,Ig,storeVar,dq,Cf,dM,run_sizeOf oP,Cn,jZ];have:¬(ws.toArray.size≠ti.size):=b6;simp only[this,bV];have:=Al (P:=P) b ws W vs (k*T.n) 0 hh Y<|r.one<|E0 T B;simp only[jZ]at this;simpa using this
 unfold wpOp
 simp only[ho,gZ,hg,cr]
 refine .inl ?_
 unfold pG
 have hex:(execOp a.eval aF).run P W= .ok .skip (ji W b (cK vs ws<|k*T.n) bp):=by rw[execOp,bW];simp[L,mr,pure]
 rw[hex]
 simp only[oL,hd,iq]
 have hb:b<W.heap.size:=(fJ.1 hh).1
 refine hK g _ a<|d.step (chg:=λj=>j=u) (g':=g) ⟨⟨cD.refl _,λ_ _=>rfl⟩,λ_ _ _=>rfl,Am d.sub hz,An,?_,J,J,J⟩ _ new X J d.defers (λ_ _=>rfl) ?_ ?_ ?_ ?_ ?_
 .intro k' uc ew;have:b≠k':=λB=>ew u J (by rw[N,B];rfl)
  exact ym this
 .intro j l;subst l;exact⟨yp,_,p⟩
 .intro t' v' ht;simp[aE]at ht
 .intro j bk l;simp only[aE]at l;split at l
  .rename_i v;simp only[Key.m.injEq]at v;subst v;simp only[ar,Info.b.injEq]at l;subst l;refine⟨.inr ⟨b,U,cK vs ws<|k*T.n,by simpa using N,EW hb,?_,by simpa using V,by simpa using q,λj l=>?_,hN,hz⟩,.inl ⟨d.dI _ _ p,_,p⟩⟩
   .rw[yn _ _ _ Y];exact h
   .simp only[oQ]at l;rw[List.getElem_set];split
    .rename_i v;subst v;rw[alk vs ws T.n k I C];exact w
    .rename_i v;rw[alj vs ws T.n k j I C v];exact hr j l
  .simp at l
 .intro k' z f;simp only[aE]at f;split at f
  .simp only[ar]at f;subst f;intro j l;simp[Info.al,aC.al]at l
  .simp at f
 .intro j z f;simp only[aE]at f;split at f
  .rename_i v;simp only[Key.m.injEq]at v;subst v;exact .inl<|d.dI _ _ p
  .simp at f
end
end Go.El
