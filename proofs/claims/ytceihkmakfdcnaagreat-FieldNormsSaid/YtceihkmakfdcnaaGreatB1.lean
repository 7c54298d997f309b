/- The engine, part 1: data, abstract values, what it means that they describe memory. Own work; no condition. -/
import Derived.WalkKit
import Derived.OrdersIn
import Derived.Test.YtceihkmakfdcnaaGreatB0
set_option linter.all false
set_option maxHeartbeats 16000000
set_option maxRecDepth 100000
open Array renaming ext_getElem?->aiq,getElem?_setIfInBounds->air
open BitVec renaming ofInt->ji
open Bool renaming false->ah,true->ae
open Go renaming Value->aR,IntKind->om,TypeId->dH,World->cx,Oper->aX,Program->bI
open Go.Act renaming put->gT
open Go.Builtin renaming len_->Xq
open Go.Instr renaming fieldAt->Xm,sureAddr->GF,extract->Xo,indexAt->AS,sliceBound->QB,sliceBounds->wZ,loadAt->Xu,storeAt->QG
open Go.Op renaming intArith->Qv
open Go.Oper renaming wp->oo,upon->ny
open Go.Region renaming binds->tv,ready->Xe,wanted->gx
open Go.Result renaming andThen->dx
open Go.Sem renaming run_bind->db,run_pure->AT,run->ll
open Go.Value.slice renaming injEq->Xt
open Go.World renaming cell?->GO,block_lt_of_cell?->AZ
open Int renaming toNat->af
open List renaming length->Z,filter_cons_of_pos->ahX,filter_cons_of_neg->ahY,range->cw,drop->ay,take->M
open Nat renaming one_pos->Gu
open Option renaming some->ad
open _root_ renaming Nat->V,Option->au,Int->Y,List->E
namespace Go.El
open Go Go.RowKit
abbrev FH:=V->V->au aR
inductive ET where
 |int (k:om)|bool|z|q|sl (T:ET)|pr (a B:ET)
@[reducible] def ET.den : ET -> Type
 | .int _=>Y
 | .bool=>Bool
 | .z=>Y
 | .q=>Rat
 | .sl T=>E T.den
 | .pr a B=>a.den×B.den
@[reducible] def ET.dG : (T : ET) -> T.den
 | .int _=>(0:Y)
 | .bool=>ah
 | .z=>(0:Y)
 | .q=>(0:Rat)
 | .sl _=>[]
 | .pr a B=>(a.dG,B.dG)
@[reducible] def ET.n : ET -> V
 | .int _=>1
 | .bool=>1
 | .z=>2
 | .q=>4
 | .sl _=>1
 | .pr a B=>a.n+B.n
def ET.AH:∀T:ET,0<T.n
 | .int _=>Gu
 | .bool=>Gu
 | .z=>Nat.two_pos
 | .q=>by decide
 | .sl _=>Gu
 | .pr a B=>by have:=a.AH;simp only[ET.n];omega
def yA:V->V->E Y
 |0,_=>[]
 |f+1,n=>if n=0 then[]else((n%4294967296:V):Y)::yA f (n/4294967296)
def ahT(n:V):E Y:=yA n n
def cj(a:Y):Bool:=decide<|a<0
def er(a:Y):E Y:=ahT<|Int.natAbs a
def lK{k:Type}(l:k->E aR->Prop)(n:V)(H:FH)(xs:E k)(v:aR):Prop:=
 ∃a d,v= .slice a (Z xs) d/\Z xs<=d/\Z xs*n<=140737488355328/\
  (xs=[]\/∃b f,a=ad ⟨b,f,none⟩/\∀i(h:i<Z xs),∃g,Z g=n/\l xs[i] g/\
   ∀j(m:j<Z g),H b (f+i*n+j)=ad g[j])
def Da(H:FH)(a:E Y)(v:aR):Prop:=lK (λn b=>b=[.int .u32 n]) 1 H a v
def q6(H:FH)(a:Y)(vs:E aR):Prop:=∃m,vs=[.bool (cj a),m]/\Da H (er a) m
def c6(H:FH):(T:ET)->T.den->E aR->Prop
 | .int k,n,vs=>vs=[.int k n]
 | .bool,b,vs=>vs=[.bool b]
 | .z,f,vs=>q6 H f vs
 | .q,d,vs=>∃a b,vs=a++b/\q6 H d.num a/\q6 H (d.den:Y) b
 | .sl T,xs,vs=>∃v,vs=[v]/\lK (c6 H T) T.n H xs v
 | .pr g B,x,vs=>∃a b,vs=a++b/\c6 H g x.1 a/\c6 H B x.2 b
def cE(H a:FH):Prop:=∀b o v,H b o=ad v->a b o=ad v
def cE.refl H:cE H H:=λ_ _ _ h=>h
def cE.trans{a d f}(h:cE a d)(k:cE d f):cE a f:=λb o v e=>k b o v<|h b o v e
def lK.mono{o:Type}{g k:o->E aR->Prop}{n}{H m}{xs}{v}(h:lK g n H xs v)
  (p:cE H m) (s:∀x d,g x d->k x d):lK k n m xs v:=by
 let ⟨a,cap,e,t,h2,f⟩:=h
 refine⟨a,cap,e,t,h2,?_⟩
 rcases f with f|⟨b,off,u,hc⟩
 .exact .inl f
 .refine .inr ⟨b,off,u,λi w=>?_⟩;let ⟨d,l,r,c⟩:=hc i w;exact⟨d,l,s _ _ r,λj B=>p _ _ _<|c j B⟩
def Da.mono{H a:FH}{b v}(h:Da H b v)(d:cE H a):Da a b v:=lK.mono h d λ_ _ h=>h
def q6.mono{H a:FH}{b vs}(h:q6 H b vs)(d:cE H a):q6 a b vs:=by let ⟨m,e,h⟩:=h;exact⟨m,e,h.mono d⟩
def c6.mono{H i:FH}(d:cE H i):∀(T:ET)(x:T.den)(vs:E aR),c6 H T x vs->c6 i T x vs
 | .int _,_,_,h=>h
 | .bool,_,_,h=>h
 | .z,_,_,h=>q6.mono h d
 | .q,_,_,h=>by let ⟨a,b,f,g,h2⟩:=h;exact⟨a,b,f,g.mono d,h2.mono d⟩
 | .sl T,_,_,h=>by let ⟨v,f,g⟩:=h;exact⟨v,f,g.mono d<|λx k=>c6.mono d T x k⟩
 | .pr A B,_,_,h=>by let ⟨a,b,f,g,h2⟩:=h;exact⟨a,b,f,c6.mono d A _ _ g,c6.mono d B _ _ h2⟩
def q6.length{H a vs}(h:q6 H a vs):Z vs=2:=by obtain⟨m,rfl,_⟩:=h;rfl
def c6.length{H:FH}:∀(T:ET)(x:T.den)(vs:E aR),c6 H T x vs->Z vs=T.n
 | .int _,_,_,h=>by simp only[c6]at h;subst h;rfl
 | .bool,_,_,h=>by simp only[c6]at h;subst h;rfl
 | .z,_,_,h=>q6.length h
 | .q,_,_,h=>by obtain⟨a,b,rfl,d,f⟩:=h;simp[d.length,f.length]
 | .sl T,_,_,h=>by obtain⟨v,rfl,_⟩:=h;rfl
 | .pr A B,_,_,h=>by obtain⟨a,b,rfl,d,f⟩:=h;simp[c6.length A _ _ d,c6.length B _ _ f]
def sr(b:Bool)(vs:E aR):aR:=match b with
 |true=> .agg vs.toArray
 |false=>vs.headD undef
structure MP where
 p:FH->aR->Prop
 mono:∀H a v,cE H a->p H v->p a v
inductive C where
 |any
 |B (b:Bool)
 |I (k:om) (n:Int)
 |V (v:aR)
 |S (T:ET) (xs:List T.den)
 |P (d a:Nat)
 |X (d:Nat)
 |Y (d:Nat) (n i a:Nat)
 |E (T:ET) (x:T.den) (a:Nat)
 |M (m:MP)
 |L (d a len:Nat) (cap:au Nat)
 |W (d a len:Nat)
inductive AV where
 |c (x:C)
 |a (b:E C)
 |t (vs:E (Bool×E C))
def av:(T:ET)->T.den->E C
 | .int k,n=>[.I k n]
 | .bool,b=>[.B b]
 | .z,d=>[.B (cj d),.S (.int .u32)<|er d]
 | .q,a=>[.B (cj a.num),.S (.int .u32)<|er a.num,.B<|cj (a.den:Y),.S (.int .u32)<|er (a.den:Y)]
 | .sl T,xs=>[.S T xs]
 | .pr f B,x=>av f x.1++av B x.2
structure Gh where
 H:FH
 γ:V->aR
def cy:aR->au V
 | .pointer (ad a)=>ad a.block
 | .slice (ad a) _ _=>ad a.block
 | .map (ad b)=>ad b
 |_=>none
def cN(g:Gh):C->aR->Prop
 | .any,_=>True
 | .B b,v=>v= .bool b
 | .I k n,v=>v= .int k n
 | .V u,v=>v=u
 | .S T xs,v=>lK (c6 g.H T) T.n g.H xs v
 | .P id off,v=>∃b,cy (g.γ id)=ad b/\v= .pointer (ad ⟨b,off,none⟩)
 | .X id,v=>v=g.γ id
 | .Y id n i off,v=>∃b a f,g.γ id= .slice (ad ⟨b,0,none⟩) a f/\v= .pointer (ad ⟨b,i*n+off,none⟩)
 | .E T x off,v=>∃b o h,v= .pointer (ad ⟨b,o+off,none⟩)/\c6 g.H T x h/\∀l(s:l<Z h),g.H b (o+l)=ad h[l]
 | .M m,v=>m.p g.H v
 | .L id off a (ad d),v=>∃b,cy (g.γ id)=ad b/\v= .slice (ad ⟨b,off,none⟩) a d
 | .L id off a none,v=>off=0/\∃b d,g.γ id= .slice (ad ⟨b,0,none⟩) 0 d/\v= .slice (ad ⟨b,0,none⟩) a d/\a<=d
 | .W id off a,v=>∃b d,cy (g.γ id)=ad b/\v= .slice (ad ⟨b,off,none⟩) a d/\a<=d
def aY(g:Gh):E C->E aR->Prop
 |[],vs=>vs=[]
 |b::cs,vs=>∃v a,vs=v::a/\cN g b v/\aY g cs a
def AI(g:Gh):Bool×E C->aR->Prop
 | (ae,cs),v=>∃vs,v= .agg vs.toArray/\aY g cs vs
 | (ah,[a]),v=>cN g a v
 | (ah,_),_=>False
def du(g:Gh):E (Bool×E C)->E aR->Prop
 |[],vs=>vs=[]
 |s::b,vs=>∃v a,vs=v::a/\AI g s v/\du g b a
def a8(g:Gh):AV->aR->Prop
 | .c x,v=>cN g x v
 | .a cs,v=>∃vs,v= .agg vs.toArray/\aY g cs vs
 | .t b,v=>∃vs,v= .tuple vs.toArray/\du g b vs
def aY.length{g:Gh}:∀{a:E C}{vs:E aR},aY g a vs->Z vs=Z a
 |[],_,h=>by simp only[aY]at h;subst h;rfl
 |_::a,_,h=>by obtain⟨v,b,rfl,_,h⟩:=h;simp[aY.length h]
def aY.append{g:Gh}:∀{a b:E C}{vs d:E aR},aY g a vs->aY g b d->aY g (a++b) (vs++d)
 |[],_,_,_,h,k=>by simp only[aY]at h;subst h;exact k
 |_::a,_,_,_,h,k=>by obtain⟨v,l,rfl,f,i⟩:=h;exact⟨v,_,J,f,aY.append i k⟩
def ahU{g:Gh}{a v}(h:Da g.H a v):cN g (.S (.int .u32) a) v:=h
def Kt{g:Gh}{a vs}(h:q6 g.H a vs):aY g (av .z a) vs:=by obtain⟨m,rfl,h⟩:=h;exact⟨_,_,J,J,_,_,J,ahU h,J⟩
def AJ{g:Gh}:∀(T:ET)(x:T.den)(vs:E aR),c6 g.H T x vs->aY g (av T x) vs
 | .int _,_,_,h=>by simp only[c6]at h;subst h;exact⟨_,_,J,J,J⟩
 | .bool,_,_,h=>by simp only[c6]at h;subst h;exact⟨_,_,J,J,J⟩
 | .z,_,_,h=>Kt h
 | .q,i,_,h=>by obtain⟨a,b,rfl,d,f⟩:=h;exact aY.append (Kt d)<|Kt f
 | .sl T,_,_,h=>by obtain⟨v,rfl,h⟩:=h;exact⟨_,_,J,h,J⟩
 | .pr A B,_,_,h=>by obtain⟨a,b,rfl,d,f⟩:=h;exact aY.append (AJ A _ _ d)<|AJ B _ _ f
def Gv{g:Gh}:∀{cs ds:E C}{vs:E aR},aY g (cs++ds) vs->∃a b,vs=a++b/\aY g cs a/\aY g ds b
 |[],_,vs,h=>⟨[],vs,J,J,h⟩
 |_::cs,_,_,h=>by obtain⟨v,l,rfl,d,f⟩:=h;obtain⟨a,b,rfl,i,k⟩:=Gv f;exact⟨v::a,b,J,⟨v,a,J,d,i⟩,k⟩
def Qg{g:Gh}{a vs}(h:aY g (av .z a) vs):q6 g.H a vs:=by obtain⟨v,r,rfl,b,m,i,rfl,f,d⟩:=h;simp only[aY]at d;simp only[cN]at b;subst d b;exact⟨m,J,f⟩
def AK{g:Gh}:∀(T:ET)(x:T.den)(vs:E aR),aY g (av T x) vs->c6 g.H T x vs
 | .int _,_,_,h=>by obtain⟨v,i,rfl,f,d⟩:=h;simp only[aY]at d;simp only[cN]at f;subst f d;rfl
 | .bool,_,_,h=>by obtain⟨v,i,rfl,f,d⟩:=h;simp only[aY]at d;simp only[cN]at f;subst f d;rfl
 | .z,_,_,h=>Qg h
 | .q,i,vs,h=>by obtain⟨a,b,rfl,f,d⟩:=Gv (cs:=av .z i.num) (ds:=av .z (i.den:Y)) h;exact⟨a,b,J,Qg f,Qg d⟩
 | .sl T,_,_,h=>by obtain⟨v,i,rfl,f,d⟩:=h;simp only[aY]at d;subst d;exact⟨v,J,f⟩
 | .pr A B,x,vs,h=>by obtain⟨a,b,rfl,f,d⟩:=Gv (cs:=av A x.1) (ds:=av B x.2) h;exact⟨a,b,J,AK A _ _ f,AK B _ _ d⟩
def C.ak:C->List Nat
 | .P id _=>[id]
 | .X id=>[id]
 | .Y id _ _ _=>[id]
 | .L id _ _ _=>[id]
 | .W id _ _=>[id]
 |_=>[]
def cp:E C->E V
 |[]=>[]
 |a::cs=>a.ak++cp cs
def eG:E (Bool×E C)->E V
 |[]=>[]
 |s::a=>cp s.2++eG a
def AV.ak:AV->E V
 | .c x=>x.ak
 | .a cs=>cp cs
 | .t b=>eG b
structure fL(a:V->Prop)(g d:Gh):Prop where
 H:cE g.H d.H
 γ:∀b,a b->d.γ b=g.γ b
def cN.mono{known:V->Prop}{g g':Gh}(d:fL known g g'):∀{k:C}{v:aR},(∀a∈k.ak,known a)->cN g k v->cN g' k v
 | .any,_,_,_=>trivial
 | .B _,_,_,h=>h
 | .I _ _,_,_,h=>h
 | .V _,_,_,h=>h
 | .S T _,_,_,h=>lK.mono h d.H<|λx n=>c6.mono d.H T x n
 | .P a _,_,f,h=>by let ⟨b,i,h⟩:=h;exact⟨b,by rw[d.γ a (f a Db)];exact i,h⟩
 | .X a,_,f,h=>by simp only[cN]at h⊢;rw[d.γ a (f a Db)];exact h
 | .Y a _ _ _,_,f,h=>by let ⟨b,l,k,i,h⟩:=h;exact⟨b,l,k,by rw[d.γ a (f a Db)];exact i,h⟩
 | .E T _ _,_,_,h=>by let ⟨b,o,n,i,p,h2⟩:=h;exact⟨b,o,n,i,c6.mono d.H T _ _ p,λj s=>d.H _ _ _<|h2 j s⟩
 | .M m,_,_,h=>m.mono _ _ _ d.H h
 | .L a _ _ (ad _),_,f,h=>by let ⟨b,i,h⟩:=h;exact⟨b,by rw[d.γ a (f a Db)];exact i,h⟩
 | .L a _ _ none,_,f,h=>by let ⟨t,b,k,i,h⟩:=h;exact⟨t,b,k,by rw[d.γ a (f a Db)];exact i,h⟩
 | .W a _ _,_,f,h=>by let ⟨b,k,i,h⟩:=h;exact⟨b,k,by rw[d.γ a (f a Db)];exact i,h⟩
def aY.mono{known:V->Prop}{g g':Gh}(f:fL known g g'):∀{d:E C}{vs:E aR},(∀b∈cp d,known b)->aY g d vs->aY g' d vs
 |[],_,_,h=>h
 |_::_,_,i,h=>by let ⟨v,k,l,m,h2⟩:=h;exact⟨v,k,l,cN.mono f (λb a=>i b<|by simp[cp,a]) m,aY.mono f (λb a=>i b<|by simp[cp,a]) h2⟩
def AI.mono{known:V->Prop}{g g':Gh}(f:fL known g g'):∀{s:Bool×E C}{v:aR},(∀a∈cp s.2,known a)->AI g s v->AI g' s v
 | (ae,_),_,b,h=>by let ⟨vs,i,h⟩:=h;exact⟨vs,i,aY.mono f b h⟩
 | (ah,[c]),_,b,h=>cN.mono f (λa d=>b a<|by simp[cp,d]) h
 | (ah,[]),_,_,h=>h
 | (ah,_::_::_),_,_,h=>h
def du.mono{known:V->Prop}{g g':Gh}(f:fL known g g'):∀{d:E (Bool×E C)}{vs:E aR},(∀b∈eG d,known b)->du g d vs->du g' d vs
 |[],_,_,h=>h
 |_::_,_,i,h=>by let ⟨v,k,l,m,h2⟩:=h;exact⟨v,k,l,AI.mono f (λb a=>i b<|by simp[eG,a]) m,du.mono f (λb a=>i b<|by simp[eG,a]) h2⟩
def a8.mono{known:V->Prop}{g g':Gh}(d:fL known g g'):∀{x:AV}{v:aR},(∀i∈x.ak,known i)->a8 g x v->a8 g' x v
 | .c _,_,b,h=>cN.mono d b h
 | .a _,_,b,h=>by let ⟨vs,f,h⟩:=h;exact⟨vs,f,aY.mono d b h⟩
 | .t _,_,b,h=>by let ⟨vs,f,h⟩:=h;exact⟨vs,f,du.mono d b h⟩
section
variable{κ ι:Type}[DecidableEq κ]
def aC(u:E (κ×au ι))(k:κ):au (au ι):=
 match u with
 |[]=>none
 | (a,x)::r=>if a=k then ad x else aC r k
def bs(a:κ->au ι)(u:E (κ×au ι)):κ->au ι:=λk=>
 match aC u k with
 |some x=>x
 |none=>a k
def fold(b:V->E (κ×au ι))(a:κ->au ι)(s:E V):κ->au ι:=s.foldl (λa i=>bs a<|b i) a
def oL(u:E (κ×au ι))(k:κ):Bool:=(aC u k).isSome
def ahV{a:κ->au ι}{u:E (κ×au ι)}{k:κ}(h:oL u k=ah):bs a u k=a k:=by
 unfold oL at h;unfold bs;cases b:aC u k with
 |none=>rfl
 |some x=>rw[b]at h;simp at h
def ahW{b a:κ->au ι}{u:E (κ×au ι)}{k:κ}(h:b k=a k):bs b u k=bs a u k:=by unfold bs;rw[h]
def W9(b:V->E (κ×au ι))(k:κ):∀(s:E V){d a:κ->au ι},d k=a k->fold b d s k=fold b a s k
 |[],_,_,h=>h
 |i::s,_,_,h=>W9 b k s<|ahW h
def fold_filter(a:V->E (κ×au ι))(k:κ):∀(s:E V)(b:κ->au ι),fold a b s k=fold a b (s.filter λi=>oL (a i) k) k
 |[],_=>rfl
 |i::s,b=>by
  cases h:oL (a i) k with
  |true=>
   rw[ahX eh]
   exact fold_filter a k s _
  |false=>
   rw[ahY (by simp[h])]
   have d:=fold_filter a k s b
   rw[<-d]
   exact W9 a k s<|ahV h
def Qh(a:V->E (κ×au ι))(b:κ->au ι)(s:E V)(i:V):fold a b (s++[i])=bs (fold a b s) (a i):=by simp[fold]
def Qi:∀{l m:E V},l.Pairwise (·<·)->m.Pairwise (·<·)->(∀x,x∈l↔x∈m)->l=m
 |[],[],_,_,_=>rfl
 |[],i::m,_,_,h=>absurd ((h i).2<|Dc) ax
 |x::l,[],_,_,h=>absurd ((h x).1<|Dc) ax
 |x::l,i::m,hl,hm,h=>by
  have d:=jP.1 hl;have f:=jP.1 hm;have n:x=i:=by
   have g:=(h x).1<|Dc;have o:=(h i).2<|Dc;rcases bZ.1 g with e|g
   .exact e
   .rcases bZ.1 o with e|o
    .exact e.symm
    .have a:=f.1 x g;have b:=d.1 i o;omega
  subst n;congr 1;refine Qi d.2 f.2<|λz=>?_;constructor
  .intro k;rcases bZ.1 ((h z).1<|lL _ k)with e|g
   .have:=d.1 z k;omega
   .exact g
  .intro k;rcases bZ.1 ((h z).2<|lL _ k)with e|g
   .have:=f.1 z k;omega
   .exact g
def ahZ(n:V):(cw n).Pairwise (·<·):=Ku
structure q7(n:V)(a:V->V->Prop)(s:E V):Prop where
 nodup:s.Nodup
 lt:∀i∈s,i<n
 closed:∀p i r,s=p++i::r->∀b,a b i->b∈p
def q7.nil(n:V)(a:V->V->Prop):q7 n a []:=⟨List.nodup_nil,ax,λp i r h=>by simp at h⟩
def q7.snoc{n:V}{f:V->V->Prop}{s:E V}(h:q7 n f s){i:V}(H:i<n)(w:i∉s)(B:∀g,f g i->g∈s):q7 n f (s++[i]):=by
 refine⟨?_,?_,?_⟩
 .rw[Qj];exact⟨h.nodup,ax,λa l b u=>by simp at u;subst u;exact λe=>w<|e▸l⟩
 .intro g d;rcases be.1 d with d|d
  .exact h.lt g d
  .simp at d;omega
 .intro p k r v g d;rcases List.eq_nil_or_concat r with rfl|⟨m,x,rfl⟩
  .have o:s=p/\i=k:=by have:=List.append_inj' (s₁:=s) (t₁:=[i]) (s₂:=p) (t₂:=[k]) v J;exact⟨this.1,by simpa using this.2⟩
   obtain⟨rfl,rfl⟩:=o;exact B g d
  .have o:s=p++k::m:=by
    have t:s++[i]=(p++k::m)++[x]:=by rw[v];simp
    exact(List.append_inj' t J).1
   exact h.closed p k m o g d
def q7.Xa{n:V}{b:V->V->Prop}{s:E V}(h:q7 n b s)(d:V->Bool)
  (u:∀i l,i<l->l<n->d i=ae->d l=ae->b i l):(s.filter d).Pairwise (·<·):=by
 have m:∀p r,s=p++r->(r.filter d).Pairwise (·<·):=by
  intro p r;induction r generalizing p with
  |nil=>intro _;simp
  |cons x r v=>
   intro f
   have g:=v (p++[x]) (by rw[f];simp)
   cases hx:d x with
   |false=>rw[ahY lj];exact g
   |true=>
    rw[ahX hx,jP]
    refine⟨λy w=>?_,g⟩
    let ⟨k,o⟩:=oM.1 w
    have t:x∈s:=by rw[f];simp
    have B:x≠y:=by intro e;have:=h.nodup;rw[f,Qj]at this;have:=this.2.1;rw[AL]at this;exact this.1<|e▸k
    rcases pN x y with a|C
    .exact a
    .have a:y<x:=by omega
     have H:=u y x a (h.lt x t) o hx;have K:=h.closed p x r f y H;have:=h.nodup;rw[f,Qj]at this;exact absurd J<|this.2.2 y K y<|lL _ k
 exact m [] s J
def Xb(n:V)(a:V->Bool):((cw n).filter a).Pairwise (·<·):=(ahZ n).filter _
def q7.read{n:V}{d:V->V->Prop}{s:E V}(h:q7 n d s)(f:V->E (κ×au ι))(v:κ->au ι)(k:κ)(i:V)(W:i<n)(w:i∉s)
  (H:∀B,d B i->B∈s)
  (L:∀a b,a<b->b<n->oL (f a) k=ae->oL (f b) k=ae->d a b)
  (P:∀a,a<i->oL (f a) k=ae->d a i) (Q:∀b,i<b->b<n->oL (f b) k=ae->d i b):
  fold f v s k=fold f v (cw i) k:=by
 rw[fold_filter f k s,fold_filter f k<|cw i]
 congr 1
 refine Qi (h.Xa _<|λa b m o K T=>L a b m o K T) (Xb i _)<|λx=>?_
 rw[oM,oM,pO]
 constructor
 .rintro⟨g,l⟩;refine⟨?_,l⟩;rcases Qk x i with t|he|u
  .exact t
  .exact absurd g<|he▸w
  .have o:=Q x u (h.lt x g) l;let ⟨p,r,C⟩:=Ql g;have:=h.closed p x r C i o;exact absurd (by rw[C];exact eH _ this) w
 .rintro⟨g,l⟩;exact⟨H x<|P x g l,l⟩
def q7.all{n:V}{f:V->V->Prop}{s:E V}(h:q7 n f s)(d:V->E (κ×au ι))(o:κ->au ι)(g:∀i,i<n->i∈s)
  (p:∀k a b,a<b->b<n->oL (d a) k=ae->oL (d b) k=ae->f a b):fold d o s=fold d o (cw n):=by
 funext k
 rw[fold_filter d k s,fold_filter d k<|cw n]
 congr 1
 refine Qi (h.Xa _<|λa b l t u v=>p k a b l t u v) (Xb n _)<|λx=>?_
 rw[oM,oM,pO]
 exact⟨λ⟨m,q⟩=>⟨h.lt x m,q⟩,λ⟨m,q⟩=>⟨g x m,q⟩⟩
end
inductive aD where
 |box (E:dH) (sz:V) (b:List C)
 |vec (E:dH) (T:ET) (xs:List T.den)
 |dI (f:FuncId) (first caps:List (Bool×List C))
 |fz (E:dH) (b:List C)
 |mp (d g:Bool) (xs:List (List C×List C))
 |it (m n:V) (a:List V)
inductive Key where
 |s (t:V)
 |m (a:V)
 deriving DecidableEq
inductive Info where
 |v (x:AV)
 |b (x:aD)
def mW:E (E C×E C)->E V
 |[]=>[]
 |x::xs=>cp x.1++(cp x.2++mW xs)
def aD.ak:aD->E V
 | .box _ _ cs=>cp cs
 | .vec _ _ _=>[]
 | .dI _ first caps=>eG first++eG caps
 | .fz _ cs=>cp cs
 | .mp _ _ xs=>mW xs
 | .it m _ _=>[m]
def Info.ak:Info->E V
 | .v x=>x.ak
 | .b x=>x.ak
abbrev Kn:=Key->au Info
def iU(g:Gh)(b d:Bool):V->E (E C×E C)->E MapEntry->Prop
 |_,[],es=>es=[]
 |n,x::xs,es=>∃a f,es=a::f/\a.born=n/\(∃h,a.key=sr b h/\aY g x.1 h)/\(∃vs,a.val=sr d vs/\aY g x.2 vs)/\iU g b d (n+1) xs f
def iU.mono{known:V->Prop}{g g':Gh}(d:fL known g g'){l m:Bool}:∀{n:V}{xs:E (E C×E C)}{o:E MapEntry},(∀b∈mW xs,known b)->iU g l m n xs o->iU g' l m n xs o
 |_,[],_,_,h=>h
 |_,_::_,_,f,⟨p,s,t,h2,⟨u,v,i⟩,⟨vs,w,k⟩,x⟩=>⟨p,s,t,h2,⟨u,v,aY.mono d (λb a=>f b<|by simp[mW,a]) i⟩,⟨vs,w,aY.mono d (λb a=>f b<|by simp[mW,a]) k⟩,iU.mono d (λb a=>f b<|by simp[mW,a]) x⟩
def Sub(H:FH)(w:cx):Prop:=∀b o v,H b o=ad v->w.cell? ⟨b,o,none⟩=ad v
def ic(l:V->Prop)(g:Gh)(W:cx)(d:V):aD->Prop
 | .box p sz cs=>∃b,∃vs rest:E aR,cy (g.γ d)=ad b/\W.heap[b]? =ad (.cells (vs++rest).toArray p (0,0))/\aY g cs vs/\l b/\(∀o,g.H b o=none)/\(sz≠0->∃s,g.γ d= .slice (ad ⟨b,0,none⟩) 0 s/\Z (vs++rest)=s*sz)
 | .vec p T xs=>(g.γ d= .slice none 0 0/\xs=[])\/∃b k,∃vs:E aR,g.γ d= .slice (ad ⟨b,0,none⟩) (Z xs) k/\W.heap[b]? =ad (.cells vs.toArray p (0,0))/\
   Z vs=k*T.n/\Z xs<=k/\Z xs*T.n<=140737488355328/\(∀i(h:i<Z xs),c6 g.H T xs[i] ((ay (i*T.n) vs).take T.n))/\l b/\∀o,g.H b o=none
 | .dI f first caps=>∃t u:E aR,g.γ d= .func (.func f) t.toArray u.toArray/\du g first t/\du g caps u
 | .fz p cs=>∃b,∃vs rest:E aR,cy (g.γ d)=ad b/\W.heap[b]? =ad (.cells (vs++rest).toArray p (0,0))/\aY g cs vs/\l b/\(∀o,g.H b o=(vs++rest)[o]?)
 | .mp w x xs=>∃a,∃v:Array MapEntry,g.γ d= .map (ad a)/\W.heap[a]? =ad (.map v<|Z xs)/\iU g w x 0 xs v.toList/\l a/\(∀o,g.H a o=none)
 | .it m n seen=>∃a b,g.γ d= .pointer (ad ⟨a,0,none⟩)/\g.γ m= .map (ad b)/\W.heap[a]? =ad (.mapIter (ad b) n seen.toArray n)/\l a/\(∀o,g.H a o=none)
structure dm where
 w0:cx
 H0:FH
 n:V
 own:V->Prop:=λ_=>False
 k0:V:=0
 γ0:V->aR:=λ_=>undef
 ds:E Deferred:=[]
 rd:au V:=none
def dm.N(a:dm)(b:V):Prop:=a.w0.heap.size<=b\/a.own b
structure Dd(own:V->Prop)(w a:cx):Prop where
 os:a.os=w.os
 tape:a.tape=w.tape
 output:a.output=w.output
 size:w.heap.size<=a.heap.size
 block:∀k,k<w.heap.size->¬own k->a.heap[k]? =w.heap[k]?
structure aJ(h:dm)(f:V->Prop)(l:Kn)(g:Gh)(W:cx)(a:Act):Prop where
 size:a.tmps.size=h.n
 defers:a.defers=h.ds
 dv:∀t v,l (.s t)=ad (.v v)->a8 g v (a.tmps.getD t undef)
 cA:∀d b,l (.m d)=ad (.b b)->ic h.N g W d b
 inj:∀d i b p k,l (.m d)=ad (.b b)->l (.m i)=ad (.b p)->cy (g.γ d)=ad k->cy (g.γ i)=ad k->d=i
 ak:∀k x,l k=ad x->∀d∈x.ak,f d
 dn:∀d x,l (.m d)=ad x->f d
 sub:Sub g.H W
 below:Dd h.own h.w0 W
 le:cE h.H0 g.H
 fresh:∀b o,b<h.w0.heap.size->¬h.own b->g.H b o=h.H0 b o
 fv:∀d,d<h.k0->f d/\g.γ d=h.γ0 d
structure Ext(a f:V->Prop)(g:Gh)(W:cx)(h:Gh)(d:cx):Prop where
 le:fL a g h
 fresh:∀b o,b<W.heap.size->h.H b o=g.H b o
 sub:Sub h.H d
 size:W.heap.size<=d.heap.size
 heap:∀k,k<W.heap.size->(∀i,f i->cy (g.γ i)≠ad k)->d.heap[k]? =W.heap[k]?
 os:d.os=W.os
 tape:d.tape=W.tape
 output:d.output=W.output
def ic.block{l:V->Prop}{g}{W}{o}{b}(h:ic l g W o b){k}(a:cy (g.γ o)=ad k):l k/\k<W.heap.size:=by
 cases b with
 |box E sz cs=>
  let ⟨b,vs,rest,e,d,_,i,_⟩:=h
  rw[e]at a
  simp only[aq]at a
  subst a
  exact⟨i,(fb.1 d).1⟩
 |vec E T xs=>
  rcases h with⟨e,_⟩|⟨b,p,vs,e,d,_,_,_,_,i,_⟩
  .rw[e]at a;simp[cy]at a
  .rw[e]at a;simp only[cy,aq]at a;subst a;exact⟨i,(fb.1 d).1⟩
 |dI f first caps=>
  let ⟨us,ws,e,_⟩:=h
  rw[e]at a;simp[cy]at a
 |fz E cs=>
  let ⟨b,vs,rest,e,d,_,i,_⟩:=h
  rw[e]at a
  simp only[aq]at a
  subst a
  exact⟨i,(fb.1 d).1⟩
 |mp s t xs=>
  let ⟨r,es,e,d,_,i,_⟩:=h
  rw[e]at a
  simp only[cy,aq]at a
  subst a
  exact⟨i,(fb.1 d).1⟩
 |it m n seen=>
  let ⟨r,b,e,_,d,i,_⟩:=h
  rw[e]at a
  simp only[cy,aq]at a
  subst a
  exact⟨i,(fb.1 d).1⟩
def ic.step{known chg:V->Prop}{P:V->Prop}{g g'}{W W'}{id}{b}(h:ic P g W id b)(hx:Ext known chg g W g' W')
  (a6:known id) (v:∀a∈b.ak,known a) (s:∀a k,chg a->cy (g.γ id)=ad k->cy (g.γ a)≠ad k):ic P g' W' id b:=by
 cases b with
 |box E sz cs=>
  let ⟨b,vs,rest,e,d,w,t,u,hc⟩:=h
  have l:b<W.heap.size:=(fb.1 d).1
  refine⟨b,vs,rest,AM,?_,aY.mono hx.le v w,t,λo=>by rw[hx.fresh b o l];exact u o,by rw[hx.le.γ id a6];exact hc⟩
  rw[hx.heap b l (λa p=>s a b p e)];exact d
 |vec E T xs=>
  rcases h with⟨e,x⟩|⟨b,B,vs,e,d,C,K,L,Q,t,u⟩
  .exact .inl ⟨AM,x⟩
  .have l:b<W.heap.size:=(fb.1 d).1;refine .inr ⟨b,B,vs,AM,?_,C,K,L,λi X=>c6.mono hx.le.H T _ _<|Q i X,t,λo=>by rw[hx.fresh b o l];exact u o⟩;rw[hx.heap b l (λa p=>s a b p tu)];exact d
 |dI f first caps=>
  let ⟨us,ws,e,C,K⟩:=h
  exact⟨us,ws,AM,du.mono hx.le (λa p=>v a<|eH _ p) C,du.mono hx.le (λa p=>v a<|gI _ p) K⟩
 |fz E cs=>
  let ⟨b,vs,rest,e,d,w,t,u⟩:=h
  have l:b<W.heap.size:=(fb.1 d).1
  refine⟨b,vs,rest,AM,?_,aY.mono hx.le v w,t,λo=>by rw[hx.fresh b o l];exact u o⟩
  rw[hx.heap b l (λa p=>s a b p e)];exact d
 |mp q y xs=>
  let ⟨r,es,e,d,w,t,u⟩:=h
  have l:r<W.heap.size:=(fb.1 d).1
  refine⟨r,es,AM,?_,iU.mono hx.le v w,t,λo=>by rw[hx.fresh r o l];exact u o⟩
  rw[hx.heap r l (λa p=>s a r p tu)];exact d
 |it m n seen=>
  let ⟨r,b,e,c,d,t,u⟩:=h
  have l:r<W.heap.size:=(fb.1 d).1
  refine⟨r,b,AM,by rw[hx.le.γ m (v m<|by simp[aD.ak])];exact c,?_,t,λo=>by rw[hx.fresh r o l];exact u o⟩
  rw[hx.heap r l (λa p=>s a r p tu)];exact d
def aJ.step{fW}{known chg:V->Prop}{L}{g g'}{W W'}{a a'}(h:aJ fW known L g W a)(w:Ext known chg g W g' W')
 wr new (AN:¬known new)
  (gw:a'.tmps.size=a.tmps.size) (hdf:a'.defers=fW.ds)
  (ah1:∀t,aC wr (.s t)=none->a'.tmps.getD t undef=a.tmps.getD t undef)
  (T:∀d,chg d->aC wr (.m d)≠none/\∃b,L (.m d)=ad (.b b))
  (hs:∀t v,aC wr (.s t)=ad (ad<|.v v)->a8 g' v (a'.tmps.getD t undef))
  (hb:∀d b,aC wr (.m d)=ad (ad<|.b b)->ic fW.N g' W' d b/\((known d/\∃P,L (.m d)=ad (.b P))\/(d=new/\∀k,cy (g'.γ d)=ad k->W.heap.size<=k\/∃u P,L (.m u)=ad (.b P)/\aC wr (.m u)=ad none/\cy (g.γ u)=ad k)))
  (hm:∀k x,aC wr k=ad (ad x)->∀d∈x.ak,known d\/d=new)
  (mj:∀d x,aC wr (.m d)=ad (ad x)->known d\/d=new):
  aJ fW (λd=>known d\/d=new) (bs L wr) g' W' a':=by
 have p:∀k x,bs L wr k=ad x->(aC wr k=none/\L k=ad x)\/aC wr k=ad (ad x):=by
  intro k x i;unfold bs at i;cases X:aC wr k with
  |none=>rw[X]at i;exact .inl ⟨J,i⟩
  |some y=>rw[X]at i;simp only at i;rw[i];exact .inr J
 refine⟨by rw[gw];exact h.size,hdf,?_,?_,?_,?_,?_,w.sub,?_,h.le.trans w.le.H,?_,λd f=>⟨.inl (h.fv d f).1,by rw[w.le.γ d (h.fv d f).1];exact(h.fv d f).2⟩⟩
 .intro t v ht;rcases p _ _ ht with⟨l,n⟩|l
  .rw[ah1 t l];exact a8.mono w.le (λd f=>h.ak _ _ n d f)<|h.dv t v n
  .exact hs t v l
 .intro d b f;rcases p _ _ f with⟨l,n⟩|l
  .refine(h.cA d b n).step w (h.dn _ _ n) (λu M=>h.ak _ _ n u M)<|λu k M i O=>?_;let ⟨B,P,C⟩:=T u M;have:=h.inj d u b P k n C i O;subst this;exact B l
  .exact(hb d b l).1
 .intro d e b P k f D i q;have low:∀d b,(aC wr (.m d)=none/\L (.m d)=ad (.b b))\/aC wr (.m d)=ad (ad<|.b b)->cy (g'.γ d)=ad k->
    (∃K,L (.m d)=ad (.b K)/\cy (g.γ d)=ad k/\k<W.heap.size/\aC wr (.m d)≠ad none)\/(d=new/\(W.heap.size<=k\/∃u P,L (.m u)=ad (.b P)/\aC wr (.m u)=ad none/\cy (g.γ u)=ad k)):=by
   intro d b r i
   rcases r with⟨l,n⟩|l
   .rw[w.le.γ d (h.dn _ _ n)]at i;exact .inl ⟨b,n,i,((h.cA d b n).block i).2,by rw[l];simp⟩
   .rcases(hb d b l).2 with⟨R,K,n⟩|⟨rfl,S⟩
    .rw[w.le.γ d R]at i;exact .inl ⟨K,n,i,((h.cA d K n).block i).2,by rw[l];simp⟩
    .exact .inr ⟨J,S k i⟩
  rcases low d b (p _ _ f) i with⟨c,l,n,U,h4⟩|⟨e1,U⟩<;>rcases low e P (p _ _ D) q with⟨c',E,G,z,Y⟩|⟨Z,z⟩
  .exact h.inj d e c c' k l E n G
  .rcases z with z|⟨u,bj,B,C,A⟩
   .omega
   .have:=h.inj d u c bj k l B n A;subst this;exact absurd C h4
  .rcases U with U|⟨u,bj,B,C,A⟩
   .omega
   .have:=h.inj e u c' bj k E B G A;subst this;exact absurd C Y
  .rw[e1,Z]
 .intro k x i d f;rcases p _ _ i with⟨_,n⟩|l
  .exact .inl<|h.ak _ _ n d f
  .exact hm k x l d f
 .intro d x i;rcases p _ _ i with⟨_,n⟩|l
  .exact .inl<|h.dn _ _ n
  .exact mj d x l
 .refine⟨w.os.trans h.below.os,w.tape.trans h.below.tape,w.output.trans h.below.output,b6 h.below.size w.size,λk i Q=>?_⟩;have q:k<W.heap.size:=fO i h.below.size;rw[<-h.below.block k i Q];refine w.heap k q<|λd f Qm=>?_;let ⟨_,b,hσ⟩:=T d f;rcases((h.cA d b hσ).block Qm).1 with l|l
  .omega
  .exact Q l
 .intro b o I Q;rw[w.fresh b o (fO I h.below.size)];exact h.fresh b o I Q
def aJ.weaken{m}{d b:V->Prop}{n}{g}{W}{a}(h:aJ m d n g W a)(l:∀f,d f->b f):aJ m b n g W a:=
 ⟨h.size,h.defers,h.dv,h.cA,h.inj,λk x e f i=>l _<|h.ak k x e f i,λf x e=>l _<|h.dn f x e,h.sub,h.below,h.le,h.fresh,λf i=>⟨l _ (h.fv f i).1,(h.fv f i).2⟩⟩
def aJ.drew{i}{d:V->Prop}{k}{g}{W}{a}(h:aJ i d k g W a):aJ i d k g {W with drawn:=W.drawn+1} a:=by
 refine⟨h.size,h.defers,h.dv,?_,h.inj,h.ak,h.dn,h.sub,⟨h.below.os,h.below.tape,h.below.output,h.below.size,h.below.block⟩,h.le,h.fresh,h.fv⟩;intro l b e;have:=h.cA l b e;cases b with
 |box E sz cs=>exact this
 |vec E T xs=>exact this
 |dI f first caps=>exact this
 |fz E cs=>exact this
 |mp o p xs=>exact this
 |it m n seen=>exact this
def di(a:au V):Fence:={Fence.wide with round:=a}
def vp(b:au V)(a:Array aX):Prop:=∀(i:V)(o:aX),a[i]? =ad o->b=none\/∀c,o.op≠ .defer c
def ah2{a}:vp none a:=λ_ _ _=> .inl J
def Xc{P}{b:Code}{Q:Exit->Act->cx->Prop}{a}{w}{r}(d:r=none):b.wpIn (di r) 0 P Q a w↔b.wp P Q a w:=by subst d;exact wpIn_wide
def Kv{P}{b}{i}{K:Act->cx->Prop}{a}{W}{k}{Q:Exit->Act->cx->Prop}(B:∀o,b[i]? =ad o->k=none\/∀l,o.op≠ .defer l)(h:wpOp P b (λ_ _ _=>False) i K a W):
  wpOpIn (di k) 0 P b Q i K a W:=by
 unfold wpOp at h
 unfold wpOpIn
 cases m:b[i]? with
 |none=>rw[m]at h;exact h
 |some o=>
  rw[m]at h
  simp only at h⊢
  split
  .rename_i p;rw[q p]at h;have d:o.wp P a W K (λ_ _ _=>False):=by
    rcases h with h|⟨_,_,_,s⟩
    .exact h
    .exact s.elim
   refine⟨λ_ _=>trivial,?_⟩;have f:(o.semAt (di k).round a.eval)=execOp a.eval o:=by
    rcases B o m with t|t
    .subst t;exact Oper.semAt_none _ _
    .exact Oper.semAt_eq _ _ _ t
   rw[f];unfold oo at d;generalize (execOp a.eval o).run P W=x at d;cases x with
   |ok u C=>
    cases u<;>simp only[ny,Oper.uponIn]at d⊢
    all_goals first
     |exact d
     |exact d.elim
     |skip
    .refine⟨λhh=>De,?_⟩;have H:=(callsIn_wide (n:=0)).2 d;refine CallsIn.mono (F:=di k) H<|λe g f=>?_;cases e with
     |returned v=>exact f
     |panicked l=>exact f.elim
     |outgrown=>let ⟨_,_,s⟩:=f;exact s.elim
    .refine⟨λhh=>De,?_⟩;intro l L _;let ⟨v,g,T,w⟩:=d l L;exact⟨v,g,T,stepsIn_wide.2 w⟩
   |halt u C=>
    cases u<;>simp only[ny]at d⊢<;>exact d.elim
  .rename_i p;rw[y p]at h;exact⟨λ_ _=>trivial,h⟩
def ig(P:bI)(n:V)(f:Array aX)(i:V)(p:E (Key×Info))(s:E (Key×au Info))(d:V):Prop:=
 ∀(F:dm),F.n=n->∀(Q:Exit->Act->cx->Prop)(b:V->Prop)(h:Kn)(g:Gh)(W:cx)(a:Act)(K:Act->cx->Prop),¬b d->aJ F b h g W a->
  (∀k∈p,h k.1=ad k.2)->(∀t l m,aJ F (λo=>b o\/o=d) (bs h s) t l m->K m l)->wpOp P f Q i K a W
def sx(P:bI)(n:V)(h:Array aX)(i:V)(p:E (Key×Info))(s:E (Key×au Info))(d:V->Prop):Prop:=
 ∀(F:dm),F.n=n->∀(Q:Exit->Act->cx->Prop)(b:V->Prop)(k:Kn)(g:Gh)(W:cx)(a:Act)(K:Act->cx->Prop),(∀f,d f->¬b f)->aJ F b k g W a->
  (∀l∈p,k l.1=ad l.2)->(∀t m o,aJ F (λf=>b f\/d f) (bs k s) t m o->K o m)->wpOp P h Q i K a W
def ig.Kw{P}{n}{d}{i}{o}{p}{m}(h:ig P n d i o p m){new:V->Prop}(s:new m):sx P n d i o p new:=by
 intro F t Q b u g W a K f k l v;refine h F t Q b u g W a K (f m s) k l<|λw x B C=>v w x B<|C.weaken ?_;rintro id (h|rfl)
 .exact .inl h
 .exact .inr s
def pP(a:V->V)(i:V):V->Prop:=λb=>a i<=b/\b<a (i+1)
def Gw{a:V->V}(d:∀i,a i<=a (i+1)){i b}(h:i<=b):a i<=a b:=by
 induction h with
 |refl=>exact aT _
 |step _ f=>exact b6 f<|d _
section
variable{P:bI}{ops:Array aX}{Q:Exit->Act->cx->Prop}{F:dm}{σ:Kn}{rd:V->E (Key×Info)}{wr:V->E (Key×au Info)}{nx:V}
def Qn{b}{g}{W}{a}{c:V->V}(s:∀i,c i<=c (i+1))(t:aJ F (·<c 0) σ g W a)
  (u:∀i,i<ops.size->sx P F.n ops i (rd i) (wr i) (pP c i))
  (v:∀i,i<ops.size->∀p∈rd i,fold wr σ (cw i) p.1=ad p.2)
  (w:∀g W a,aJ F (·<c ops.size) (fold wr σ<|cw ops.size) g W a->Q .normal a W) (d:vp F.rd ops):(Code.region b ops ah).wpIn (di F.rd) 0 P Q a W:=by
 refine wpIn_region ?_
 have f:∀m k,k+m=ops.size->∀g W a,aJ F (·<c k) (fold wr σ<|cw k) g W a->wpOpsIn (di F.rd) 0 P ops Q (List.range' k m) a W:=by
  intro m;induction m with
  |zero=>intro k l g W a h;simp only[jv]at l;subst l;exact w g W a h
  |succ m x=>
   intro k l g W a h
   rw[Df,wpOpsIn_cons]
   refine Kv (d k) ?_
   refine u k G F J _ (·<c k) _ g W a _ (λb B T=>by simp only[pP]at B;omega) h (v k G)<|λC H K L=>?_
   refine x (k+1) G C H K ?_
   rw[yB,Qh]
   exact L.weaken (λb o=>by have:=s k;simp only[pP]at o;omega)
 have:=f ops.size 0 G g W a t
 rwa[<-Kx]at this
inductive lM(ops:Array aX):V->V->Prop where
 |one {i a:V} {o:aX} {e:Edge} (b:ops[i]? =ad o) (d:e∈o.after) (f:tv .any e=ae) (g:e.on=a):lM ops a i
 |more {i a k:V} {o:aX} {e:Edge} (b:ops[i]? =ad o) (d:e∈o.after) (f:tv .any e=ae) (l:e.on=k) (h:lM ops a k):lM ops a i
def lM.closed{s:E V}{i}(d:∀k∈s,∀b,lM ops b k->b∈s)(a:∀o,ops[i]? =ad o->∀m∈o.after,tv .any m=ae->m.on∈s):∀b,lM ops b i->b∈s:=by
 intro b f;cases f with
 |one g he l f=>subst f;exact a _ g _ he l
 |more g he l n h=>subst n;exact d _ (a _ g _ he l) b h
def fP(u:E (Key×au Info)):E Key:=u.map (·.1)
def dw(u:E (Key×Info)):E Key:=u.map (·.1)
def AO{u}{k:Key}(h:oL u k=ae):k∈fP u:=by
 induction u with
 |nil=>simp[oL,aC]at h
 |cons p u a=>
  let ⟨b,x⟩:=p
  by_cases e:b=k
  .simp[fP,e]
  .have:oL u k=ae:=by simpa[oL,aC,e]using h
   have:=a this;simp only[fP,gJ,bZ];exact .inr this
def Qo{id}{g}{W}{a}{c:V->V}(hc:∀i,c i<=c (i+1))(jQ:P.follows .mixedOrders=ae)(jh:∀i o u,ops[i]? =ad o->u∈o.after->tv .any u=ae->u.on<i)(h0:aJ F (·<c 0) σ g W a)
  (hs:∀i,i<ops.size->sx P F.n ops i (rd i) (wr i) (pP c i))
  (ht:∀i,i<ops.size->∀T∈rd i,fold wr σ (cw i) T.1=ad T.2)
  (Xd:∀i f,i<f->f<ops.size->∀k,k∈fP (wr i)->k∈fP (wr f)->lM ops i f)
  (Dg:∀i f,i<f->f<ops.size->∀k,k∈fP (wr i)->k∈dw (rd f)->lM ops i f)
  (Gx:∀i f,i<f->f<ops.size->∀k,k∈dw (rd i)->k∈fP (wr f)->lM ops i f)
  (hQ:∀g W a,aJ F (·<c ops.size) (fold wr σ<|cw ops.size) g W a->Q .normal a W) (jR:vp F.rd ops):(Code.region id ops ae).wpIn (di F.rd) 0 P Q a W:=by
 refine wpIn_region_any jQ ?_
 have key:∀w d s g W a,d.size=ops.size->q7 ops.size (lM ops) s->(∀i,i<ops.size->(d.getD i ae=ae↔i∈s))->w+s.length=ops.size->
   aJ F (λid=>id<c 0\/∃i∈s,pP c i id) (fold wr σ s) g W a->wpAnyIn (di F.rd) 0 P .any ops Q w d a W:=by
  intro w
  induction w with
  |zero=>
   intro d s g W a O l A D h
   have v:∀i,i<ops.size->i∈s:=by
    intro i C;refine fc λL=>?_
    have jR:(i::s).Nodup:=AL.2 ⟨L,l.nodup⟩;have R:i::s⊆cw ops.size:=λx S=>by
     rcases bZ.1 S with rfl|S
     .exact pO.2 C
     .exact pO.2<|l.lt x S
    have:=jR.length_le_of_subset R;simp at this;omega
   refine⟨?_,?_⟩
   .cases hr:Xe .any ops d with
    |nil=>rfl
    |cons x xs=>
     have S:x∈Xe .any ops d:=by rw[hr];exact Dc
     let ⟨U,o,ho,_⟩:=mem_ready.1 S
     have Y:x<ops.size:=(fb.1 ho).1
     have:=(A x Y).2<|v x Y
     rw[this]at U
     cases U
   .refine hQ g W a ?_;rw[<-l.all wr σ v (λk i f Qp H B E=>Xd i f Qp H k (AO B)<|AO E)];refine h.weaken<|λid t=>?_;rcases t with t|⟨i,C,hf⟩
    .exact fO t<|Gw hc<|bf _
    .have:=Gw hc (show i+1<=ops.size from l.lt i C);simp only[pP]at hf;omega
  |succ w ih=>
   intro d s g W a O l A D h
   refine⟨λhr=>?_,λi C=>?_⟩
   .exfalso;have hex:∃i,i<ops.size/\i∉s:=by
     refine fc λfe=>?_
     have v:∀i∈cw ops.size,i∈s:=λi C=>fc λL=>fe ⟨i,pO.1 C,L⟩
     have:=(List.nodup_range (n:=ops.size)).length_le_of_subset v;simp at this;omega
    have X:∀m,∀i,i<=m->i<ops.size->i∉s->∃i,i<ops.size/\i∉s/\∀f,f<i->f∈s:=by
     intro m;induction m with
     |zero=>intro i K y Z;exact⟨i,y,Z,λf H=>G⟩
     |succ m ihm=>
      intro i K y Z
      by_cases H:∃f,f<i/\f∉s
      .let ⟨f,Dh,vq⟩:=H;exact ihm f G G vq
      .exact⟨i,y,Z,λf E=>fc λL=>H ⟨f,E,L⟩⟩
    let ⟨i0,Qq,Qr⟩:=hex;let ⟨i,C,L,q⟩:=X i0 i0 (aT _) Qq Qr;have:i∈Xe .any ops d:=by
     rw[mem_ready];refine⟨?_,ops[i],by simp[C],λu he I=>?_⟩
     .cases hg:d.getD i ae with
      |false=>rfl
      |true=>exact absurd ((A i C).1 hg) L
     .have K:=jh i ops[i] u (by simp[C]) he I;have y:=(A u.on G).2<|q u.on K;have Z:u.on<d.size:=G;simpa[Z]using y
    rw[hr]at this;cases this
   .let ⟨Ky,o,ho,v⟩:=mem_ready.1 C;have B:i<ops.size:=(fb.1 ho).1;have L:i∉s:=λtx=>by rw[(A i B).2 tx]at Ky;cases Ky
    have pQ:∀k∈s,∀f,lM ops f k->f∈s:=by intro k hk f H;let ⟨p,r,Xf⟩:=Ql hk;rw[Xf];exact eH _<|l.closed p k r Xf f H
    have M:∀o',ops[i]? =ad o'->∀u∈o'.after,tv .any u=ae->u.on∈s:=by
     intro o' Xg u he I;rw[ho]at Xg;cases Xg;have K:=v u he I;have jh:u.on<ops.size:=by
      rcases pN u.on d.size with y|y
      .omega
      .simp[Array.getElem?_eq_none y]at K
     refine(A u.on jh).1 ?_;have ah4:u.on<d.size:=G;simpa[ah4]using K
    have z:=lM.closed pQ M;have fE:∀T∈rd i,fold wr σ s T.1=ad T.2:=by intro T cc;have hk:T.1∈dw (rd i):=kF.2 ⟨T,cc,J⟩;rw[l.read wr σ T.1 i B L z (λa b Qs I ha' oq=>Xd a b Qs I _ (AO ha')<|AO oq) (λa ha hwa=>Dg a i ha B _ (AO hwa) hk) (λb I hbn hwb=>Gx i b I hbn _ hk<|AO hwb)];exact ht i B T cc
    refine Kv (jR i) ?_;refine hs i B F J _ _ _ g W a _ (λid hf sy=>?_) h fE<|λg' W' a' h'=>?_
    .rcases sy with sy|⟨f,H,u⟩
     .have:=Gw hc<|bf i;simp only[pP]at hf;omega
     .have:i=f:=by
       simp only[pP]at hf u;rcases Qk i f with K|K|K
       .have:=Gw hc (show i+1<=f from K);omega
       .exact K
       .have:=Gw hc (show f+1<=i from K);omega
      exact L<|this▸H
    .refine ih (d.setIfInBounds i ae) (s++[i]) g' W' a' (by simp[O]) (l.snoc B L z) (λf H=>?_) bX ?_
     .by_cases N:f=i
      .subst N;have:f<d.size:=G;simp[this]
      .rw[getD_set_ne ae (Ne.symm N),A f H];simp[N]
     .rw[Qh];refine h'.weaken<|λid t=>?_;rcases t with(t|⟨f,H,u⟩)|t
      .exact .inl t
      .exact .inr ⟨f,eH _ H,u⟩
      .exact .inr ⟨i,ax,t⟩
 refine key ops.size _ [] g _ a ax (q7.nil _ _) (λi C=>?_) ax ?_
 .simp[C]
 .exact h0.drew.weaken<|λid t=> .inl t
end
def ij{a:Type}(t:V):E (V×a)->au a
 |[]=>none
 | (k,x)::b=>if k=t then ad x else ij t b
inductive ZV where
 |b|i (k:om)|s|f|t|p|m
def ZV.eY:ZV->aR
 | .b=> .bool ah
 | .i k=> .int k 0
 | .s=> .slice none 0 0
 | .f=> .nilFunc
 | .t=> .string ⟨⟨[]⟩⟩
 | .p=> .pointer none
 | .m=> .map none
def ZV.pR:ZV->C
 | .b=> .B ah
 | .i k=> .I k 0
 | .s=> .V<|.slice none 0 0
 | .f=> .V .nilFunc
 | .t=> .V<|.string ⟨⟨[]⟩⟩
 | .p=> .V<|.pointer none
 | .m=> .V<|.map none
def ZV.ok:ZV->aR->Bool
 | .b,.bool ah=>ae
 | .i k,.int a n=>k=a&&n=0
 | .s,.slice none 0 0=>ae
 | .f,.nilFunc=>ae
 | .t,.string ⟨⟨[]⟩⟩=>ae
 | .p,.pointer none=>ae
 | .m,.map none=>ae
 |_,_=>ah
def ZV.ok_eq:∀{a:ZV}{v:aR},a.ok v=ae->v=a.eY:=by
 intro a v h;unfold ZV.ok at h;split at h
 .rfl
 .simp only[cD,decide_eq_true_eq]at h;obtain⟨rfl,rfl⟩:=h;rfl
 .rfl
 .rfl
 .rfl
 .rfl
 .rfl
 .cases h
inductive TK where
 |int (k:om)|bool|sl (E:Nat)|st|arr (len E:Nat)|str|map (K V:Nat)|other
structure TI where
 kind:TK
 size:V
 bytes:V
 fields:E (V×V×Bool)
 zero:E ZV
abbrev TT:=E<|V×TI
def TI.agg(t:TI):Bool:=match t.kind with| .st=>ae| .arr _ _=>ae|_=>ah
def vr(P:bI)(t:dH):au Bool:=match P.underlying t with
 |some (.struct _)=>ad ae
 |some (.array _ _)=>ad ae
 |some _=>ad ah
 |none=>none
def Di:E ZV->E aR->Bool
 |[],[]=>ae
 |a::b,v::vs=>a.ok v&&Di b vs
 |_,_=>ah
def Qt:∀{a:E ZV}{vs:E aR},Di a vs=ae->vs=a.map ZV.eY
 |[],[],_=>rfl
 |_::_,_::_,h=>by simp only[Di,cD]at h;simp[ZV.ok_eq h.1,Qt h.2]
 |[],_::_,h=>by simp[Di]at h
 |_::_,[],h=>by simp[Di]at h
def Kz:aR->Bool
 | .agg _=>ae
 |_=>ah
def ah9{v}{l}{b}(h:(Kz v==b)=ae)(a:v.cells.toList=l):v=sr b l:=by
 have d:Kz v=b:=eh;subst d;cases v with
 |agg vs=>
  simp only[Value.cells]at a
  subst a
  simp[Kz,sr]
 |_=>
  simp only[Value.cells]at a
  subst a
  rfl
def sA(P:bI):E (V×V×Bool)->E Field->Bool
 |[],[]=>ae
 | (off,sz,a)::b,f::fs=>f.offset=off&&((P.info? f.type).map (·.size)==ad sz)&&sz≠0&&(vr P f.type==ad a)&&sA P b fs
 |_,_=>ah
def Qu(P:bI)(t:V)(a:TI):Bool:=
 match P.info? t with
 |none=>ah
 |some i=>i.size=a.size&&Z a.zero=a.size&&i.bytes=a.bytes&&(match i.zero with|some z=>Di a.zero z.cells.toList&&(Kz z==a.agg)|none=>ah)&&
  match a.kind,P.underlying t with
  | .int k,ad (.int g)=>k=g
  | .bool,ad .bool=>ae
  | .sl E,ad (.slice h)=>E=h
  | .st,ad (.struct fs)=>sA P a.fields fs.toList
  | .arr n e,ad (.array b f)=>n=b&&e=f
  | .str,ad .string=>ae
  | .map n e,ad (.map b f)=>n=b&&e=f
  | .other,ad d=>(match d with| .struct _=>ah| .array _ _=>ah|_=>ae)
  |_,_=>ah
structure Xh(P:bI)(t:V)(a:TI):Prop where
 Xi:a.zero.length=a.size
 info:∃i,P.info? t=ad i/\i.size=a.size/\i.bytes=a.bytes/\∃z,i.zero=ad z/\z.cells.toList=a.zero.map ZV.eY
 agg:vr P t=ad a.agg
 zag:∀i z,P.info? t=ad i->i.zero=ad z->z=sr a.agg (a.zero.map ZV.eY)
 kind:match a.kind with
  | .int k=>P.underlying t=ad (.int k)
  | .bool=>P.underlying t=ad .bool
  | .sl E=>P.underlying t=ad (.slice E)
  | .st=>∃fs,P.underlying t=ad (.struct fs)/\sA P a.fields fs.toList=ae
  | .arr n e=>P.underlying t=ad (.array n e)
  | .str=>P.underlying t=ad .string
  | .map n e=>P.underlying t=ad (.map n e)
  | .other=>True
def aia{P}{t}{f}(h:Qu P t f=ae):Xh P t f:=by
 unfold Qu at h;cases k:P.info? t with
 |none=>rw[k]at h;simp at h
 |some i=>
  rw[k]at h
  simp only[cD,decide_eq_true_eq]at h
  let ⟨⟨⟨⟨o,p⟩,h2⟩,b⟩,a⟩:=h
  have l:∃z,i.zero=ad z/\z.cells.toList=f.zero.map ZV.eY:=by
   cases l:i.zero with
   |none=>rw[l]at b;simp at b
   |some z=>rw[l]at b;simp only[cD]at b;exact⟨z,J,Qt b.1⟩
  refine⟨p,⟨i,k,o,h2,l⟩,?_,?_,?_⟩
  rotate_left
  .intro v z g m;rw[k]at g;cases g;rw[m]at b;simp only[cD]at b;exact ah9 b.2<|Qt b.1
  rotate_right
  .unfold vr TI.agg;cases n:f.kind<;>rw[n]at a<;>cases hu:P.underlying t<;>rw[hu]at a<;>try(simp at a;done)
   all_goals (rename_i d;cases d<;>first|rfl| (simp at a;done))
  .cases n:f.kind<;>rw[n]at a<;>cases hu:P.underlying t<;>rw[hu]at a<;>try(simp at a;done)
   all_goals (rename_i d;cases d<;>first|trivial| (simp at a;done)| (simp at a;subst a;rfl)| (simp at a;let ⟨s,u⟩:=a;subst s u;rfl)|exact⟨_,rfl,a⟩)
def cq(P:bI):TT->Bool
 |[]=>ae
 | (t,a)::b=>Qu P t a&&cq P b
def eK{P:bI}:∀{d:TT},cq P d=ae->∀{t a},ij t d=ad a->Xh P t a
 |[],_,_,_,h=>by simp[ij]at h
 | (k,x)::g,b,t,a,h=>by
  simp only[cq,cD]at b;simp only[ij]at h;split at h
  .rename_i f;subst f;cases h;exact aia b.1
  .exact eK b.2 h
structure St where
 sl:E (V×AV)
 mem:E (V×aD)
 nx:V
 gd:E (V×Bool):=[]
def St.kn(a:St):Kn
 | .s t=>(ij t a.sl).map .v
 | .m id=>(ij id a.mem).map .b
def Dj:aR->AV
 | .bool b=> .c<|.B b
 | .int k n=> .c<|.I k n
 |v=> .c<|.V v
def St.ev(a:St):Operand->au AV
 | .tmp t=>ij t a.sl
 | .const v=>ad<|Dj v
 | .func f=>ad<|.c<|.V<|.func (.func f) #[] #[]
 | .global _=>none
def cH(a:St):Operand->E (Key×Info)
 | .tmp t=>match ij t a.sl with
  |some v=>[(.s t,.v v)]
  |none=>[]
 |_=>[]
def aib g v:a8 g (Dj v) v:=by cases v<;>exact J
def dq{l}{b:V->Prop}{i}{g}{W}{a}(h:aJ l b i g W a) st x v(d:st.ev x=ad v)
  (m:∀k∈cH st x,i k.1=ad k.2):a8 g v (a.eval x):=by
 cases x with
 |tmp t=>
  simp only[St.ev]at d
  have:=m (.s t,.v v) (by simp[cH,d])
  exact h.dv t v this
 |const u=>simp only[St.ev,aq]at d;subst d;exact aib g u
 |func f=>simp only[St.ev,aq]at d;subst d;rfl
 |global _=>simp[St.ev]at d
def q8{n}{b:V->Prop}{l}{g}{W}{a}(h:aJ n b l g W a) st x v(i:st.ev x=ad v)
  (o:∀m∈cH st x,l m.1=ad m.2):∀k∈v.ak,b k:=by
 cases x with
 |tmp t=>
  simp only[St.ev]at i
  have:=o (.s t,.v v) (by simp[cH,i])
  exact λk d=>h.ak _ _ this k d
 |const u=>simp only[St.ev,aq]at i;subst i;intro k d;cases u<;>simp[Dj,AV.ak,C.ak]at d
 |func f=>simp only[St.ev,aq]at i;subst i;intro k d;simp[AV.ak,C.ak]at d
 |global _=>simp[St.ev]at i
def sB{P}{m}{i}{o:aX}{d:V}(ho:m[i]? =ad o)(hg:o.guard=none)(hd:o.dst=ad d){n}(df:d<n)
 rd x new
  (h:∀(L:dm)(f:V->Prop)(H:Kn)(g:Gh)(W:cx)(a:Act),aJ L f H g W a->(∀kx∈rd,H kx.1=ad kx.2)->
   (∀p∈x.ak,f p)/\∃v,(execOp a.eval o).run P W= .ok (.value v) W/\a8 g x v):
  ig P n m i rd [(.s d,ad<|.v x)] new:=by
 intro L jZ Q f H g W a K w aS T q
 let ⟨hm,v,B,C⟩:=h L f H g W a aS T
 unfold wpOp
 simp only[ho,gx,hg,cd]
 refine .inl ?_
 unfold oo
 rw[B]
 simp only[ny,hd]
 have X:d<a.tmps.size:=mm
 refine q g W _<|aS.step (chg:=λ_=>False) (g':=g) (W':=W) ⟨⟨cE.refl _,λ_ _=>rfl⟩,λ_ _ _=>rfl,aS.sub,aT _,λ_ _ _=>rfl,J,J,J⟩ _ new w nz aS.defers ?_ (λ_ h=>h.elim) ?_ ?_ ?_ ?_
 .intro t l;have c:d≠t:=by intro e;subst e;simp[aC]at l
  simp[gT,kH c]
 .intro t u l;simp only[aC]at l;split at l
  .rename_i e;simp only[Key.s.injEq]at e;simp only[aq,Info.v.injEq]at l;subst e;subst l;simpa[gT,X]using C
  .simp at l
 .intro p b l;simp[aC]at l
 .intro k y l;simp only[aC]at l;split at l
  .simp only[aq]at l;subst l;exact λp j=> .inl<|hm p j
  .simp at l
 .intro p y l;simp[aC]at l
def fX(n:Y):Prop:= -9223372036854775808<=n/\n<=9223372036854775807
inductive Pr where
 |t
 |i64 (n:Y)
 |AP (b:Y)
 |le (a b:Y)
 |lt (a b:Y)
 |AQ (a b:V)
 |tz (a b:Bool)
 |and (p q:Pr)
def Pr.h:Pr->Prop
 | .t=>True
 | .i64 n=>fX n
 | .AP d=>d≠0
 | .le a d=>a<=d
 | .lt a d=>a<d
 | .AQ a d=>a<d
 | .tz a d=>a=d
 | .and p f=>p.h/\f.h
def Pr.b:Pr->Bool
 | .t=>ae
 | .i64 n=>decide (-9223372036854775808<=n)&&decide (n<=9223372036854775807)
 | .AP d=> !decide (d=0)
 | .le a d=>decide<|a<=d
 | .lt a d=>decide<|a<d
 | .AQ a d=>Nat.blt a d
 | .tz a d=>a==d
 | .and p f=>p.b&&f.b
def Pr.Gy:∀{p:Pr},p.b=ae->p.h
 | .t,_=>trivial
 | .i64 _,a=>by simpa[Pr.b,Pr.h,fX]using a
 | .AP _,a=>by simpa[Pr.b,Pr.h]using a
 | .le _ _,a=>by simpa[Pr.b,Pr.h]using a
 | .lt _ _,a=>by simpa[Pr.b,Pr.h]using a
 | .AQ _ _,a=>cP a
 | .tz _ _,a=>by simpa[Pr.b,Pr.h]using a
 | .and p d,a=>by simp only[Pr.b,cD]at a;exact⟨Pr.Gy a.1,Pr.Gy a.2⟩
def Pr.an:Pr->Pr->Pr
 | .t,a=>a
 |p,.t=>p
 |p,a=> .and p a
def Pr.Gz{p d:Pr}(a:(p.an d).h):p.h/\d.h:=by
 unfold Pr.an at a;split at a
 .exact⟨A,a⟩
 .exact⟨a,A⟩
 .exact a
instance:CoeSort Pr Prop:=⟨Pr.h⟩
def num(k:om)(n:Y):C×Pr:=match k with
 | .i64=>(.I .i64 n,.i64 n)
 |k=>(.I k<|k.wrap n,.t)
def Dk k n(h:(num k n).2.h) g:cN g (num k n).1 (.int k<|k.wrap n):=by cases k<;>first|exact rfl| (show Value.int .i64 _=_;rw[Go.IntWalk.i64_in n h])
def GA(op:BinOp)(k:om)(a b:Y):au (C×Pr):=match op with
 | .add=>ad<|num k<|a+b
 | .sub=>ad<|num k<|a-b
 | .mul=>ad<|num k<|a*b
 | .quo=>ad ((num k<|a.tdiv b).1,.and (.AP b) (num k<|a.tdiv b).2)
 | .rem=>ad (.I k<|a.tmod b,.AP b)
 | .and=>ad (.I k<|k.wrap (ji k.bits a&&& ji k.bits b).toNat,.t)
 | .or=>ad (.I k<|k.wrap (ji k.bits a|||ji k.bits b).toNat,.t)
 | .eql=>ad (.B<|a==b,.t)
 | .neq=>ad (.B<|a !=b,.t)
 | .lss=>ad (.B<|decide<|a<b,.t)
 | .leq=>ad (.B<|decide<|a<=b,.t)
 | .gtr=>ad (.B<|decide<|a>b,.t)
 | .geq=>ad (.B<|decide<|a>=b,.t)
 |_=>none
def Dm(op:BinOp)(k:om)(a b:Y):au (C×Pr):=match op with
 | .shl=>ad (.I k<|k.wrap<|a*2^(min (af b) k.bits),.le 0 b)
 | .shr=>ad (.I k<|a.fdiv<|2^(min (af b) k.bits),.le 0 b)
 |_=>none
def KA(op:BinOp):C->C->au (C×Pr)
 | .I k a,.I d b=>match op with
  | .shl=>Dm .shl k a b
  | .shr=>Dm .shr k a b
  |op=>if k=d then GA op k a b else none
 | .B a,.B b=>match op with
  | .eql=>ad (.B<|a==b,.t)
  | .neq=>ad (.B<|a !=b,.t)
  |_=>none
 |_,_=>none
def aic{P}{op:BinOp}{k}{a b}{i}{pre}(h:GA op k a b=ad (i,pre))(f:pre) g t W:
  ∃v,(binOp op t (.int k a)<|.int k b).run P W= .ok v W/\cN g i v:=by
 cases op<;>simp only[GA,aq,bK,reduceCtorEq]at h
 case add=>have d:num k (a+b)=(i,pre):=h;refine⟨.int k<|k.wrap<|a+b,by simp[binOp,Qv,pure],?_⟩;have:=Dk k (a+b) (by rw[d];exact f) g;rw[d]at this;exact this
 case sub=>have d:num k (a-b)=(i,pre):=h;refine⟨.int k<|k.wrap<|a-b,by simp[binOp,Qv,pure],?_⟩;have:=Dk k (a-b) (by rw[d];exact f) g;rw[d]at this;exact this
 case mul=>have d:num k (a*b)=(i,pre):=h;refine⟨.int k<|k.wrap<|a*b,by simp[binOp,Qv,pure],?_⟩;have:=Dk k (a*b) (by rw[d];exact f) g;rw[d]at this;exact this
 case quo=>
  obtain⟨rfl,rfl⟩:=h
  exact⟨.int k<|k.wrap<|a.tdiv b,by simp[binOp,Op.intDiv,show b≠0 from(show b≠0/\_ from f).1,pure],Dk k _ (show b≠0/\_ from f).2 g⟩
 case rem=>
  obtain⟨rfl,rfl⟩:=h
  exact⟨.int k<|a.tmod b,by simp[binOp,Op.intDiv,show b≠0 from f,pure],J⟩
 case and=>obtain⟨rfl,rfl⟩:=h;exact⟨_,by simp[binOp,Op.intBits,pure],J⟩
 case or=>obtain⟨rfl,rfl⟩:=h;exact⟨_,by simp[binOp,Op.intBits,pure],J⟩
 case eql=>obtain⟨rfl,rfl⟩:=h;exact⟨_,Dp,J⟩
 case neq=>obtain⟨rfl,rfl⟩:=h;exact⟨_,Dp,J⟩
 case lss=>obtain⟨rfl,rfl⟩:=h;exact⟨_,Dp,J⟩
 case leq=>obtain⟨rfl,rfl⟩:=h;exact⟨_,Dp,J⟩
 case gtr=>obtain⟨rfl,rfl⟩:=h;exact⟨_,Dp,J⟩
 case geq=>obtain⟨rfl,rfl⟩:=h;exact⟨_,Dp,J⟩
def run_equal_bool{P}{t}(d:P.underlying t=ad .bool) a b W:(Op.equal t (.bool a)<|.bool b).run P W= .ok (a==b) W:=by rw[Op.equal,show Op.maxDepth=9999+1 from J,Op.equalIn];simp[run_underlying d]
def Xj(a:TT)(t:V):Bool:=match ij t a with
 |some b=>(match b.kind with| .bool=>ae|_=>ah)
 |none=>ah
def Dq(f:TT)(op:BinOp)(t:V)(x d:C):au (C×Pr):=match x,d with
 | .B a,.B b=>if Xj f t then KA op (.B a) (.B b)else none
 |x,d=>KA op x d
def aid{P}{l}(m:cq P l=ae){op:BinOp}{t:dH}{x n}{w}{pre}(h:Dq l op t x n=ad (w,pre))(o:pre) g{p s}(f:cN g x p)(i:cN g n s) W
 H L:∃v,(do eqGuard op t H L p s;binOp op t p s:Sem aR).run P W= .ok v W/\cN g w v:=by
 cases x<;>cases n<;>simp only[Dq,KA,reduceCtorEq]at h
 case B.B a b=>
  split at h
  .rename_i d;have C:P.underlying t=ad .bool:=by
    unfold Xj at d;cases hl:ij t l with
    |none=>rw[hl]at d;simp at d
    |some K=>
     rw[hl]at d
     have:=(eK m hl).kind
     cases Q:K.kind<;>simp only[Q]at d this<;>first|exact this| (simp at d)
   simp only[cN]at f i;subst f i;cases op<;>simp only[aq,bK,reduceCtorEq]at h
   .obtain⟨rfl,rfl⟩:=h;exact⟨.bool<|a==b,by simp[eqGuard,binOp,run_equal_bool C],J⟩
   .obtain⟨rfl,rfl⟩:=h;exact⟨.bool<|a !=b,by simp[eqGuard,binOp,run_equal_bool C,bne],J⟩
  .simp at h
 case I.I k a u b=>
  simp only[cN]at f i
  subst f i
  have T:∀op,(do eqGuard op t H L (.int k a) (.int u b);binOp op t (.int k a) (.int u b):Sem aR).run P W=(binOp op t (.int k a)<|.int u b).run P W:=by intro op;cases op<;>simp[eqGuard]
  rw[T]
  cases op
  case shl=>
   simp only[Dm,aq,bK]at h
   obtain⟨rfl,rfl⟩:=h
   exact⟨_,by simp[binOp,Op.shift,Int.not_lt.2 (show(0:Y)<=_ from o),pure],J⟩
  case shr=>
   simp only[Dm,aq,bK]at h
   obtain⟨rfl,rfl⟩:=h
   exact⟨_,by simp[binOp,Op.shift,Int.not_lt.2 (show(0:Y)<=_ from o),pure],J⟩
  all_goals
   simp only at h
   split at h
   .rename_i e;subst e;exact aic h o g t W
   .simp at h
def KB{P}{t}{b}(h:vr P t=ad b) W:(isAgg t).run P W= .ok b W:=by
 unfold vr at h;cases hu:P.underlying t with
 |none=>rw[hu]at h;simp at h
 |some d=>
  rw[hu]at h
  simp only[isAgg,db,run_underlying hu,dx]
  cases d<;>simp at h<;>subst h<;>rfl
def run_sizeOf{P}{t}{i:TypeInfo}(h:P.info? t=ad i) W:(sizeOf t).run P W= .ok i.size W:=by simp[sizeOf,typeInfo,h]
def KC{P:bI}:∀{l:E (V×V×Bool)}{d:E Field},sA P l d=ae->∀{k:V}{a sz:V}{m:Bool},l[k]? =ad (a,sz,m)->
  ∃f,d[k]? =ad f/\f.offset=a/\(∃i,P.info? f.type=ad i/\i.size=sz)/\sz≠0/\vr P f.type=ad m
 |[],_,_,_,_,_,_,h=>by simp at h
 | (o,s,g)::p,[],b,_,_,_,_,_=>by simp[sA]at b
 | (o,s,g)::p,f::d,b,0,a,sz,m,h=>by
  simp only[sA,cD,decide_eq_true_eq,beq_iff_eq]at b;simp only[mX,aq,bK]at h;obtain⟨rfl,rfl,rfl⟩:=h;let ⟨⟨⟨⟨n,h2⟩,h3⟩,u⟩,_⟩:=b;refine⟨f,ax,n,?_,AR,u⟩;cases t:P.info? f.type with
  |none=>rw[t]at h2;simp at h2
  |some i=>rw[t]at h2;simp at h2;exact⟨i,J,h2⟩
 | (o,s,g)::p,f::d,b,k+1,a,sz,m,h=>by simp only[sA,cD]at b;simp only[vu]at h;let ⟨v,n,h2⟩:=KC b.2 h;exact⟨v,by simpa using n,h2⟩
def nD(d:E C)(b sz:V)(f:Bool):au AV:=
 if f then(if b+sz<=Z d then ad (.a<|(ay b d).take sz)else none)else(d[b]?).map .c
def aY.get{g:Gh}:∀{d:E C}{vs:E aR},aY g d vs->∀{k:V}{a:C},d[k]? =ad a->∃v,vs[k]? =ad v/\cN g a v
 |[],_,_,_,_,h=>by simp at h
 |_::_,_,b,0,a,h=>by obtain⟨v,r,rfl,f,_⟩:=b;simp at h;subst h;exact⟨v,ax,f⟩
 |_::_,_,b,k+1,a,h=>by obtain⟨v,r,rfl,_,i⟩:=b;simp at h;let ⟨u,h3,l⟩:=aY.get i h;exact⟨u,AR,l⟩
def aY.drop{g:Gh}:∀{a:E C}{vs:E aR},aY g a vs->∀k,aY g (ay k a) (ay k vs)
 |[],_,h,k=>by simp only[aY]at h;subst h;simp[aY]
 |_::_,_,h,0=>by simpa using h
 |_::_,_,h,k+1=>by obtain⟨v,d,rfl,_,b⟩:=h;simpa using aY.drop b k
def aY.take{g:Gh}:∀{a:E C}{vs:E aR},aY g a vs->∀k,aY g (M k a) (M k vs)
 |[],_,h,k=>by simp only[aY]at h;subst h;simp[aY]
 |_::_,_,_,0=>by simp[aY]
 |_::_,_,h,k+1=>by obtain⟨v,f,rfl,b,d⟩:=h;simpa using⟨v,_,J,b,aY.take d k⟩
def GB cs k:∀a∈cp (ay k cs),a∈cp cs:=by
 induction cs generalizing k with
 |nil=>simp
 |cons c cs b=>cases k with
  |zero=>simp
  |succ k=>intro a h;simp only[List.drop_succ_cons]at h;simp only[cp,be];exact .inr<|b k a h
def Dr cs k:∀a∈cp (M k cs),a∈cp cs:=by
 induction cs generalizing k with
 |nil=>simp
 |cons c cs b=>cases k with
  |zero=>simp[cp]
  |succ k=>
   intro a h
   simp only[List.take_succ_cons,cp,be]at h⊢
   exact h.imp (λx=>x)<|b k a
def aie{b}{k:V}{g}(h:b[k]? =ad g):∀f∈g.ak,f∈cp b:=by
 induction b generalizing k with
 |nil=>simp at h
 |cons d b i=>cases k with
  |zero=>simp at h;subst h;intro f a;simp[cp,a]
  |succ k=>simp at h;intro f a;simp only[cp,be];exact .inr<|i h f a
def Xk{P}{g}{k}{vs}(l:aY g k vs){a sz}{f}{x}(h:nD k a sz f=ad x){t}(b:vr P t=ad f)
  {i:TypeInfo} (m:P.info? t=ad i) (n:i.size=sz) W:∃v,(part t vs.toArray a).run P W= .ok v W/\a8 g x v:=by
 unfold nD at h
 cases f with
 |true=>
  simp only[cd]at h
  split at h
  .rename_i o;simp only[aq]at h;subst h;refine⟨.agg<|vs.toArray.extract a<|a+sz,?_,⟨(ay a vs).take sz,?_,(l.drop a).take sz⟩⟩
   .simp only[part,db,KB b,dx,cd,run_sizeOf m,n];rfl
   .congr 1;simp[List.extract_toArray,List.extract_eq_take_drop]
  .simp at h
 |false=>
  simp only[iF,bQ,bS]at h
  obtain⟨c,p,rfl⟩:=h
  let ⟨v,hv,d⟩:=l.get p
  refine⟨v,?_,d⟩
  simp only[part,db,KB b,dx,iF,bQ,tE,hv];rfl
def yC{f}{b sz}{g}{x}(h:nD f b sz g=ad x):∀a∈x.ak,a∈cp f:=by
 unfold nD at h;cases g with
 |true=>
  simp only[cd]at h
  split at h
  .simp only[aq]at h;subst h;exact λa d=>GB _ _ a<|Dr _ _ a d
  .simp at h
 |false=>
  simp only[iF,bQ,bS]at h
  obtain⟨c,i,rfl⟩:=h
  exact aie i
def Xl(a x d:au AV):au (AV×Pr):=match a with
 |some (.c<|.B b)=>match x,d with
  |some (.c<|.B p),ad (.c<|.B q)=>ad (.c<|.B<|cond b p q,.t)
  |some v,none=>ad (v,.tz b ae)
  |none,ad v=>ad (v,.tz b ah)
  |some v,ad (.c .any)=>ad (v,.tz b ae)
  |some (.c .any),ad v=>ad (v,.tz b ah)
  |_,_=>none
 |_=>none
def Qw(op:UnOp)(x:AV):au (AV×Pr):=match op,x with
 | .not,.c (.B b)=>ad (.c<|.B<|!b,.t)
 | .neg,.c (.I k n)=>ad (.c (num k<|0-n).1,(num k<|0-n).2)
 |_,_=>none
def Qx(d:TT)(a b:V)(x:AV):au (AV×Pr):=match ij a d,ij b d,x with
 |some _,ad f,.c (.I _ n)=>(match f.kind with
  | .int k=>ad (.c (num k n).1,(num k n).2)
  |_=>none)
 |_,_,_=>none
def Qy(d:TT)(t:V)(x:AV)(f:V):au AV:=match x,ij t d with
 | .a cs,ad b=>(match b.kind,b.fields[f]? with
  | .st,ad (off,sz,g)=>nD cs off sz g
  |_,_=>none)
 |_,_=>none
def KD(b:TT)(t:V)(x:AV)(f:V):au AV:=match ij t b with
 |some a=>(match a.kind,a.fields[f]? with
  | .st,ad (off,_,_)=>(match x with
   | .c (.P id o)=>ad<|.c<|.P id<|o+off
   | .c (.E T e o)=>ad<|.c<|.E T e<|o+off
   | .c (.Y id n i o)=>ad<|.c<|.Y id n i<|o+off
   |_=>none)
  |_,_=>none)
 |none=>none
def KE(x:AV)(k:V):au AV:=match x with
 | .t b=>(match b[k]? with
  |some (ae,cs)=>ad<|.a cs
  |some (ah,[c])=>ad<|.c c
  |_=>none)
 |_=>none
def wX(a:TT)(t:V)(n:V):Bool:=match ij t a with
 |some b=>(match b.kind with
  | .sl e=>(match ij e a with|some d=>d.size=n|none=>ah)
  |_=>ah)
 |none=>ah
def KF(a:TT)(t:V):au (V×V):=match ij t a with
 |some b=>(match b.kind with
  | .arr n e=>(match ij e a with
   |some d=>ad (n,d.size)
   |none=>none)
  |_=>none)
 |none=>none
def KG(a:TT)(t:V)(x i:AV):au (AV×Pr):=match x,i with
 | .c (.S T xs),.c (.I _ k)=>if wX a t T.n then ad (.c<|.E T (List.getD xs (af k) T.dG) 0,.and (.le 0 k)<|.lt k<|Z xs)else none
 | .c (.P id off),.c (.I _ k)=>(match KF a t with
  |some (n,sz)=>ad (.c<|.P id<|off+af k*sz,.and (.le 0 k)<|.lt k n)
  |none=>none)
 | .c (.E T e off),.c (.I _ k)=>(match KF a t with
  |some (n,sz)=>ad (.c<|.E T e<|off+af k*sz,.and (.le 0 k)<|.lt k n)
  |none=>none)
 |_,_=>none
def GC(a:TT)(t:V)(x:AV):au AV:=match ij t a with
 |some b=>(match b.kind with
  | .sl _=>(match x with
   | .c (.S _ xs)=>ad<|.c<|.I .i64<|Z xs
   | .c (.V<|.slice none 0 0)=>ad<|.c<|.I .i64 0
   | .c (.W _ _ len)=>ad<|.c<|.I .i64 len
   |_=>none)
  |_=>none)
 |none=>none
def KH(n:V):au AV->V->au (V×Pr)
 |none,d=>ad (d,.t)
 |some (.c<|.I _ k),_=>ad (af k,.and (.le 0 k)<|.le k n)
 |_,_=>none
def Qz(a:TT)(t:V)(x:AV)(b d:au AV):au (AV×Pr):=match x with
 | .c (.S T xs)=>if wX a t T.n then
   (match KH (Z xs) d (Z xs)with
   |some (h,p)=>(match KH h b 0 with
    |some (l,q)=>ad (.c<|.S T<|(M h xs).drop l,.and p q)
    |none=>none)
   |none=>none)
  else none
 |_=>none
def KI(d:Bool):E AV->au AV
 |[.c (.I k a),.c<|.I f b]=>if k=f then ad (.c<|.I k (if d then(if b>a then b else a)else(if b<a then b else a)))else none
 |_=>none
def yD(a:St):au Operand->au (au AV)
 |none=>ad none
 |some x=>(a.ev x).map ad
def tF(m:TT)(g:St):Op->au (AV×Pr)
 | .move x=>(match g.ev x with|some v=>ad (v,.t)|none=>none)
 | .assign x=>(match g.ev x with|some v=>ad (v,.t)|none=>none)
 | .pick o x n=>Xl (g.ev o) (g.ev x)<|g.ev n
 | .binOp op t x n _=>(match g.ev x,g.ev n with
  |some (.c a),ad (.c b)=>(match Dq m op t a b with|some (o,p)=>ad (.c o,p)|none=>none)
  |_,_=>none)
 | .unOp op _ x=>(match g.ev x with|some v=>Qw op v|none=>none)
 | .convert s d x=>(match g.ev x with|some v=>Qx m s d v|none=>none)
 | .field t x f=>(match g.ev x with|some v=>(match Qy m t v f with|some u=>ad (u,.t)|none=>none)|none=>none)
 | .fieldAddr t x f=>(match g.ev x with|some v=>(match KD m t v f with|some u=>ad (u,.t)|none=>none)|none=>none)
 | .extract x k=>(match g.ev x with|some v=>(match KE v k with|some u=>ad (u,.t)|none=>none)|none=>none)
 | .indexAddr t x i=>(match g.ev x,g.ev i with|some v,ad w=>KG m t v w|_,_=>none)
 | .slice t x H L none=>(match g.ev x,yD g H,yD g L with|some v,ad l,ad h=>Qz m t v l h|_,_,_=>none)
 | .call ⟨.builtin .len,args,B⟩=>(match args.toList,B.toList with
  |[x],[t]=>(match g.ev x with|some v=>(match GC m t v with|some u=>ad (u,.t)|none=>none)|none=>none)
  |_,_=>none)
 | .call ⟨.builtin .max,args,_⟩=>(match args.toList with
  |[x,n]=>(match g.ev x,g.ev n with|some v,ad w=>(match KI ae [v,w]with|some u=>ad (u,.t)|none=>none)|_,_=>none)
  |_=>none)
 | .call ⟨.builtin .min,args,_⟩=>(match args.toList with
  |[x,n]=>(match g.ev x,g.ev n with|some v,ad w=>(match KI ah [v,w]with|some u=>ad (u,.t)|none=>none)|_,_=>none)
  |_=>none)
 |_=>none
def ot(a:St)(op:Op):E (Key×Info):=op.operands.toList.flatMap<|cH a
section
variable{P:bI}{tt:TT}{g:Gh}{W:cx}
def aif{op:UnOp}{x}{b}{p}(h:Qw op x=ad (b,p))(i:p){v}(a:a8 g x v):(∃u,(Op.unary op v).run P W= .ok u W/\a8 g b u)/\∀f∈b.ak,f∈x.ak:=by
 unfold Qw at h;split at h
 .simp only[aq,bK]at h;obtain⟨rfl,rfl⟩:=h;simp only[a8,cN]at a;subst a;exact⟨⟨_,by simp[Op.unary,pure],J⟩,q9⟩
 .rename_i k n;simp only[aq,bK]at h;obtain⟨rfl,rfl⟩:=h;simp only[a8,cN]at a;subst a;refine⟨⟨.int k<|k.wrap<|0-n,by simp[Op.unary,Qv,pure],Dk k _ i g⟩,?_⟩;intro f d;cases k<;>simp[num,AV.ak,C.ak]at d
 .simp at h
def GD k n:(num k n).1.ak=[]:=by cases k<;>rfl
def aih(a:cq P tt=ae){s d}{x f}{p}(h:Qx tt s d x=ad (f,p))(o:p){v}(l:a8 g x v):(∃u,(convert s d v).run P W= .ok u W/\a8 g f u)/\f.ak=[]:=by
 unfold Qx at h;split at h
 .rename_i t H K n w B;split at h
  .rename_i k C;simp only[aq,bK]at h;obtain⟨rfl,rfl⟩:=h;simp only[a8,cN]at l;subst l;have m:=(eK a B).kind;rw[C]at m;have i:∃b,P.underlying s=ad b:=by
    have:=(eK a w).agg;unfold vr at this;cases hu:P.underlying s with
    |none=>rw[hu]at this;simp at this
    |some b=>exact⟨b,J⟩
   let ⟨b,i⟩:=i;refine⟨⟨.int k<|k.wrap n,?_,Dk k n o g⟩,GD k n⟩;simp only[convert,db,run_underlying i,run_underlying m,dx];cases b<;>rfl
  .simp at h
 .simp at h
def aii(k:cq P tt=ae){t f}{x l}(h:Qy tt t x f=ad l){v}(w:a8 g x v):(∃u,(Instr.field t v f).run P W= .ok u W/\a8 g l u)/\∀B∈l.ak,B∈x.ak:=by
 unfold Qy at h;split at h
 .rename_i c e C;split at h
  .rename_i H sz j K L;have s:=(eK k C).kind;rw[K]at s;let ⟨fs,hu,m⟩:=s;obtain⟨Q,n,rfl,⟨i,T,o⟩,_,p⟩:=KC m L;obtain⟨vs,rfl,X⟩:=w;let ⟨u,a,b⟩:=Xk (W:=W) X h p T o;refine⟨⟨u,?_,b⟩,yC h⟩;have d:fs[f]? =ad Q:=by simpa using n
   simp only[Instr.field,db,run_underlying hu,dx,d,asAgg];simpa using a
  .simp at h
 .simp at h
def lO b o n:(Addr.mk b o none).add n=⟨b,o+n,none⟩:=by
 unfold Addr.add;split
 .rename_i e;subst e;rfl
 .rfl
def aij(k:cq P tt=ae){t f}{x m}(h:KD tt t x f=ad m){v}(n:a8 g x v):(∃u,(Xm t v f).run P W= .ok u W/\a8 g m u)/\∀Q∈m.ak,Q∈x.ak:=by
 unfold KD at h;split at h
 .rename_i E T;split at h
  .rename_i X sz F e j;have K:=(eK k T).kind;rw[e]at K;let ⟨fs,hu,p⟩:=K;obtain⟨L,s,rfl,⟨i,q,w⟩,B,r⟩:=KC p j;have d:fs[f]? =ad L:=by simpa using s
   have a:∀b o,(Xm t (.pointer<|ad ⟨b,o,none⟩) f).run P W= .ok (.pointer<|ad ⟨b,o+L.offset,none⟩) W:=by intro b o;simp only[Xm,db,run_underlying hu,dx,d,GF,fieldPlace,run_sizeOf q];simp[w,B,lO]
   split at h
   .simp only[aq]at h;subst h;obtain⟨b,H,rfl⟩:=n;exact⟨⟨_,a _ _,b,H,J⟩,q9⟩
   .simp only[aq]at h;subst h;obtain⟨b,o,z,rfl,A,D⟩:=n;exact⟨⟨_,a _ _,b,o,z,by simp[q'],A,D⟩,q9⟩
   .simp only[aq]at h;subst h;obtain⟨b,l,c,H,rfl⟩:=n;exact⟨⟨_,a _ _,b,l,c,H,by simp[q']⟩,q9⟩
   .simp at h
  .simp at h
 .simp at h
def du.get{g:Gh}:∀{b:E (Bool×E C)}{vs:E aR},du g b vs->∀{k:V}{s:Bool×E C},b[k]? =ad s->∃v,vs[k]? =ad v/\AI g s v
 |[],_,_,_,_,h=>by simp at h
 |_::_,_,a,0,d,h=>by obtain⟨v,r,rfl,f,_⟩:=a;simp at h;subst h;exact⟨v,ax,f⟩
 |_::_,_,a,k+1,d,h=>by obtain⟨v,r,rfl,_,i⟩:=a;simp at h;let ⟨u,h3,l⟩:=du.get i h;exact⟨u,AR,l⟩
def Xn{b}{k:V}{i}(h:b[k]? =ad i):∀f∈cp i.2,f∈eG b:=by
 induction b generalizing k with
 |nil=>simp at h
 |cons d b l=>cases k with
  |zero=>simp at h;subst h;intro f a;simp[eG,a]
  |succ k=>simp at h;intro f a;simp only[eG,be];exact .inr<|l h f a
def aik{x d}{k}(h:KE x k=ad d){v}(m:a8 g x v):(∃u,(Xo v k).run P W= .ok u W/\a8 g d u)/\∀f∈d.ak,f∈x.ak:=by
 unfold KE at h;split at h
 .rename_i n;obtain⟨vs,rfl,l⟩:=m;split at h
  .rename_i o b;simp only[aq]at h;subst h;let ⟨u,hu,a⟩:=l.get b;exact⟨⟨u,by simp[Xo,hu,pure],a⟩,Xn b⟩
  .rename_i c b;simp only[aq]at h;subst h;let ⟨u,hu,a⟩:=l.get b;exact⟨⟨u,by simp[Xo,hu,pure],a⟩,λf i=>Xn b f<|by simp[cp];exact i⟩
  .simp at h
 .simp at h
def Ds(a:cq P tt=ae){t n}(h:wX tt t n=ae):∃b i,P.underlying t=ad (.slice b)/\P.info? b=ad i/\i.size=n:=by
 unfold wX at h;split at h
 .rename_i p f;split at h
  .rename_i b k;split at h
   .rename_i s l;have d:=(eK a f).kind;rw[k]at d;let ⟨i,m,o,_⟩:=(eK a l).info;exact⟨b,i,d,m,by rw[o];simpa using h⟩
   .simp at h
  .simp at h
 .simp at h
def Xp(a:cq P tt=ae){t n sz}(h:KF tt t=ad (n,sz)):∃b i,P.underlying t=ad (.array n b)/\P.info? b=ad i/\i.size=sz:=by
 unfold KF at h;split at h
 .rename_i p f;split at h
  .rename_i s b k;split at h
   .rename_i u l;cases h;have d:=(eK a f).kind;rw[k]at d;let ⟨i,m,o,_⟩:=(eK a l).info;exact⟨b,i,d,m,o⟩
   .simp at h
  .simp at h
 .simp at h
def ail(m:cq P tt=ae){t}{x i L}{p}(h:KG tt t x i=ad (L,p))(Q:p){v u}(hv:a8 g x v)(w:a8 g i u):(∃fw,(AS t v u).run P W= .ok fw W/\a8 g L fw)/\∀B∈L.ak,B∈x.ak:=by
 unfold KG at h;split at h
 .rename_i T xs D k;split at h
  .rename_i X;simp only[aq,bK]at h;obtain⟨rfl,rfl⟩:=h;let ⟨e,i,l,C,H⟩:=Ds m X;simp only[a8,cN]at w;subst w;obtain⟨a,I,rfl,E,F,K⟩:=hv;let ⟨c,q⟩:=(show 0<=k/\k<(Z xs:Y)from Q);have s:af k<Z xs:=G;rcases K with K|⟨b,f,rfl,K⟩
   .subst K;simp at s
   .let ⟨r,hl,M,hc⟩:=K (af k) s;refine⟨⟨.pointer<|ad ⟨b,f+af k*T.n,none⟩,?_,b,f+af k*T.n,r,J,?_,?_⟩,λB a6=>wY⟩
    .have d:(0<=k/\k<(Z xs:Y)):=⟨c,q⟩;simp only[AS,asIntOf,db,run_underlying l,dx];simp[d,run_sizeOf C,H,lO]
    .rw[aN,cO s];exact M
    .intro j N;have:=hc j N;rw[this]
  .simp at h
 .rename_i B f D k;split at h
  .rename_i n sz A;simp only[aq,bK]at h;obtain⟨rfl,rfl⟩:=h;let ⟨e,i,l,C,H⟩:=Xp m A;simp only[a8,cN]at w;subst w;obtain⟨b,O,rfl⟩:=hv;have d:0<=k/\k<(n:Y):=Q;refine⟨⟨.pointer<|ad ⟨b,f+af k*sz,none⟩,?_,b,O,J⟩,λB a6=>a6⟩;simp only[AS,GF,asIntOf,db,AT,run_underlying l,dx];simp[d,run_sizeOf C,H,lO]
  .simp at h
 .rename_i T R f D k;split at h
  .rename_i n sz A;simp only[aq,bK]at h;obtain⟨rfl,rfl⟩:=h;let ⟨e,i,l,C,H⟩:=Xp m A;simp only[a8,cN]at w;subst w;obtain⟨b,o,r,rfl,E,F⟩:=hv;have d:0<=k/\k<(n:Y):=Q;refine⟨⟨.pointer<|ad ⟨b,o+(f+af k*sz),none⟩,?_,b,o,r,J,E,F⟩,λB a6=>a6⟩;simp only[AS,GF,asIntOf,db,AT,run_underlying l,dx];simp[d,run_sizeOf C,H,lO,q']
  .simp at h
 .simp at h
def aim(f:cq P tt=ae){t r:V}{x i}(h:GC tt t x=ad i){v}(d:a8 g x v):(∃u,(Xq #[t] r #[v]).run P W= .ok u W/\a8 g i u)/\i.ak=[]:=by
 unfold GC at h;split at h
 .rename_i n k;split at h
  .rename_i e l;have h2:=(eK f k).kind;rw[l]at h2;split at h
   .rename_i T xs;simp only[aq]at h;subst h;obtain⟨a,m,rfl,_⟩:=d;exact⟨⟨_,KJ,J⟩,J⟩
   .simp only[aq]at h;subst h;simp only[a8,cN]at d;subst d;exact⟨⟨_,KJ,J⟩,J⟩
   .simp only[aq]at h;subst h;obtain⟨b,c,_,rfl,_⟩:=d;exact⟨⟨_,KJ,J⟩,J⟩
   .simp at h
  .simp at h
 .simp at h
def Xr{d}{l}{f}(h:KI d l=ad f){v w}{i m}(n:l=[i,m])(o:a8 g i v)(p:a8 g m w) t s:
  (∃u,(if d then Builtin.max_ t s #[v,w]else Builtin.min_ t s #[v,w]).run P W= .ok u W/\a8 g f u)/\f.ak=[]:=by
 unfold KI at h
 split at h
 .rename_i k a x b;split at h
  .rename_i e;subst e;simp only[aq]at h;subst h;simp only[KK,and_true]at n;obtain⟨rfl,rfl⟩:=n;simp only[a8,cN]at o p;subst o p;cases d
   .exact⟨⟨_,by simp[Builtin.min_,Builtin.min2,ll,pure],J⟩,J⟩
   .exact⟨⟨_,by simp[Builtin.max_,Builtin.max2,ll,pure],J⟩,J⟩
  .simp at h
 .simp at h
end
section
variable{P:bI}{tt:TT}{g:Gh}{W:cx}
def yE(g:Gh):au AV->au aR->Prop
 |none,none=>True
 |some a,ad u=>a8 g a u
 |_,_=>False
def Xs{op:BinOp}{t}{x f d}{p}(h:Dq tt op t x f=ad (d,p)):d.ak=[]:=by
 cases x<;>cases f<;>simp only[Dq,KA,reduceCtorEq]at h;case B.B a b=>
  split at h
  .cases op<;>simp only[aq,bK,reduceCtorEq]at h;all_goals (obtain⟨rfl,_⟩:=h;rfl)
  .simp at h
 case I.I k a l b=>
  have i:∀op,GA op k a b=ad (d,p)->d.ak=[]:=by
   intro op h;cases op<;>simp only[GA,aq,reduceCtorEq]at h;case add=>have:=bh Prod.fst h;simp only at this;rw[<-this];exact GD _ _
   case sub=>have:=bh Prod.fst h;simp only at this;rw[<-this];exact GD _ _
   case mul=>have:=bh Prod.fst h;simp only at this;rw[<-this];exact GD _ _
   all_goals
    simp only[bK]at h
    obtain⟨rfl,_⟩:=h
    first|rfl|exact GD _ _
  cases op
  case shl=>simp only[Dm,aq,bK]at h;obtain⟨rfl,_⟩:=h;rfl
  case shr=>simp only[Dm,aq,bK]at h;obtain⟨rfl,_⟩:=h;rfl
  all_goals
   simp only at h
   split at h
   .exact i _ h
   .simp at h
def QA{n}{x}{d h}{p}(a:KH n x d=ad (h,p))(l:p){v}(b:yE g x v)
 m (s:n<=m) (code:BoundsCode):
  (x=none/\v=none/\h=d)\/(∃u,v=ad u/\h<=n/\(QB u m code).run P W= .ok h W):=by
 unfold KH at a
 split at a
 .simp only[aq,bK]at a;cases v with
  |none=>exact .inl ⟨J,J,a.1.symm⟩
  |some u=>exact b.elim
 .rename_i o k;simp only[aq,bK]at a;obtain⟨rfl,rfl⟩:=a;cases v with
  |none=>exact b.elim
  |some u=>
   have f:u= .int o k:=b
   subst f
   have i:0<=k/\k<=(n:Y):=l
   refine .inr ⟨_,J,G,?_⟩
   have:0<=k/\k<=(m:Y):=⟨i.1,G⟩
   simp[QB,asIntOf,this,ll,pure]
 .simp at a
def lK.sub{s:Type}{o:s->E aR->Prop}{n}{H}{xs}{a}{d}(h:lK o n H xs (.slice a (Z xs) d)){l k}(x:l<=k)(t:k<=Z xs):
  lK o n H ((M k xs).drop l) (.slice (if d=l then a else a.map (·.add (l*n))) (k-l)<|d-l):=by
 let ⟨B,p,e,C,u,m⟩:=h
 simp only[Xt,true_and]at e
 obtain⟨rfl,rfl⟩:=e
 have f:Z ((M k xs).drop l)=k-l:=bX
 refine⟨_,d-l,by rw[f],G,?_,?_⟩
 .rw[f];exact b6 (et n G) u
 .by_cases K:k=l
  .left;apply gK;omega
  .right;rcases m with m|⟨b,off,rfl,m⟩
   .subst m;simp at t;omega
   .refine⟨b,off+l*n,?_,λi L=>?_⟩
    .rw[y G];simp[lO]
    .let ⟨cs,hl,v,hc⟩:=m (l+i) G;refine⟨cs,hl,?_,λj w=>?_⟩
     .simpa using v
     .have:=hc j w;rw[(GG:off+l*n+i*n+j=off+(l+i)*n+j)];exact this
def ain(o:cq P tt=ae){t}{x s}{lo hi}{p}(h:Qz tt t x lo hi=ad (s,p))(hp:p){v}{w B}(hv:a8 g x v)
  (hl:yE g lo w) (hh:yE g hi B):
  (∃fw,(Instr.sliceAt t v w B none).run P W= .ok fw W/\a8 g s fw)/\s.ak=[]:=by
 unfold Qz at h
 split at h
 .rename_i T xs;split at h
  .rename_i C;let ⟨e,i,H,K,A⟩:=Ds o C;split at h
   .rename_i b G L;split at h
    .rename_i l I Q;simp only[aq,bK]at h;obtain⟨rfl,rfl⟩:=h;let ⟨X,c⟩:=hp;have j:=hv;obtain⟨a,k,rfl,D,M,N⟩:=j;have d:=QA (P:=P) (W:=W) L X hh k D<|.sliceAcap;have q:b<=Z xs:=by rcases d with⟨_,_,e⟩|⟨_,_,h,_⟩<;>omega
     have f:=QA (P:=P) (W:=W) Q c hl b (aT _)<|.sliceB;have m:l<=b:=by rcases f with⟨_,_,e⟩|⟨_,_,h,_⟩<;>omega
     have n:=lK.sub hv m q;refine⟨⟨_,?_,n⟩,J⟩;have r:(wZ ae (Z xs) k w B none).run P W= .ok (l,b,k) W:=by rcases d with⟨_,rfl,rfl⟩|⟨u,rfl,_,E⟩<;>rcases f with⟨_,rfl,rfl⟩|⟨O,rfl,_,F⟩<;>simp[wZ, *]
     simp only[Instr.sliceAt,db,run_underlying H,dx,Instr.slice,r,run_sizeOf K,A];rfl
    .simp at h
   .simp at h
  .simp at h
 .simp at h
def GH{k}{b:V->Prop}{f}{a}(h:aJ k b f g W a) st x v(d:yD st x=ad v)
  (l:∀o,x=ad o->∀i∈cH st o,f i.1=ad i.2):yE g v (x.map a.eval):=by
 cases x with
 |none=>simp only[yD,aq]at d;subst d;trivial
 |some o=>
  simp only[yD,bS]at d
  obtain⟨u,m,rfl⟩:=d
  exact dq h st o u m<|l o J
def KL(b7:cq P tt=ae){ops}{i}{o:aX}{d:V}(ho:ops[i]? =ad o)(hg:o.guard=none)(hd:o.dst=ad d){n}(df:d<n)
 {st}{x}{p}(m:tF tt st o.op=ad (x,p)) (hp:p) new:ig P n ops i (ot st o.op) [(.s d,ad<|.v x)] new:=by
 refine sB ho hg hd df _ x new ?_
 intro F G Y g W a e S
 have H:∀y∈o.op.operands,∀u,st.ev y=ad u->a8 g u (a.eval y)/\∀T∈u.ak,G T:=by
  intro y A u X;have Z:∀E∈cH st y,Y E.1=ad E.2:=λE I=>S E<|iV.2 ⟨y,by simpa using A,I⟩
  exact⟨dq e st y u X Z,q8 e st y u X Z⟩
 have M:∀y∈o.op.operands,∀E∈cH st y,Y E.1=ad E.2:=λy A E I=>S E<|iV.2 ⟨y,by simpa using A,I⟩
 let ⟨od,op,N,avi,avj,ogd⟩:=o
 simp only at m H M
 unfold tF at m
 split at m
 .rename_i y;split at m
  .rename_i v L;simp only[aq,bK]at m;obtain⟨rfl,rfl⟩:=m;have:=H y gU _ L;exact⟨this.2,_,by simp[execOp,pure],this.1⟩
  .simp at m
 .rename_i y;split at m
  .rename_i v L;simp only[aq,bK]at m;obtain⟨rfl,rfl⟩:=m;have:=H y gU _ L;exact⟨this.2,_,by simp[execOp,pure],this.1⟩
  .simp at m
 .rename_i c y z;unfold Xl at m;split at m
  .rename_i b hb;have w5:=(H c gU _ hb).1;simp only[a8,cN]at w5;split at m
   .rename_i p1 q1 A O;simp only[aq,bK]at m;obtain⟨rfl,rfl⟩:=m;have K:=(H y gU _ A).1;have j:=(H z gU _ O).1;simp only[a8,cN]at K j;refine⟨q9,.bool<|cond b p1 q1,?_,J⟩;cases b<;>simp[execOp,w5,asBool,K,j,ll,pure]
   .rename_i v A O;simp only[aq,bK]at m;obtain⟨rfl,rfl⟩:=m;have K:=H y gU _ A;simp only[Pr.h]at hp;subst hp;exact⟨K.2,_,KM,K.1⟩
   .rename_i v A O;simp only[aq,bK]at m;obtain⟨rfl,rfl⟩:=m;have K:=H z gU _ O;simp only[Pr.h]at hp;subst hp;exact⟨K.2,_,KM,K.1⟩
   .rename_i v A O;simp only[aq,bK]at m;obtain⟨rfl,rfl⟩:=m;have K:=H y gU _ A;simp only[Pr.h]at hp;subst hp;exact⟨K.2,_,KM,K.1⟩
   .rename_i v A O;simp only[aq,bK]at m;obtain⟨rfl,rfl⟩:=m;have K:=H z gU _ O;simp only[Pr.h]at hp;subst hp;exact⟨K.2,_,KM,K.1⟩
   .simp at m
  .simp at m
 .rename_i op t y z _;split at m
  .rename_i u w X R;split at m
   .rename_i c q hc;simp only[aq,bK]at m;obtain⟨rfl,rfl⟩:=m;have K:=(H y gU _ X).1;have j:=(H z gU _ R).1;let ⟨v,iW,B⟩:=aid (P:=P) b7 hc hp g K j W y z;refine⟨?_,v,?_,B⟩
    .intro T a6;simp only[AV.ak,Xs hc]at a6;cases a6
    .simp only[execOp,db];rw[db]at iW;simp only[iW];simp[dx,pure]
   .simp at m
  .simp at m
 .rename_i op t y;split at m
  .rename_i v L;have K:=H y gU _ L;let ⟨⟨u,iW,B⟩,hm⟩:=aif (P:=P) (W:=W) m hp K.1;exact⟨λT a6=>K.2 T<|hm T a6,u,AU,B⟩
  .simp at m
 .rename_i s d' y;split at m
  .rename_i v L;have K:=H y gU _ L;let ⟨⟨u,iW,B⟩,hm⟩:=aih (P:=P) (W:=W) b7 m hp K.1;exact⟨λT a6=>yF,u,AU,B⟩
  .simp at m
 .rename_i t y f;split at m
  .rename_i v L;split at m
   .rename_i u X;simp only[aq,bK]at m;obtain⟨rfl,rfl⟩:=m;have K:=H y gU _ L;let ⟨⟨u,iW,B⟩,hm⟩:=aii (P:=P) (W:=W) b7 X K.1;exact⟨λT a6=>K.2 T<|hm T a6,u,AU,B⟩
   .simp at m
  .simp at m
 .rename_i t y f;split at m
  .rename_i v L;split at m
   .rename_i u X;simp only[aq,bK]at m;obtain⟨rfl,rfl⟩:=m;have K:=H y gU _ L;let ⟨⟨u,iW,B⟩,hm⟩:=aij (P:=P) (W:=W) b7 X K.1;exact⟨λT a6=>K.2 T<|hm T a6,u,AU,B⟩
   .simp at m
  .simp at m
 .rename_i y k;split at m
  .rename_i v L;split at m
   .rename_i u X;simp only[aq,bK]at m;obtain⟨rfl,rfl⟩:=m;have K:=H y gU _ L;let ⟨⟨u,iW,B⟩,hm⟩:=aik (P:=P) (W:=W) X K.1;exact⟨λT a6=>K.2 T<|hm T a6,u,AU,B⟩
   .simp at m
  .simp at m
 .rename_i t y z;split at m
  .rename_i v w L R;have K:=H y gU _ L;have j:=H z gU _ R;let ⟨⟨u,iW,B⟩,hm⟩:=ail (P:=P) (W:=W) b7 m hp K.1 j.1;exact⟨λT a6=>K.2 T<|hm T a6,u,AU,B⟩
  .simp at m
 .rename_i t y lo hi;split at m
  .rename_i v l h L hl hh;have K:=H y gU _ L;have j:=GH e st lo l hl<|λq hq=>M q GJ;have h3:=GH e st hi h hh<|λq hq=>M q GJ;let ⟨⟨u,iW,B⟩,hm⟩:=ain (P:=P) (W:=W) b7 m hp K.1 j h3;exact⟨λT a6=>yF,u,AU,B⟩
  .simp at m
 .rename_i args D;split at m
  .rename_i y t ha ht;have Q:args= #[y]:=GK;have U:D= #[t]:=QC;subst Q U;split at m
   .rename_i v L;split at m
    .rename_i u X;simp only[aq,bK]at m;obtain⟨rfl,rfl⟩:=m;have K:=H y Dt _ L;let ⟨⟨u,iW,B⟩,hm⟩:=aim (P:=P) (W:=W) (r:=N) b7 X K.1;exact⟨λT a6=>yF,u,QD,B⟩
    .simp at m
   .simp at m
  .simp at m
 .rename_i args D;split at m
  .rename_i y z ha;have Q:args= #[y,z]:=GK;subst Q;split at m
   .rename_i v w L R;split at m
    .rename_i u X;simp only[aq,bK]at m;obtain⟨rfl,rfl⟩:=m;have K:=H y Dt _ L;have j:=H z Dt _ R;let ⟨⟨u,iW,B⟩,hm⟩:=Xr (P:=P) (W:=W) X J K.1 j.1 D N;simp only[cd]at iW;exact⟨λT a6=>yF,u,QD,B⟩
    .simp at m
   .simp at m
  .simp at m
 .rename_i args D;split at m
  .rename_i y z ha;have Q:args= #[y,z]:=GK;subst Q;split at m
   .rename_i v w L R;split at m
    .rename_i u X;simp only[aq,bK]at m;obtain⟨rfl,rfl⟩:=m;have K:=H y Dt _ L;have j:=H z Dt _ R;let ⟨⟨u,iW,B⟩,hm⟩:=Xr (P:=P) (W:=W) X J K.1 j.1 D N;simp only[iF,bQ]at iW;exact⟨λT a6=>yF,u,QD,B⟩
    .simp at m
   .simp at m
  .simp at m
 .simp at m
end
section
variable{P:bI}{tt:TT}{g:Gh}{W:cx}
def run_load{a:Addr}{v}(h:W.cell? a=ad v):(load a).run P W= .ok v W:=by simp[load,ll,h]
def run_loadCellsFrom(b:V):∀(n i a:V)(vs:E aR)(d:Array aR),Z vs=n->(∀f(k:f<Z vs),W.cell? ⟨b,a+i+f,none⟩=ad vs[f])->
  (loadCellsFrom ⟨b,a,none⟩ i n d).run P W= .ok (d++vs.toArray) W
 |0,i,a,vs,d,hl,_=>by have:vs=[]:=gK hl;subst this;simp[loadCellsFrom,pure]
 |n+1,i,a,[],d,hl,_=>by simp at hl
 |n+1,i,a,v::vs,d,hl,hc=>by have h:=hc 0 ax;simp only[jv,vw]at h;have l:=run_loadCellsFrom b n (i+1) a vs (d.push v) tG (λf k=>by have:=hc (f+1) bX;simp only[AW]at this;rw[(G:a+(i+1)+f=a+i+(f+1))];exact this);simp only[loadCellsFrom,lO,db,run_load h,dx,l];congr 1;apply Du;simp
def aio{t}{a}(d:vr P t=ad a){i:TypeInfo}(m:P.info? t=ad i) b off vs(k:Z vs=i.size)(f:a=ah->i.size=1)
  (l:∀h(o:h<Z vs),W.cell? ⟨b,off+h,none⟩=ad vs[h]):∃v,(loadVar t ⟨b,off,none⟩).run P W= .ok v W/\((a=ae/\v= .agg vs.toArray)\/(a=ah/\vs=[v])):=by
 cases a with
 |true=>
  refine⟨.agg vs.toArray,?_,.inl ⟨J,J⟩⟩
  simp only[loadVar,db,KB d,dx,cd,run_sizeOf m,loadCells]
  rw[run_loadCellsFrom b i.size 0 off vs #[] k (by simpa using l)]
  simp[pure]
 |false=>
  have n:Z vs=1:=by rw[k];exact f J
  match vs,n with
  |[v],_=>
   refine⟨v,?_,.inr ⟨J,J⟩⟩
   have:=l 0 ax
   simp only[jv,vw]at this
   simp only[loadVar,db,KB d,dx,iF,bQ,run_load this]
def ou(tt:TT)(t:V):au (V×Bool):=match ij t tt with
 |some a=>if a.agg then ad (a.size,ae)else if a.size=1 then ad (1,ah)else none
 |none=>none
def GL(a:cq P tt=ae){t sz}{b}(h:ou tt t=ad (sz,b)):vr P t=ad b/\(∃i,P.info? t=ad i/\i.size=sz)/\(b=ah->sz=1):=by
 unfold ou at h;split at h
 .rename_i o m;have d:=eK a m;let ⟨i,k,l,_⟩:=d.info;split at h
  .rename_i f;simp only[aq,bK]at h;obtain⟨rfl,rfl⟩:=h;exact⟨by rw[d.agg,f],⟨i,k,l⟩,ax⟩
  .rename_i f;split at h
   .rename_i n;simp only[aq,bK]at h;obtain⟨rfl,rfl⟩:=h;exact⟨by rw[d.agg];simpa using f,⟨i,k,by rw[l];exact n⟩,λ_=>rfl⟩
   .simp at h
 .simp at h
def GM(w:cq P tt=ae){t sz}{s}(h:ou tt t=ad (sz,s)){B}{vs}(H:aY g B vs){a}{x}(d:nD B a sz s=ad x)
 b o (hc:∀k(Q:k<Z vs),W.cell? ⟨b,o+k,none⟩=ad vs[k]):∃v,(Xu t<|.pointer<|ad ⟨b,o+a,none⟩).run P W= .ok v W/\a8 g x v:=by
 let ⟨C,⟨i,X,e⟩,f⟩:=GL w h
 have T:=H.length
 have K:a+sz<=Z B:=by
  unfold nD at d;cases s with
  |true=>simp only[cd]at d;split at d<;>simp_all
  |false=>
   simp only[iF,bQ,bS]at d
   let ⟨c,l,_⟩:=d
   have:=(pS.1 l).1
   have:=f J
   omega
 let ⟨v,n,m⟩:=aio (W:=W) C X b (o+a) ((ay a vs).take sz) bX (by rw[e];exact f) (λk Q=>by simp at Q;have:=hc (a+k) G;simp only[rf,tH];rw[(G:o+a+k=o+(a+k))];exact this)
 refine⟨v,by simpa[Xu,GF]using n,?_⟩
 unfold nD at d
 cases s with
 |true=>
  simp only[cd]at d
  split at d
  .simp only[aq]at d;subst d;rcases m with⟨_,rfl⟩|⟨L,_⟩
   .exact⟨_,J,(H.drop a).take sz⟩
   .simp at L
  .rename_i q;exact absurd K q
 |false=>
  simp only[iF,bQ,bS]at d
  obtain⟨c,l,rfl⟩:=d
  rcases m with⟨L,_⟩|⟨_,m⟩
  .simp at L
  .let ⟨u,hu,p⟩:=H.get l;have r:=f J;subst r;have:(ay a vs).take 1=[u]:=by rw[List.take_one,List.head?_drop,hu];rfl
   rw[this]at m;simp only[KK,and_true]at m;subst m;exact p
def GN(tt:TT)(b:St)(t:V)(x:AV):au (AV×Pr×E V):=match ou tt t with
 |some (sz,a)=>(match x with
  | .c (.P id off)=>(match ij id b.mem with
   |some (.box _ _ cs)=>(match nD cs off sz a with|some y=>ad (y,.t,[id])|none=>none)
   |some (.fz _ cs)=>(match nD cs off sz a with|some y=>ad (y,.t,[id])|none=>none)
   |_=>none)
  | .c (.E T e off)=>(match nD (av T e) off sz a with|some y=>ad (y,.t,[])|none=>none)
  | .c (.Y id n i off)=>(match ij id b.mem with
   |some (.vec _ T xs)=>if T.n=n then(match nD (av T<|List.getD xs i T.dG) off sz a with|some y=>ad (y,.AQ i<|Z xs,[id])|none=>none)else none
   |_=>none)
  |_=>none)
 |none=>none
def fM(f:St)(a:E V):E (Key×Info):=a.flatMap λd=>match ij d f.mem with
 |some b=>[(.m d,.b b)]
 |none=>[]
def vz{b}{vs}{d}{f}(h:W.heap[b]? =ad (.cells vs.toArray d f)) a(i:a<Z vs):W.cell? ⟨b,a,none⟩=ad vs[a]:=by simp[GO,h,i]
def GP:∀(T:ET)(x:T.den),cp (av T x)=[]
 | .int _,_=>rfl
 | .bool,_=>rfl
 | .z,_=>rfl
 | .q,_=>rfl
 | .sl _,_=>rfl
 | .pr i B,x=>by
  have h:∀(a b:E C),cp a=[]->cp b=[]->cp (a++b)=[]:=by
   intro a;induction a with
   |nil=>intro b _ d;exact d
   |cons c a k=>
    intro b f d
    simp only[cp,QE]at f
    simp only[ln,cp,QE]
    exact⟨f.1,k b f.2 d⟩
  exact h _ _ (GP i x.1)<|GP B x.2
def Xv(b7:cq P tt=ae){ops}{i}{o:aX}{d:V}(ho:ops[i]? =ad o)(hg:o.guard=none)(hd:o.dst=ad d){n}(df:d<n){t}{x}(bO:o.op= .load t x)
 {st}{v bN}{p}{ids:E V} (hx:st.ev x=ad v) (B:GN tt st t v=ad (bN,p,ids)) (hp:p) (new:V):
  ig P n ops i (cH st x++fM st ids) [(.s d,ad<|.v bN)] new:=by
 refine sB ho hg hd df _ bN new ?_
 intro F known σ g W a C M
 have X:=dq C st x v hx<|λkx cc=>M kx<|eH _ cc
 have r:∀q∈ids,∀b,ij q st.mem=ad b->σ (.m q)=ad (.b b):=by intro q a6 b hb;exact M (.m q,.b b)<|gI _<|iV.2 ⟨q,a6,by simp[hb]⟩
 have K:execOp a.eval o=(do pure (.value<|<-Xu t (a.eval x))):=vC
 unfold GN at B
 split at B
 .rename_i sz ag I;split at B
  .rename_i q N;split at B
   .rename_i aU bz cs O;split at B
    .rename_i z A;simp only[aq,bK]at B;obtain⟨rfl,rfl,rfl⟩:=B;have Q:=r q ax _ O;let ⟨b,vs,rest,D,R,S,_,_⟩:=C.cA q _ Q;let ⟨b',f,hv⟩:=X;rw[D]at f;simp only[aq]at f;subst f;let ⟨u,w,hu⟩:=GM (W:=W) b7 I S A b 0 (λj J=>by have:=vz R j bX;rw[w6 J]at this;simpa using this);refine⟨λL H=>C.ak _ _ Q L<|yC A L H,u,?_,hu⟩;rw[K,hv];simp only[eP]at w;simp[w,ll,pure]
    .simp at B
   .rename_i aU cs O;split at B
    .rename_i z A;simp only[aq,bK]at B;obtain⟨rfl,rfl,rfl⟩:=B;have Q:=r q ax _ O;let ⟨b,vs,rest,D,R,S,_⟩:=C.cA q _ Q;let ⟨b',f,hv⟩:=X;rw[D]at f;simp only[aq]at f;subst f;let ⟨u,w,hu⟩:=GM (W:=W) b7 I S A b 0 (λj J=>by have:=vz R j bX;rw[w6 J]at this;simpa using this);refine⟨λL H=>C.ak _ _ Q L<|yC A L H,u,?_,hu⟩;rw[K,hv];simp only[eP]at w;simp[w,ll,pure]
    .simp at B
   .simp at B
  .rename_i T e N;split at B
   .rename_i z A;simp only[aq,bK]at B;obtain⟨rfl,rfl,rfl⟩:=B;let ⟨b,o',cs,hv,U,hc⟩:=X;let ⟨u,w,hu⟩:=GM (W:=W) b7 I (AJ T e cs U) A b o'<|λj J=>C.sub _ _ _<|hc j J;refine⟨λL H=>?_,u,?_,hu⟩
    .have:=yC A L H;rw[GP]at this;cases this
    .rw[K,hv];simp[w,ll,pure]
   .simp at B
  .rename_i q m k N;split at B
   .rename_i aU T xs O;split at B
    .rename_i pT;split at B
     .rename_i z A;simp only[aq,bK]at B;obtain⟨rfl,rfl,rfl⟩:=B;have Q:=r q ax _ O;let ⟨b',l,c,f,hv⟩:=X;rcases C.cA q _ Q with⟨_,h0⟩|⟨b,cap,vs,D,R,hlen,hle,_,S,_,_⟩
      .subst h0;simp[Pr.h]at hp
      .rw[D]at f;simp only[Xt,aq,Addr.mk.injEq,and_true]at f;obtain⟨rfl,_,_⟩:=f;have hp:k<Z xs:=hp;have Y:=S k hp;rw[show xs[k]=List.getD xs k T.dG by rw[aN,cO hp];rfl]at Y;have yG:(k+1)*T.n<=cap*T.n:=et _ G;rw[gy,iG]at yG;have avl:Z ((ay (k*T.n) vs).take T.n)=T.n:=bX;let ⟨u,w,hu⟩:=GM (W:=W) b7 I (AJ T _ _ Y) A b (k*T.n) (λj J=>by have:=vz R (k*T.n+j) G;simp only[rf,tH];exact this);refine⟨λL H=>?_,u,?_,hu⟩
       .have:=yC A L H;rw[GP]at this;cases this
       .rw[K,hv,<-pT];simp[w,ll,pure]
     .simp at B
    .simp at B
   .simp at B
  .simp at B
 .simp at B
end
section
variable{P:bI}{tt:TT}{g:Gh}{W:cx}
def nE:aR->Bool
 | .agg _=>ah
 | .tuple _=>ah
 |_=>ae
def kd:C->Bool
 | .any=>ah
 | .V v=>nE v
 | .M _=>ah
 | .X _=>ah
 |_=>ae
def Xw{f}{v}(h:kd f=ae)(d:cN g f v):nE v=ae:=by
 cases f with
 |any=>simp[kd]at h
 |B b=>simp only[cN]at d;subst d;rfl
 |I k n=>simp only[cN]at d;subst d;rfl
 |V u=>simp only[cN]at d;subst d;exact h
 |S T xs=>obtain⟨a,p,rfl,_⟩:=d;rfl
 |P id off=>obtain⟨b,_,rfl⟩:=d;rfl
 |X id=>simp[kd]at h
 |Y id n i off=>obtain⟨b,l,f,_,rfl⟩:=d;rfl
 |E T x off=>obtain⟨b,o,s,rfl,_⟩:=d;rfl
 |M m=>simp[kd]at h
 |L id off len p=>
  cases p with
  |some f=>obtain⟨b,_,rfl⟩:=d;rfl
  |none=>obtain⟨_,b,f,_,rfl,_⟩:=d;rfl
 |W id off len=>obtain⟨b,f,_,rfl,_⟩:=d;rfl
def iH(W:cx)(b:V)(vs:E aR)(a:dH):cx:={W with heap:=W.heap.setIfInBounds b<|.cells vs.toArray a (0,0)}
def Dv{b}{vs}{a}(h:b<W.heap.size):(iH W b vs a).heap[b]? =ad (.cells vs.toArray a (0,0)):=by simp[iH,h]
def w7{b k}{vs}{a}(h:b≠k):(iH W b vs a).heap[k]? =W.heap[k]? :=by simp[iH,kH h]
def aip{b j}{vs}{a}(h:W.heap[b]? =ad (.cells vs.toArray a (0,0)))(f:j<Z vs){v}(i:nE v=ae):
  (store ⟨b,j,none⟩ v).run P W= .ok () (iH W b (vs.set j v) a):=by
 have l:b<W.heap.size:=(fb.1 h).1
 have m:W.cell? ⟨b,j,none⟩=ad vs[j]:=vz h j f
 have n:W.frozen? ⟨b,j,none⟩=ah:=by simp[World.frozen?,h]
 have o:W.setCell ⟨b,j,none⟩ v=iH W b (vs.set j v) a:=by
  unfold World.setCell iH;congr 1;apply aiq;intro k;rw[Array.getElem?_modify,air];have d:W.heap[b]= .cells vs.toArray a (0,0):=(fb.1 h).2;by_cases e:b=k
  .subst e;simp[l,d]
  .simp[e]
 cases v<;>simp[store,ll,m,n,o]<;>simp[nE]at i
def ais{b}{vs a}{f d}:iH (iH W b vs f) b a d=iH W b a d:=by simp[iH]
def ait{b}{vs}{a}(h:W.heap[b]? =ad (.cells vs.toArray a (0,0))):iH W b vs a=W:=by
 have f:b<W.heap.size:=(fb.1 h).1;have:W.heap.setIfInBounds b (.cells vs.toArray a (0,0))=W.heap:=by
  apply aiq;intro k;rw[air];by_cases e:b=k
  .subst e;have d:W.heap[b]= .cells vs.toArray a (0,0):=(fb.1 h).2;simp[f,d]
  .simp[e]
 unfold iH;rw[this]
def cF{b:Type}(vs d:E b)(a:V):E b:=M a vs++d++ay (a+Z d) vs
def w8{b:Type}(vs a:E b) off(h:off+Z a<=Z vs):(cF vs a off).length=Z vs:=by simp[cF];omega
def Xx{a:Type} vs us(u:a) off(h:off<Z vs):cF (vs.set off u) us (off+1)=cF vs (u::us) off:=by
 unfold cF;rw[List.drop_set_of_lt G];have b:(vs.set off u).take (off+1)=M off vs++[u]:=by rw[QF eh];simp only[List.take_set,List.getElem_set_self];rw[List.set_eq_of_length_le bX]
 rw[b];simp only[iI,lP,ln,tI];rw[(G:off+1+Z us=off+(Z us+1))]
def yH(b:V){f:dH}:∀(d:E aR)(W:cx)(vs:E aR)(o i:V),W.heap[b]? =ad (.cells vs.toArray f (0,0))->o+i+Z d<=Z vs->(∀u∈d,nE u=ae)->
  (storeCells ⟨b,o,none⟩ d i).run P W= .ok () (iH W b (cF vs d<|o+i) f)
 |[],W,vs,o,i,h,_,_=>by
  have:cF vs [] (o+i)=vs:=by simp[cF]
  rw[this,ait h];simp[storeCells,pure]
 |u::d,W,vs,o,i,h,hle,a=>by simp only[iI]at hle;have k:b<W.heap.size:=(fb.1 h).1;have l:=aip (P:=P) h (j:=o+i) G<|a u ax;have m:=yH b d (iH W b (vs.set (o+i) u) f) (vs.set (o+i) u) o (i+1) (Dv k) bX<|λx hx=>a x lj;simp only[storeCells,lO,db,l,dx,m,ais];rw[(G:o+(i+1)=o+i+1),Xx _ _ _ _ G]
def kI:AV->au (E C)
 | .c x=>ad [x]
 | .a cs=>ad cs
 | .t _=>none
def KN{x}{f}(h:kI x=ad f){v}(b:a8 g x v)(d:∀i∈f,kd i=ae):∃vs,v.cells=vs.toArray/\aY g f vs:=by
 cases x with
 |c y=>
  simp only[kI,aq]at h
  subst h
  have k:=Xw (d y ax) b
  refine⟨[v],?_,v,[],J,b,J⟩
  cases v<;>first|rfl| (simp[nE]at k)
 |a ds=>
  simp only[kI,aq]at h
  subst h
  obtain⟨vs,rfl,b⟩:=b
  exact⟨vs,J,b⟩
 |t _=>simp[kI]at h
def aY.one{b}{vs}(d:aY g b vs)(a:∀f∈b,kd f=ae):∀v∈vs,nE v=ae:=by
 induction b generalizing vs with
 |nil=>simp only[aY]at d;subst d;simp
 |cons f b k=>
  obtain⟨v,r,rfl,l,m⟩:=d
  intro u h
  rcases bZ.1 h with rfl|h
  .exact Xw (a f ax) l
  .exact k m (λn i=>a n<|by simp[i]) u h
def aY.cF{a b}{vs d}(f:aY g a vs)(h:aY g b d) off:aY g (Go.El.cF a b off) (Go.El.cF vs d off):=by unfold Go.El.cF;rw[h.length];exact aY.append (aY.append (f.take off) h)<|f.drop _
def Dw a b:∀d∈cp (a++b),d∈cp a\/d∈cp b:=by
 induction a with
 |nil=>intro d h;exact .inr h
 |cons c a f=>
  intro d h
  simp only[ln,cp,be]at h⊢
  rcases h with h|h
  .exact .inl<|.inl h
  .rcases f d h with h|h
   .exact .inl<|.inr h
   .exact .inr h
end
section
variable{P:bI}{tt:TT}
def GQ(tt:TT)(a:St)(t:V)(x v:AV):au (V×aD):=match ou tt t,x,kI v with
 |some (sz,_),.c (.P id off),ad us=>(match ij id a.mem with
  |some (.box E b cs)=>if Z us=sz/\off+sz<=Z cs/\us.all kd=ae then ad (id,.box E b<|cF cs us off)else none
  |_=>none)
 |_,_,_=>none
def Dx cs us off:∀a∈cp (cF cs us off),a∈cp cs\/a∈cp us:=by
 intro a b;unfold cF at b;rcases Dw _ _ a b with h|h
 .rcases Dw _ _ a h with h|h
  .exact .inl<|Dr _ _ a h
  .exact .inr h
 .exact .inl<|GB _ _ a h
def yI{H}{W}(h:Sub H W){b}{vs}{f}(g:∀o,H b o=none):Sub H (iH W b vs f):=by
 intro d o v a;have i:=h d o v a;by_cases e:b=d
 .subst e;rw[g o]at a;cases a
 .simp only[GO,w7 e];exact i
def KO{b:Type}(vs rest a:E b) off(h:off+Z a<=Z vs):cF (vs++rest) a off=cF vs a off++rest:=by unfold cF;rw[xa G,AX G];simp[lP]
def Xy(b7:cq P tt=ae){ops}{i}{o}(ho:ops[i]? =ad o)(hg:o.guard=none)(hd:o.dst=none){n}{t:dH}{x bN}(bO:o.op= .store t x bN)
 {w}{vx vy}{id}{bk:aD} (hx:w.ev x=ad vx) (hy:w.ev bN=ad vy) (B:GQ tt w t vx vy=ad (id,bk)) (new:V):
  ig P n ops i (cH w x++cH w bN++fM w [id]) [(.m id,ad<|.b bk)] new:=by
 intro F jZ Q M σ g W a K A d C hK
 have N:=dq d w x vx hx<|λD cc=>C D dT
 have O:=dq d w bN vy hy<|λD cc=>C D dT
 have R:=q8 d w bN vy hy<|λD cc=>C D dT
 unfold GQ at B
 split at B
 .rename_i _ sz ag u l us S p;split at B
  .rename_i E bz cs hl;split at B
   .rename_i T;let ⟨h1,h2,h3⟩:=T;simp only[aq,bK]at B;obtain⟨rfl,rfl⟩:=B;have s:σ (.m u)=ad (.b<|.box E bz cs):=C (.m u,.b<|.box E bz cs) pU;let ⟨b,vs,rest,X,hh,hr,hN,hz,U⟩:=d.cA u _ s;let ⟨b',v,hv⟩:=N;rw[X]at v;simp only[aq]at v;subst v;have L:∀c∈us,kd c=ae:=λc hc=>mn.1 h3 c hc
    let ⟨ws,Y,r⟩:=KN p O L;let ⟨_,⟨ti,Z,Xz⟩,_⟩:=GL b7 S;have avm:=r.length;have aiu:=hr.length;have I:(QG t (a.eval x)<|a.eval bN).run P W= .ok () (iH W b (cF (vs++rest) ws l) E):=by rw[hv];simp only[QG,GF,storeVar,db,AT,dx,run_sizeOf Z,Y];have:¬(ws.toArray.size≠ti.size):=bX;simp only[this,bQ];have:=yH (P:=P) b ws W (vs++rest) l 0 hh bX<|r.one L;simp only[jv]at this;simpa using this
    unfold wpOp;simp only[ho,gx,hg,cd];refine .inl ?_;unfold oo;have hex:(execOp a.eval o).run P W= .ok .skip (iH W b (cF (vs++rest) ws l) E):=by rw[execOp,bO];simp[I,ll,pure]
    rw[hex];simp only[ny,hd,gT];have hb:b<W.heap.size:=(fb.1 hh).1;refine hK g _ a<|d.step (chg:=λj=>j=u) (g':=g) ⟨⟨cE.refl _,λ_ _=>rfl⟩,λ_ _ _=>rfl,yI d.sub hz,yJ,?_,J,J,J⟩ _ new A J d.defers (λ_ _=>rfl) ?_ ?_ ?_ ?_ ?_
    .intro k hk fe;have:b≠k:=λe=>fe u J (by rw[X,e])
     exact w7 this
    .intro j H;subst H;exact⟨xb,_,s⟩
    .intro t' v' ht;simp[aC]at ht
    .intro j bk H;simp only[aC]at H;split at H
     .rename_i e;simp only[Key.m.injEq]at e;subst e;simp only[aq,Info.b.injEq]at H;subst H;have rh:cF (vs++rest) ws l=cF vs ws l++rest:=KO vs rest ws l G;exact⟨⟨b,cF vs ws l,rest,X,KP,hr.cF r l,hN,hz,λh0=>by let ⟨c,e1,e2⟩:=U h0;refine⟨c,e1,?_⟩;rw[<-rh,w8 _ _ _ bX];exact e2⟩,.inl ⟨d.dn _ _ s,_,s⟩⟩
     .simp at H
    .intro k z f;simp only[aC]at f;split at f
     .simp only[aq]at f;subst f;intro j H;rcases Dx _ _ _ j H with h|h
      .exact .inl<|d.ak _ _ s j h
      .refine .inl<|R j ?_;cases vy with
       |c q=>simp only[kI,aq]at p;subst p;simpa[cp,AV.ak]using h
       |a q=>simp only[kI,aq]at p;subst p;exact h
       |t q=>simp[kI]at p
     .simp at f
    .intro j z f;simp only[aC]at f;split at f
     .rename_i e;simp only[Key.m.injEq]at e;subst e;exact .inl<|d.dn _ _ s
     .simp at f
   .simp at B
  .simp at B
 .simp at B
def Dy(W:cx)(o:Obj) k(h:k<W.heap.size):(W.heap.push o)[k]? =W.heap[k]? :=by rw[Array.getElem?_push,y G]
def AY{H}{W}(h:Sub H W)(o:Obj):Sub H {W with heap:=W.heap.push o}:=by intro b a v f;have d:=h b a v f;have g:=AZ W _ d;simp only[GO]at d⊢;rw[Dy W o b g];exact d
def XA{L}{i}{o:aX}{d:V}(ho:L[i]? =ad o)(hg:o.guard=none)(hd:o.dst=ad d){n}(df:d<n){aU}rd cs new
  (h:∀(fW:dm)(f:V->Prop)(σ:Kn)(g:Gh)(W:cx)(a:Act),aJ fW f σ g W a->(∀kx∈rd,σ kx.1=ad kx.2)->
   (∀p∈cp cs,f p)/\∃vs,aY g cs vs/\(execOp a.eval o).run P W= .ok (.value<|.pointer<|ad ⟨W.heap.size,0,none⟩) {W with heap:=W.heap.push<|.cells vs.toArray aU (0,0)}):
  ig P n L i rd [(.s d,ad<|.v<|.c<|.P new 0),(.m new,ad<|.b<|.box aU 0 cs)] new:=by
 intro fW jZ Q f σ g W a K x aS j A
 let ⟨hm,vs,D,T⟩:=h fW f σ g W a aS j
 unfold wpOp
 simp only[ho,gx,hg,cd]
 refine .inl ?_
 unfold oo
 rw[T]
 simp only[ny,hd]
 have q:d<a.tmps.size:=mm
 let B:Gh:=⟨g.H,λp=>if p=new then .pointer (ad ⟨W.heap.size,0,none⟩)else g.γ p⟩
 have X:fL f g B:=⟨cE.refl _,λp l=>by
  have:p≠new:=λe=>x<|e▸l
  simp[B,this]⟩
 have w:∀o,g.H W.heap.size o=none:=by
  intro o;cases hv:g.H W.heap.size o with
  |none=>rfl
  |some v=>
   have:=AZ W _<|aS.sub _ _ _ hv
   simp at this
 refine A B _ _<|aS.step (chg:=λ_=>False) (g':=B) ⟨X,λ_ _ _=>rfl,AY aS.sub _,ax,λk r _=>Dy W _ k r,J,J,J⟩ _ new x nz aS.defers ?_ (λ_ h=>h.elim) ?_ ?_ ?_ ?_
 .intro t ht;have z:d≠t:=sD;simp[gT,kH z]
 .intro t u ht;simp only[aC]at ht;split at ht
  .rename_i e;simp only[Key.s.injEq]at e;simp only[aq,Info.v.injEq]at ht;subst e;subst ht;refine⟨W.heap.size,by simp[B,cy],?_⟩;simp[gT,q]
  .split at ht
   .simp at ht
   .simp at ht
 .intro p b ht;simp only[aC,reduceCtorEq,bQ]at ht;split at ht
  .rename_i e;simp only[Key.m.injEq]at e;subst e;simp only[aq,Info.b.injEq]at ht;subst ht;refine⟨⟨W.heap.size,vs,[],by simp[B,cy],ax,aY.mono X hm D,.inl aS.below.size,w,ax⟩,.inr ⟨J,λk r=> .inl ?_⟩⟩;simp only[B,cd,cy,aq]at r;omega
  .simp at ht
 .intro k y ht;simp only[aC]at ht;split at ht
  .simp only[aq]at ht;subst ht;intro p l;simp[Info.ak,AV.ak,C.ak]at l;exact .inr l
  .split at ht
   .simp only[aq]at ht;subst ht;exact λp l=> .inl<|hm p l
   .simp at ht
 .intro p y ht;simp only[aC,reduceCtorEq,bQ]at ht;split at ht
  .rename_i e;simp only[Key.m.injEq]at e;exact .inr e.symm
  .simp at ht
def aiv{l}{i}{o:aX}{d:V}(ho:l[i]? =ad o)(hg:o.guard=none)(hd:o.dst=ad d){n}(H:d<n){aU}{x}(L:o.op= .box aU x)
 {w}{v}{B}(hx:w.ev x=ad v) (f:kI v=ad B) (Q:B.all kd=ae) (h:V):
  ig P n l i (cH w x) [(.s d,ad<|.v<|.c<|.P h 0),(.m h,ad<|.b<|.box aU 0 B)] h:=by
 refine XA ho hg hd H _ B h ?_
 intro F C y g W a k p
 have X:=dq k w x v hx p
 have e:=q8 k w x v hx p
 let ⟨vs,K,T⟩:=KN f X<|λc j=>mn.1 Q c j
 refine⟨λr u=>e r ?_,vs,T,?_⟩
 .cases v with
  |c q=>simp only[kI,aq]at f;subst f;simpa[cp,AV.ak]using u
  |a q=>simp only[kI,aq]at f;subst f;exact u
  |t q=>simp[kI]at f
 .rw[execOp,L];simp[Instr.box,newVar,newRow,newObj,K,ll,pure]
def yK(g:Gh):∀a:E ZV,aY g (a.map ZV.pR) (a.map ZV.eY)
 |[]=>rfl
 |b::a=>⟨_,_,J,by cases b<;>rfl,yK g a⟩
def aiw(t:cq P tt=ae){f}{i}{o:aX}{d:V}(L:f[i]? =ad o)(Q:o.guard=none)(T:o.dst=ad d){n}(u:d<n){w}(x:o.op= .alloc w)
 {l}(B:ij w tt=ad l) new:
  ig P n f i [] [(.s d,ad<|.v<|.c<|.P new 0),(.m new,ad<|.b<|.box w 0<|l.zero.map ZV.pR)] new:=by
 refine XA L Q T u _ _ new ?_
 intro F C r g W a K X
 let ⟨y,e,_,_,z,j,H⟩:=(eK t B).info
 refine⟨?_,l.zero.map ZV.eY,yK g _,?_⟩
 .intro A h;exfalso;have:∀p:E ZV,cp (p.map ZV.pR)=[]:=by
   intro p;induction p with
   |nil=>rfl
   |cons z p q=>simp only[gJ,cp,q];cases z<;>rfl
  rw[this]at h;cases h
 .have k:z.cells=(l.zero.map ZV.eY).toArray:=by rw[<-KQ];simpa using H
  rw[execOp,x];simp[Instr.alloc,zeroValue,typeInfo,e,j,newVar,newRow,newObj,k,ll,pure]
end
section
variable{P:bI}{tt:TT}
def QH(tt:TT)(b:St)(t a:V)(i:AV):au (AV×Pr):=match ij a b.mem,i with
 |some (.vec _ T xs),.c (.I _ k)=>if wX tt t T.n then ad (.c<|.Y a T.n (af k) 0,.and (.le 0 k)<|.lt k<|Z xs)else none
 |_,_=>none
def aix(b7:cq P tt=ae){Q}{i}{o:aX}{d:V}(ho:Q[i]? =ad o)(hg:o.guard=none)(hd:o.dst=ad d){n}(df:d<n){t}{x L}(bO:o.op= .indexAddr t x L)
 {l}{w}{vy v}{p:Pr} (hx:l.ev x=ad (.c<|.X w)) (hy:l.ev L=ad vy) (B:QH tt l t w vy=ad (v,p)) (hp:p) (new:V):
  ig P n Q i (cH l x++cH l L++fM l [w]) [(.s d,ad<|.v v)] new:=by
 refine sB ho hg hd df _ v new ?_
 intro F A R g W a f u
 have D:a.eval x=g.γ w:=dq f l x _ hx<|λq cc=>u q dT
 have G:=dq f l L vy hy<|λq cc=>u q dT
 have I:=q8 f l x _ hx<|λq cc=>u q dT
 unfold QH at B
 split at B
 .rename_i E T xs S k hl;split at B
  .rename_i J;simp only[aq,bK]at B;obtain⟨rfl,rfl⟩:=B;have M:R (.m w)=ad (.b<|.vec E T xs):=u (.m w,.b<|.vec E T xs) pU;let ⟨e,i',N,U,hs⟩:=Ds b7 J;have r:a.eval L= .int S k:=G;rcases f.cA w _ M with⟨_,h0⟩|⟨b,O,vs,z,_⟩
   .subst h0;simp[Pr.h]at hp;omega
   .refine⟨λj hj=>I j QI,.pointer (ad ⟨b,af k*T.n,none⟩),?_,b,Z xs,O,z,ax⟩;have H:execOp a.eval o=(do pure (.value<|<-AS t (a.eval x) (a.eval L))):=vC;rw[H,D,z,r];have K:(0<=k/\k<(Z xs:Y)):=hp;simp only[AS,asIntOf,db,run_underlying N,dx];simp[K,run_sizeOf U,hs,lO]
  .simp at B
 .simp at B
def QJ(tt:TT)(f:St)(t d a b:V)(i:AV):au (AV×Pr):=match ij d f.mem,i with
 |some (.vec _ T _),.c (.I _ k)=>if T.n=1/\wX tt t 1=ae then ad (.c<|.Y d 1 (a+af k) 0,.and (.le 0 k)<|.lt k b)else none
 |_,_=>none
def aiy(b7:cq P tt=ae){ops}{i}{o:aX}{d:V}(ho:ops[i]? =ad o)(hg:o.guard=none)(hd:o.dst=ad d){n}(df:d<n){t}{x bN}(bO:o.op= .indexAddr t x bN)
 {l}{id B H}{vy v}{p:Pr} (hx:l.ev x=ad (.c<|.W id B H)) (hy:l.ev bN=ad vy) (L:QJ tt l t id B H vy=ad (v,p)) (hp:p) (new:V):
  ig P n ops i (cH l x++cH l bN++fM l [id]) [(.s d,ad<|.v v)] new:=by
 refine sB ho hg hd df _ v new ?_
 intro F r N g W a f u
 let ⟨U,c0,h,z,_⟩:=dq f l x _ hx<|λX cc=>u X dT
 have A:=dq f l bN vy hy<|λX cc=>u X dT
 have D:=q8 f l x _ hx<|λX cc=>u X dT
 unfold QJ at L
 split at L
 .rename_i E T xs O k hl;split at L
  .rename_i G;simp only[aq,bK]at L;obtain⟨rfl,rfl⟩:=L;have I:N (.m id)=ad (.b<|.vec E T xs):=u (.m id,.b<|.vec E T xs) pU;let ⟨e,i',J,R,S⟩:=Ds b7 G.2;have q:a.eval bN= .int O k:=A;rcases f.cA id _ I with⟨w,_⟩|⟨b,M,vs,w,_⟩
   .rw[w]at h;simp[cy]at h
   .rw[w]at h;simp only[cy,aq]at h;subst h;refine⟨λj hj=>D j QI,.pointer (ad ⟨b,B+af k,none⟩),?_,b,Z xs,M,w,ax⟩;have K:execOp a.eval o=(do pure (.value<|<-AS t (a.eval x) (a.eval bN))):=vC;rw[K,z,q];have Q:(0<=k/\k<(H:Y)):=hp;simp only[AS,asIntOf,db,run_underlying J,dx];simp[Q,run_sizeOf R,S,lO]
  .simp at L
 .simp at L
def QK(tt:TT)(a:St)(t b:V):au AV:=match ij b a.mem,ij t tt with
 |some (.vec _ _ xs),ad d=>(match d.kind with| .sl _=>ad (.c<|.I .i64<|Z xs)|_=>none)
 |_,_=>none
def aiz(L:cq P tt=ae){p}{i}{o:aX}{d:V}(ho:p[i]? =ad o)(hg:o.guard=none)(hd:o.dst=ad d){n}(Q:d<n){t}{x}(bO:o.op= .call ⟨.builtin .len,#[x],#[t]⟩)
 {u}{h}{v}(hx:u.ev x=ad (.c<|.X h)) (k:QK tt u t h=ad v) (w:V):
  ig P n p i (cH u x++fM u [h]) [(.s d,ad<|.v v)] w:=by
 refine sB ho hg hd Q _ v w ?_
 intro F K r g W a f B
 have H:a.eval x=g.γ h:=dq f u x _ hx<|λy cc=>B y dT
 unfold QK at k
 split at k
 .rename_i E T xs I hl z;split at k
  .rename_i e A;simp only[aq]at k;subst k;have j:r (.m h)=ad (.b<|.vec E T xs):=B (.m h,.b<|.vec E T xs) pU;have q:=(eK L z).kind;rw[A]at q;refine⟨q9,.int .i64<|Z xs,?_,J⟩;rw[execOp,bO];rcases f.cA h _ j with⟨l,D⟩|⟨b,G,vs,l,_⟩
   .subst D;simp[resolve,invoke,builtin,Xq,H,l,run_underlying q,goInt,ll,pure]
   .simp[resolve,invoke,builtin,Xq,H,l,run_underlying q,goInt,ll,pure]
  .simp at k
 .simp at k
def GR(T:ET):E C->au T.den:=match T with
 | .int k=>λa=>(match a with|[.I d n]=>if k=d then ad n else none|_=>none)
 | .bool=>λa=>(match a with|[.B b]=>ad b|_=>none)
 |_=>λ_=>none
def aiA{T}{a}{x:T.den}(h:GR T a=ad x):a=av T x:=by
 cases T with
 |int k=>
  simp only[GR]at h
  split at h
  .split at h
   .rename_i e;subst e;simp at h;subst h;rfl
   .simp at h
  .simp at h
 |bool=>
  simp only[GR]at h
  split at h
  .simp at h;subst h;rfl
  .simp at h
 |_=>simp[GR]at h
def Dz:∀(T:ET)(x:T.den),∀a∈av T x,kd a=ae
 | .int _,_,a,h=>by simp[av]at h;subst h;rfl
 | .bool,_,a,h=>by simp[av]at h;subst h;rfl
 | .z,_,a,h=>by simp[av]at h;rcases h with rfl|rfl<;>rfl
 | .q,_,a,h=>by simp[av]at h;rcases h with rfl|rfl|rfl|rfl<;>rfl
 | .sl _,_,a,h=>by simp[av]at h;subst h;rfl
 | .pr b B,x,a,h=>by
  simp only[av,be]at h;rcases h with h|h
  .exact Dz b _ a h
  .exact Dz B _ a h
def aiB{g:Type}(vs d:E g) n i a(m:Z d=n)(h:(i+1)*n<=Z vs)(l:i≠a):M n ((cF vs d<|i*n).drop<|a*n)=(ay (a*n) vs).take n:=by
 have o:(i+1)*n=i*n+n:=GS;apply List.ext_getElem?;intro k;rw[GU,GU];split
 .rename_i p;rw[tJ,tJ];unfold cF;rcases pN a i with b|b
  .have f:(a+1)*n<=i*n:=et _ b;rw[gy,iG]at f;rw[lP,DA bX,GV G]
  .have f:(i+1)*n<=a*n:=et _ G;rw[DB bX,tJ];simp only[iX,gL];congr 1;omega
 .rfl
def aiC{b:Type}(vs a:E b) n i(f:Z a=n)(d:(i+1)*n<=Z vs):M n ((cF vs a<|i*n).drop<|i*n)=a:=by have g:(i+1)*n=i*n+n:=GS;unfold cF;have:(M (i*n) vs).length=i*n:=bX;rw[lP,AX G,tK G,tI,xa G,iY G]
def XB(b7:cq P tt=ae){ops}{i}{o}(ho:ops[i]? =ad o)(hg:o.guard=none)(hd:o.dst=none){n}{t:dH}{x bN}(bO:o.op= .store t x bN)
 {v}{s m k}{aU}{T:ET} {xs:E T.den} {vy:AV} (hx:v.ev x=ad (.c<|.Y s m k 0)) (hy:v.ev bN=ad vy) (hl:ij s v.mem=ad (.vec aU T xs)) (hm:T.n=m) {ag:Bool} (DC:ou tt t=ad (m,ag)) {w:T.den} (QL:kI vy=ad (av T w)) (hk:k<Z xs) (new:V):
  ig P n ops i (cH v x++cH v bN++fM v [s]) [(.m s,ad<|.b<|.vec aU T<|xs.set k w)] new:=by
 intro F jZ Q N σ g W a K X d C hK
 have O:=dq d v x _ hx<|λR cc=>C R dT
 have S:=dq d v bN vy hy<|λR cc=>C R dT
 have l:σ (.m s)=ad (.b<|.vec aU T xs):=C (.m s,.b<|.vec aU T xs) pU
 let ⟨b',l',c',p,hv⟩:=O
 rcases d.cA s _ l with⟨_,h0⟩|⟨b,U,vs,L,hh,q,hle,r,hr,hN,hz⟩
 .subst h0;simp at hk
 rw[L]at p
 simp only[Xt,aq,Addr.mk.injEq,and_true]at p
 obtain⟨rfl,_,_⟩:=p
 let ⟨ws,A0,A⟩:=KN QL S<|Dz T w
 have D:c6 g.H T w ws:=AK T w ws A
 have I:Z ws=T.n:=c6.length T _ _ D
 let ⟨_,⟨ti,nF,Xz⟩,_⟩:=GL b7 DC
 have B:(k+1)*T.n<=Z vs:=by rw[q];exact et _ G
 have XC:(k+1)*T.n=k*T.n+T.n:=GS
 subst hm
 have M:(QG t (a.eval x)<|a.eval bN).run P W= .ok () (iH W b (cF vs ws<|k*T.n) aU):=by rw[hv];simp only[QG,GF,storeVar,db,AT,dx,run_sizeOf nF,A0,jv];have:¬(ws.toArray.size≠ti.size):=bX;simp only[this,bQ];have:=yH (P:=P) b ws W vs (k*T.n) 0 hh G<|A.one<|Dz T w;simp only[jv]at this;simpa using this
 unfold wpOp
 simp only[ho,gx,hg,cd]
 refine .inl ?_
 unfold oo
 have hex:(execOp a.eval o).run P W= .ok .skip (iH W b (cF vs ws<|k*T.n) aU):=by rw[execOp,bO];simp[M,ll,pure]
 rw[hex]
 simp only[ny,hd,gT]
 have hb:b<W.heap.size:=(fb.1 hh).1
 refine hK g _ a<|d.step (chg:=λj=>j=s) (g':=g) ⟨⟨cE.refl _,λ_ _=>rfl⟩,λ_ _ _=>rfl,yI d.sub hz,yJ,?_,J,J,J⟩ _ new X J d.defers (λ_ _=>rfl) ?_ ?_ ?_ ?_ ?_
 .intro k' GW fe;have:b≠k':=λw=>fe s J (by rw[L,w];rfl)
  exact w7 this
 .intro j h;subst h;exact⟨xb,_,l⟩
 .intro t' v' ht;simp[aC]at ht
 .intro j bk h;simp only[aC]at h;split at h
  .rename_i u;simp only[Key.m.injEq]at u;subst u;simp only[aq,Info.b.injEq]at h;subst h;refine⟨.inr ⟨b,U,cF vs ws<|k*T.n,by simpa using L,Dv hb,?_,by simpa using hle,by simpa using r,λj h=>?_,hN,hz⟩,.inl ⟨d.dn _ _ l,_,l⟩⟩
   .rw[w8 _ _ _ G];exact q
   .simp only[nG]at h;rw[List.getElem_set];split
    .rename_i u;subst u;rw[aiC vs ws T.n k I B];exact D
    .rename_i u;rw[aiB vs ws T.n k j I B u];exact hr j h
  .simp at h
 .intro k' z f;simp only[aC]at f;split at f
  .simp only[aq]at f;subst f;intro j h;simp[Info.ak,aD.ak]at h
  .simp at f
 .intro j z f;simp only[aC]at f;split at f
  .rename_i u;simp only[Key.m.injEq]at u;subst u;exact .inl<|d.dn _ _ l
  .simp at f
end
end Go.El
