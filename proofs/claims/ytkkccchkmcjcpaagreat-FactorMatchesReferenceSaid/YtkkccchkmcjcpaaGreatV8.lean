/- The engine, part 45: weakening with other ids; families of vectors; a slice of slices as a result. Own work; no condition. -/
import Derived.Test.YtkkccchkmcjcpaaGreatV7
import Derived.Test.YtkkccchkmcjcpaaGreatV3
import Derived.Test.YtkkccchkmcjcpaaGreatV4
set_option linter.all false
set_option maxHeartbeats 16000000
set_option maxRecDepth 100000
open Bool renaming true->ae
open Classical renaming choose->wm
open Go renaming Value->bH,TypeId->eL,Program->cT
open Go.Act renaming put->jq
open Go.Deferred renaming ofValue->HN
open Go.El renaming rr->e,cS->N,vL->q,gy->L,cI->D,re->o,auI->z,y6->u,rb->t,kZ->w
open Go.IntKind renaming wrap->ao
open Go.Proofs.Tryz renaming prog->j
open Go.Region renaming wanted->nG
open Go.World renaming cell?->FT
open Int renaming toNat->ad
open List renaming range->be,length->G,replicate->bh,getD->Y
open Nat renaming ble->iv,blt->f'
open _root_ renaming Nat->I,List->V,Int->Z
namespace Go.El
open Go Go.Proofs Go.RowKit
def nU(b:I->I):C->C
 | .P id a=> .P (b id) a
 | .X id=> .X<|b id
 | .Y id n i a=> .Y (b id) n i a
 | .L id a l c=> .L (b id) a l c
 | .W id a l=> .W (b id) a l
 |c=>c
def HI(b:I->I):AV->AV
 | .c x=> .c<|nU b x
 | .a cs=> .a<|cs.map<|nU b
 | .t f=> .t<|f.map λd=>(d.1,d.2.map<|nU b)
def BA(d:I->I):aH->aH
 | .box E g cs=> .box E g<|cs.map<|nU d
 | .vec E i xs=> .vec E i xs
 | .fX f a b=> .fX f (a.map λc=>(c.1,c.2.map<|nU d))<|b.map λc=>(c.1,c.2.map<|nU d)
 | .fz E cs=> .fz E<|cs.map<|nU d
def R8{g:Gh}{b:I->I}:∀{c:C}{v:bH},dn g (nU b c) v->dn ⟨g.H,λd=>g.γ<|b d⟩ c v
 | .any,_,a=>a
 | .B _,_,a=>a
 | .I _ _,_,a=>a
 | .V _,_,a=>a
 | .S _ _,_,a=>a
 | .P _ _,_,a=>a
 | .X _,_,a=>a
 | .Y _ _ _ _,_,a=>a
 | .E _ _ _,_,a=>a
 | .M _,_,a=>a
 | .L _ _ _ (some _),_,a=>a
 | .L _ _ _ none,_,a=>a
 | .W _ _ _,_,a=>a
def HJ{g:Gh}{b:I->I}:∀{c:V C}{vs:V bH},bL g (c.map<|nU b) vs->bL ⟨g.H,λd=>g.γ<|b d⟩ c vs
 |[],_,a=>a
 |_::_,_,a=>by let ⟨v,r,f,i,h2⟩:=a;exact⟨v,r,f,R8 i,HJ h2⟩
def Md{g:Gh}{i:I->I}:∀{k:V (Bool×V C)}{vs:V bH},dt g (k.map λl=>(l.1,l.2.map<|nU i)) vs->dt ⟨g.H,λm=>g.γ<|i m⟩ k vs
 |[],_,d=>d
 | (b,c)::_,_,d=>by
  let ⟨v,r,f,a,h2⟩:=d;refine⟨v,r,f,?_,Md h2⟩;match b,c,a with
  |true,c,a=>let ⟨vs,f,d⟩:=a;exact⟨vs,f,HJ d⟩
  |false,[c],a=>exact R8 a
  |false,[],a=>exact a.elim
  |false,_::_::_,a=>exact a.elim
def Zz{g}{d:I->I}{x}{v}(b:bI g (HI d x) v):bI ⟨g.H,λf=>g.γ<|d f⟩ x v:=by
 cases x with
 |c y=>exact R8 b
 |a cs=>let ⟨vs,e,b⟩:=b;exact⟨vs,e,HJ b⟩
 |t i=>let ⟨vs,e,b⟩:=b;exact⟨vs,e,Md b⟩
def ZA{v:I->Prop}{g}{W}{m:I->I}{i}{b}(l:jn v g W (m i) (BA m b)):jn v ⟨g.H,λi=>g.γ<|m i⟩ W i b:=by
 cases b with
 |box E B cs=>
  let ⟨k,vs,rest,a,c,d,n,p,x⟩:=l
  exact⟨k,vs,rest,a,c,HJ d,n,p,x⟩
 |vec E T C=>
  rcases l with⟨a,c⟩|⟨k,r,vs,a,c⟩
  .exact .inl ⟨a,c⟩
  .exact .inr ⟨k,r,vs,a,c⟩
 |fX f first caps=>
  let ⟨us,ws,a,c,d⟩:=l
  exact⟨us,ws,a,Md c,Md d⟩
 |fz E cs=>
  let ⟨k,vs,rest,a,c,d,n,p⟩:=l
  exact⟨k,vs,rest,a,c,HJ d,n,p⟩
def BB(a:I->I)(l:V (I×AV)):V (I×AV)->Prop
 |[]=>True
 | (b,c)::r=>(∃v,w b l=some v/\a7 v (HI a c))/\BB a l r
def ke(a:I->I)(l:V (I×aH)):V (I×aH)->Prop
 |[]=>True
 | (b,c)::r=>(∃v,w (a b) l=some v/\cK v (BA a c))/\ke a l r
def BB.get{d:I->I}{l:V (I×AV)}:∀{m:V (I×AV)},BB d l m->∀{b c},w b m=some c->∃v,w b l=some v/\a7 v (HI d c)
 |[],_,_,_,a=>by simp[w]at a
 | (k,x)::m,hw,b,c,a=>by
  simp only[w]at a;split at a
  .rename_i f;subst f;cases a;exact hw.1
  .exact BB.get hw.2 a
def ke.get{b:I->I}{l:V (I×aH)}:∀{m:V (I×aH)},ke b l m->∀{c d},w c m=some d->∃v,w (b c) l=some v/\cK v (BA b d)
 |[],_,_,_,a=>by simp[w]at a
 | (k,x)::m,hw,c,d,a=>by
  simp only[w]at a;split at a
  .rename_i f;subst f;cases a;exact hw.1
  .exact ke.get hw.2 a
def eC(K:I)(m:V (I×aH)):Prop:=∀t v,w t m=some v->t<K/\∀a∈v.ar,a<K
def wi(i:I->I){r st'}(hs:BB i r.sl st'.sl)(hm:ke i r.mem st'.mem)(h0:i 0=0)(B:∀d f,(w d st'.mem).isSome=ae->(w f st'.mem).isSome=ae->i d=i f->d=f)
  (P:eC (1000000*st'.nx) st'.mem) (Q:rG (1000000*st'.nx) st'.sl=ae:=by rfl) (E:iv 1 st'.nx=ae:=by rfl):Wk r st':=by
 intro F X g W a h
 have E:=cY E
 let o:Gh:=⟨g.H,λd=>g.γ<|i d⟩
 have U:∀t l,st'.kn (.s t)=some (.v l)->(∃v,r.kn (.s t)=some (.v v)/\a7 v (HI i l))/\∀d∈l.ar,d<1000000*st'.nx:=by intro t l e;simp only[St.kn,cd]at e;let ⟨x,hx,he⟩:=e;cases he;let ⟨v,hv,hle⟩:=hs.get hx;exact⟨⟨v,mq,hle⟩,yR Q t l hx⟩
 have C:∀d n,st'.kn (.m d)=some (.b n)->(∃b,r.kn (.m<|i d)=some (.b b)/\cK b (BA i n))/\(d<1000000*st'.nx/\∀j∈n.ar,j<1000000*st'.nx)/\(w d st'.mem).isSome=ae:=by intro t l e;simp only[St.kn,cd]at e;let ⟨x,hx,he⟩:=e;cases he;let ⟨v,hv,hle⟩:=hm.get hx;exact⟨⟨v,mq,hle⟩,P t l hx,by rw[hx];rfl⟩
 refine⟨o,h.size,h.defers,?_,?_,?_,?_,?_,h.sub,h.below,h.le,h.fresh,?_⟩
 .intro t l e;let ⟨⟨v,hv,hle⟩,_⟩:=U t l e;exact Zz<|hle.1 _ _<|h.gM t v hv
 .intro d n e;let ⟨⟨b,q,hle⟩,_⟩:=C d n e;exact ZA<|hle.1 _ _ _ _<|h.db (i d) b q
 .intro d f b n k e u y K;let ⟨⟨c,hc,_⟩,_,z⟩:=C d b e;let ⟨⟨A,R,_⟩,_,h2⟩:=C f n u;exact B d f z h2<|h.inj (i d) (i f) c A k hc R y K
 .intro k x e d p;cases k with
  |s t=>
   cases x with
   |v l=>exact(U t l e).2 d p
   |b n=>simp only[St.kn,cd]at e;let ⟨_,_,he⟩:=e;cases he
  |m j=>
   cases x with
   |v l=>simp only[St.kn,cd]at e;let ⟨_,_,he⟩:=e;cases he
   |b n=>exact(C j n e).2.1.2 d p
 .intro d x e;cases x with
  |v l=>simp only[St.kn,cd]at e;let ⟨_,_,he⟩:=e;cases he
  |b n=>exact(C d n e).2.1.1
 .intro d p;have D:d=0:=S;subst D;refine⟨?_,?_⟩
  .show 0<1000000*st'.nx;omega
  .show g.γ (i 0)=_;rw[h0];exact(h.iJ 0 p).2
def HK{p d}(U:xe p.sl d.sl)(hm:iV p.mem d.mem)(E:eC (1000000*d.nx) d.mem)(H:rG (1000000*d.nx) d.sl=ae:=by rfl)(P:iv 1 d.nx=ae:=by rfl):Wk p d:=by
 intro F X g W a h;have C:∀f,f<F.k0->kb d f/\g.γ f=F.γ0 f:=by intro f n;let ⟨y,h2⟩:=h.iJ f n;refine⟨?_,h2⟩;show f<1000000*d.nx;have:=cY P;omega
 have R:∀t i,d.kn (.s t)=some (.v i)->(∃v,p.kn (.s t)=some (.v v)/\a7 v i)/\∀f∈i.ar,f<1000000*d.nx:=by intro t i e;simp only[St.kn,cd]at e;let ⟨x,hx,he⟩:=e;cases he;let ⟨v,hv,hle⟩:=U.get hx;exact⟨⟨v,mq,hle⟩,yR H t i hx⟩
 have r:∀f l,d.kn (.m f)=some (.b l)->(∃b,p.kn (.m f)=some (.b b)/\cK b l)/\f<1000000*d.nx/\∀j∈l.ar,j<1000000*d.nx:=by intro t i e;simp only[St.kn,cd]at e;let ⟨x,hx,he⟩:=e;cases he;let ⟨v,hv,hle⟩:=hm.get hx;exact⟨⟨v,mq,hle⟩,E t i hx⟩
 refine⟨g,h.size,h.defers,?_,?_,?_,?_,?_,h.sub,h.below,h.le,h.fresh,C⟩
 .intro t i e;let ⟨⟨v,hv,hle⟩,_⟩:=R t i e;exact hle.1 _ _<|h.gM t v hv
 .intro f l e;let ⟨⟨b,o,hle⟩,_⟩:=r f l e;exact hle.1 _ _ _ _<|h.db f b o
 .intro f B b l k e q u K;let ⟨⟨c,hc,_⟩,_⟩:=r f b e;let ⟨⟨w,Q,_⟩,_⟩:=r B l q;exact h.inj f B c w k hc Q u K
 .intro k x e f n;cases k with
  |s t=>
   cases x with
   |v i=>exact(R t i e).2 f n
   |b l=>simp only[St.kn,cd]at e;let ⟨_,_,he⟩:=e;cases he
  |m j=>
   cases x with
   |v i=>simp only[St.kn,cd]at e;let ⟨_,_,he⟩:=e;cases he
   |b l=>exact(r j l e).2.2 f n
 .intro f x e;cases x with
  |v i=>simp only[St.kn,cd]at e;let ⟨_,_,he⟩:=e;cases he
  |b l=>exact(r f l e).2.1
def eC.nil{K}:eC K []:=λ_ _ h=>by cases h
def eC.cons{K a}{b}{m}(c:a<K)(d:∀f∈b.ar,f<K)(g:eC K m):eC K ((a,b)::m):=λt v e=>by
 simp only[w]at e;split at e
 .rename_i i;cases e;subst i;exact⟨c,d⟩
 .exact g t v e
def eC.of{K}{m}(a:nh K m=ae):eC K m:=Kh a
def R9{b}{K}(i:∀c∈b,∀k∈c.ar,k<K):∀a∈cy b,a<K:=by
 induction b with
 |nil=>intro a f;cases f
 |cons c b l=>
  intro a f
  rcases b8.1 f with g|g
  .exact i c ax a g
  .exact l (λd m=>i d<|by simp[m]) a g
def gJ(r:I)(E:eL)(a:ET)(f:I->V a.den):V (I×aH):=(be r).map λi=>(1+i,aH.vec E a<|f i)
def x5{d:Type}(c:I):∀(a b:V (I×d)),w c (a++b)=(w c a).or (w c b)
 |[],_=>rfl
 | (k,x)::a,b=>by
  simp only[kU,w];split
  .rfl
  .exact x5 c a b
def HL{r}{E}{a}{f:I->V a.den}:∀{i:I},i<r->w (1+i) (gJ r E a f)=some (.vec E a<|f i):=by
 induction r with
 |zero=>intro i h;omega
 |succ r c=>
  intro i h
  unfold gJ at c⊢
  rw[nE,fe,x5]
  by_cases e:i<r
  .rw[c e];rfl
  .have:i=r:=by omega
   subst this;have d:∀n,n<=i->w (1+i) ((be n).map λj=>(1+j,aH.vec E a<|f j))=none:=by
    intro n d;induction n with
    |zero=>rfl
    |succ n b=>
     rw[nE,fe,x5,b S]
     simp only[gZ,wj,w]
     rw[M S];rfl
   rw[d i (a8 _)];simp[w]
def Me{r}{E}{a}{f:I->V a.den}{c}{b}:w c (gJ r E a f)=some b->∃i,i<r/\c=1+i/\b= .vec E a (f i):=by
 induction r with
 |zero=>intro h;cases h
 |succ r g=>
  intro h
  unfold gJ at g h
  rw[nE,fe,x5]at h
  cases d:w c ((be r).map λi=>(1+i,aH.vec E a<|f i))with
  |some m=>
   rw[d]at h
   cases h
   let ⟨i,h2,k,l⟩:=g d
   exact⟨i,S,k,l⟩
  |none=>
   rw[d]at h
   simp only[gZ,wj,w,Option.none_or]at h
   split at h
   .rename_i e;cases h;exact⟨r,S,e.symm,J⟩
   .cases h
def Mf:V (I×aH)->Bool
 |[]=>ae
 | (id,_)::r=>(Nat.beq id 0||iv 1000 id)&&Mf r
def ak1{m}:Mf m=ae->∀{i:I},i<900->w (1+i) m=none:=by
 induction m with
 |nil=>intro _ i _;rfl
 |cons x m c=>
  let ⟨id,b⟩:=x
  intro h i d
  simp only[Mf,eG,vI]at h
  simp only[w]
  rw[M]
  .exact c h.2 d
  .intro e;rcases h.1 with a|a
   .have:=y8 a;omega
   .have:=cY a;omega
def eC.app{K}{a b}(d:eC K a)(f:eC K b):eC K (a++b):=λt v h=>by
 rw[x5]at h;cases c:w t a with
 |some x=>rw[c]at h;cases h;exact d t _ c
 |none=>rw[c]at h;exact f t v h
def eC.gJ{K r}(c:1+r<=K){E}{b}{f:I->V b.den}:eC K (gJ r E b f):=λt v e=>by obtain⟨i,d,rfl,rfl⟩:=Me e;exact⟨S,λg a=>by cases a⟩
def ke.app{d:I->I}{l:V (I×aH)}:∀{a b:V (I×aH)},ke d l a->ke d l b->ke d l (a++b)
 |[],_,_,c=>c
 |_::_,_,c,k=>⟨c.1,ke.app c.2 k⟩
def ke.map{a:I->I}{l:V (I×aH)}{g:I->I×aH}:∀{b:V I},(∀i∈b,∃v,w (a (g i).1) l=some v/\cK v (BA a (g i).2))->ke a l (b.map g)
 |[],_=>trivial
 |i::b,c=>⟨c i ax,ke.map λd f=>c d<|by simp[f]⟩
def ke.gJ{b:I->I}{l}{r}{E}{a}{f:I->V a.den}(c:∀i,i<r->w (b<|1+i) l=some (.vec E a<|f i)):ke b l (gJ r E a f):=
 ke.map λi d=>⟨_,c i<|jO.1 d,cK.refl _⟩
def iV.app{l:V (I×aH)}:∀{a b:V (I×aH)},iV l a->iV l b->iV l (a++b)
 |[],_,_,c=>c
 |_::_,_,c,k=>⟨c.1,iV.app c.2 k⟩
def iV.map{l:V (I×aH)}{g:I->I×aH}:∀{a:V I},(∀i∈a,∃v,w (g i).1 l=some v/\cK v (g i).2)->iV l (a.map g)
 |[],_=>trivial
 |i::a,b=>⟨b i ax,iV.map λc d=>b c<|by simp[d]⟩
def iV.gJ{l}{r}{E}{a}{f:I->V a.den}(b:∀i,i<r->w (1+i) l=some (.vec E a<|f i)):iV l (gJ r E a f):=
 iV.map λi c=>⟨_,b i<|jO.1 c,cK.refl _⟩
def R'{K:I}:∀{a b:V (I×aH)},nh K a=ae->nh K b=ae->nh K (a++b)=ae
 |[],_,_,c=>c
 | (id,v)::a,b,c,k=>by simp only[nh,eG,kU]at c⊢;exact⟨c.1,R' c.2 k⟩
def ak2{K r}(k:1+r<=K){E}{a}{f:I->V a.den}:nh K (gJ r E a f)=ae:=by
 unfold Go.El.gJ;have:∀L:V I,(∀i∈L,i<r)->nh K (L.map λi=>(1+i,aH.vec E a<|f i))=ae:=by
  intro L b;induction L with
  |nil=>rfl
  |cons i L d=>
   have c:=b i ax
   simp only[gZ,nh,aH.ar,rF,Bool.and_true,eG]
   refine⟨Sa S,d λj g=>b j<|by simp[g]⟩
 exact this _ λi c=>jO.1 c
def ZC{K:I}:∀{b:V C},(∀c∈b,∀f∈c.ar,f<K)->rF K (cy b)=ae
 |[],_=>rfl
 |c::b,i=>by
  have k:∀{l m:V I},rF K l=ae->rF K m=ae->rF K (l++m)=ae:=by
   intro l m a n;induction l with
   |nil=>exact n
   |cons x l g=>
    simp only[rF,eG,kU]at a⊢
    exact⟨a.1,g a.2⟩
  have p:∀{l:V I},(∀f∈l,f<K)->rF K l=ae:=by
   intro l a;induction l with
   |nil=>rfl
   |cons x l g=>
    simp only[rF,eG]
    exact⟨Sa<|a x ax,g λy hy=>a y mV⟩
  exact k (p<|i c ax) (ZC λd r=>i d<|by simp[r])
section
variable{P:cT}{tt:TT}{n:I}{st:St}
def ak3(fc:cN P tt=ae){fn}{b9 id r}{E0}{bz}{E}{x}{f:I->V x.den}(hl:w b9 st.sl=some (.c<|.L id 0 r<|some r))(hm:w id st.mem=some (.box E0 bz<|(be r).map λi=> .X<|1+i))(hf:∀i,i<r->w (1+i) st.mem=some (.vec E x<|f i))(hr:r<=140737488355328)(zg:fn.results= #[.tmp b9]:=by rfl):fw n .ret st (xf P fn<|.c<|.S (.sl x)<|(be r).map f):=by
 intro F hF g W a h l;let ⟨u,hu,y⟩:=AG (rs:=[.tmp b9]) (v:= .c<|.L id 0 r<|some r) fc h zg (by simp[oK,AE,hl]);let ⟨b,vs,rest,hγ,hh,z,hN,hz,_⟩:=h.db id (.box E0 bz<|(be r).map λi=> .X<|1+i) (by simp[St.kn,hm]);let ⟨b',m,KN⟩:=y;rw[hγ]at m;simp only[aR]at m;subst m;have p:=λi(hi:i<r)=>h.db (1+i) (.vec E x<|f i) (by simp[St.kn,hf i hi])
 let B:I->Prop:=λk=>k=b\/∃i,i<r/\cP (g.γ<|1+i)=some k
 have hSz:∀k,B k->∀o,g.H k o=none:=by
  rintro k (rfl|⟨i,hi,d⟩) o
  .exact hz o
  .rcases p i hi with⟨e,_⟩|⟨Y,R,us,e,_,_,_,_,_,_,Sb⟩
   .rw[e]at d;cases d
   .rw[e]at d;simp only[cP,aR]at d;subst d;exact Sb o
 have hSN:∀k,B k->F.N k:=by
  rintro k (rfl|⟨i,hi,d⟩)
  .exact hN
  .exact((p i hi).block d).1
 classical
 let K:FH:=λk o=>if B k then W.cell? ⟨k,o,none⟩else g.H k o
 have A:cz g.H K:=by
  intro k o v Q;by_cases e:B k
  .rw[hSz k e o]at Q;cases Q
  .simp only[K,M e];exact Q
 refine⟨h.defers.trans hF.ds,u,hu,u,K,J,?_,cz.trans h.le A,?_,?_,⟨h.below.os,h.below.tape,h.below.output,h.below.size,λk d=>h.below.block k d<|l k⟩⟩
 .have xh:=z.length;simp only[cL,uL]at xh;refine⟨some ⟨b,0,none⟩,r,by rw[KN];simp,ax,by simpa using hr,?_⟩;by_cases h0:r=0
  .subst h0;exact .inl J
  refine .inr ⟨b,0,J,λi hi=>?_⟩;have U:i<r:=yZ;have q:((be r).map λi=>C.X<|1+i)[i]? =some (.X<|1+i):=by simp[U]
  let ⟨Z,hw,yH⟩:=bL.get z q;have Ee:Z=g.γ (1+i):=yH;refine⟨[Z],J,?_,?_⟩
  .simp only[og,uA];refine⟨Z,J,?_⟩;rw[Ee];rcases p i U with⟨e,e2⟩|⟨Y,R,us,e,e2,e3,e4,e5,e6,e7,e8⟩
   .rw[e,e2];exact⟨none,0,J,ax,ax,.inl J⟩
   .refine⟨some ⟨Y,0,none⟩,R,e,e4,e5,?_⟩;by_cases hx:f i=[]
    .exact .inl hx
    refine .inr ⟨Y,0,J,λk d=>⟨(List.drop (k*x.n) us).take x.n,dk.length x _ _<|e6 k d,dk.mono A x _ _<|e6 k d,λj hj=>?_⟩⟩;have D:B Y:= .inr ⟨i,U,sK⟩;have oe:(k+1)*x.n<=R*x.n:=eB _ S;rw[g7,iL]at oe;simp only[il,yX]at hj;simp only[K,s D,dU,sT,uw];exact sU e2 _ S
  .intro j hj;have HM:j=0:=xc;subst HM;have D:B b:= .inl J;have O:i<G vs:=S;have Sd:vs[i]=Z:=by rw[bD O]at hw;exact Di hw
   simp only[K,s D,dU,vE,ET.n,kI,jE];rw[sU hh i bP,wW O,Sd]
 .intro k o d;have D:¬B k:=λe=>by
   rcases hSN k e with h1|h1
   .omega
   .exact l k h1
  simp only[K,M D];exact h.fresh k o d<|l k
 .intro k o v Q;by_cases e:B k
  .simp only[K,s e]at Q;exact Q
  .simp only[K,M e]at Q;exact h.sub k o v Q
end
def Mg(m:I)(b:Ks):V Ks->I->Bool
 |[],_=>ae
 |a::l,i=>(Nat.testBit m i|| !rD a b)&&Mg m b l (i+1)
def Mh:V I->V Ks->V Ks->Bool
 |m::ms,b::a,done=>Mg m b done 0&&Mh ms a (done++[b])
 |[],[],_=>ae
 |_,_,_=>false
def Se(a:V Oper)(b:V Ks):Bool:=C4 a 0&&Mh (xa a []) b []
def ZD(m:I)(b:Ks):∀(l:V Ks)(i:I),Mg m b l i=AB m b l i
 |[],_=>rfl
 |a::l,i=>by rw[Mg,AB,ZD m b l,Bool.or_comm]
def ZE:∀(a:V I)(c done:V Ks),Mh a c done=xb a c done
 |[],[],_=>rfl
 |[],_::_,_=>rfl
 |_::_,[],_=>rfl
 |m::a,b::c,done=>by rw[Mh,xb,ZD,ZE a c]
def pN{b}{a}{c}(d:(!b||Se a c)=ae):(!b||rE a c)=ae:=by
 have:Se a c=rE a c:=by rw[Se,rE,ZE]
 rwa[this]at d
def Ef(f:FuncId)(first a:V (Bool×V C)):MP where
 p:=λH v=>∃b,∃c d:V bH,cz b H/\v= .func (.func f) c.toArray d.toArray/\dt ⟨b,jc⟩ first c/\dt ⟨b,jc⟩ a d
 mono:=by rintro H i v hl ⟨b,c,d,g,h⟩;exact⟨b,c,d,g.trans hl,h⟩
def dt.iw{g}{a}{vs}(b:dt g a vs)(c:fN a=[]){H}(d:cz g.H H)(γ:I->bH):dt ⟨H,γ⟩ a vs:=
 dt.mono (known:=λ_=>False) ⟨d,λ_ b=>b.elim⟩ (by simp[c]) b
section
variable{P:cT}{tt:TT}
def ak6{n r}{B}{i}{Q:Oper}(ho:B[i]? =some Q)(hg:Q.guard=none){d:I}(hd:Q.dst=some d)(dC:d<n){f}{first b}(dZ:Q.op= .makeFunc (.func f) first b)
 {m}{R U}(hf:qC m first.toList=some R) (hc:qC m b.toList=some U) (h1:fN R=[]) (h2:fN U=[]):lI P n B i m (m.put d<|.c<|.M<|Ef f R U) r (cH<|first.toList++b.toList,[.s d]):=by
 refine⟨(first.toList++b.toList).flatMap<|dO m,[(.s d,some<|.v<|.c<|.M<|Ef f R U)],?_,?_,nH m d _,fZ m _,λk hk=>jG⟩
 .refine uu ho hg hd dC _ _ r ?_;intro F X y g W a p E;let ⟨e,_⟩:=Gt p m _ _ hf (λK l=>E K<|by rw[uC];exact fC _ l);let ⟨q,_⟩:=Gt p m _ _ hc (λK l=>E K<|by rw[uC];exact jo _ l);refine⟨λj t=>by simp[AV.ar,C.ar]at t,.func (.func f) (first.toList.map a.eval).toArray (b.toList.map a.eval).toArray,?_,g.H,_,_,cz.refl _,J,e.iw h1 (cz.refl _) jc,q.iw h2 (cz.refl _) jc⟩;rw[execOp,dZ];have u:first.map a.eval=(first.toList.map a.eval).toArray:=uy;have w:b.map a.eval=(b.toList.map a.eval).toArray:=uy;simp only[Instr.makeFunc,u,w];rfl
 .intro K l;let ⟨x,_,h⟩:=jF.1 l;exact gw m x K h
def Sf(c:C)(f:FuncId)(a b:V AV):Prop:=(c= .V (.func (.func f) ⟨[]⟩ ⟨[]⟩)/\a=[]/\b=[])\/∃d g,c= .M (Ef f d g)/\vS d=some a/\vS g=some b
def ZF{n m}{x}{i}{R:Oper}(ho:x[i]? =some R)(hg:R.guard=none){d:I}(hd:R.dst=some d)(dC:d<n){f}{vs}{r}(hf:af P f vs r)
 {F}(nF:F.n=n) {Q:Exit->Act->World->Prop} {c:I->Prop} {σ}{g:Gh} {W:World} {a:Act} {K:Act->World->Prop} (B:¬c m) (bC:bu F c σ g W a) (hK:∀g' U a',bu F (λp=>c p\/p=m) (dB σ [(.s d,some<|.v r)]) g' U a'->K a' U) {us:V bH} (Dm:ju ⟨g.H,jc⟩ vs us) (hex:(execOp a.eval R).run P W= .ok (.enter f us.toArray) W):wpOp P x Q i K a W:=by
 have A:=hf.spec g.H W us bC.sub Dm
 unfold wpOp
 simp only[ho,nG,hg,cA]
 refine .inl ?_
 unfold Oper.wp
 rw[hex]
 simp only[Oper.upon]
 refine A.mono ?_
 rintro e U ⟨v,z,rfl,C,hle,X,E,l⟩
 simp only[hd]
 have j:d<a.tmps.size:=pq
 refine hK ⟨z,g.γ⟩ U _<|bC.step (chg:=λ_=>False) (g':=⟨z,g.γ⟩) ⟨⟨hle,λ_ _=>rfl⟩,X,E,l.size,λk D _=>l.block k D,l.os,l.tape,l.output⟩ _ m B qt bC.defers ?_ (λ_ h=>h.elim) ?_ ?_ ?_ ?_
 .intro t ht;have q:d≠t:=rz;simp[jq,nf q]
 .intro t u ht;simp only[bf]at ht;split at ht
  .rename_i e;simp only[Key.s.injEq]at e;simp only[aR,Info.v.injEq]at ht;subst e;subst ht;have:=C.iw hf.iw (cz.refl _) g.γ;simpa[jq,j]using this
  .simp at ht
 .intro p b ht;simp[bf]at ht
 .intro k y ht;simp only[bf]at ht;split at ht
  .simp only[aR]at ht;subst ht;intro p w;have:p∈r.ar:=w;rw[hf.iw]at this;cases this
  .simp at ht
 .intro p y ht;simp[bf]at ht
def ZG{n new}{ops}{i}{br:Oper}(ho:ops[i]? =some br)(hg:br.guard=none){d:I}(hd:br.dst=some d)(U:d<n){cf}{args}{lV}(dZ:br.op= .call ⟨.value cf,args,lV⟩)
 {p}{c}{f:FuncId} {us ws vs:V AV} {r:AV} (hcf:p.ev cf=some (.c c)) (hfa:Sf c f us ws) (hv:km p args.toList=some vs) (R:fE (us++(vs++ws))=[]) (hf:af P f (us++(vs++ws)) r):lI P n ops i p (p.put d r) new (cH<|cf::args.toList,[.s d]):=by
 refine⟨(cf::args.toList).flatMap<|dO p,[(.s d,some<|.v r)],?_,?_,nH p d r,fZ p _,λk hk=>jG⟩
 .intro F X Q w Y g W a K E b e G;have l:=yQ b p _ _ hv (λj m=>e j<|by simp only[mm,b8];exact .inr m);have B:=gO b p cf _ hcf (λj m=>e j<|by simp only[mm,b8];exact .inl m);have q:args.map a.eval=(args.toList.map a.eval).toArray:=uy;have C:fE us=[]/\fE vs=[]/\fE ws=[]:=by rw[XP,XP,CS,CS]at R;exact R
  rcases hfa with⟨rfl,rfl,rfl⟩|⟨Z,cs,rfl,y,z⟩
  .have B:a.eval cf= .func (.func f) #[] #[]:=B;refine ZF ho hg hd U hf X E b G (us:=args.toList.map a.eval) ?_ ?_
   .simpa using l.iw (γ:=jc) C.2.1
   .rw[execOp,dZ];simp only[resolve,B,HN,pure_bind,Qs hf.call,q];simp
  .let ⟨H0,M,N,hle,t,A,D⟩:=B;have O:=KE y A;have S:=KE z D;have L:∀{xs:V AV}{u:V bH},ju ⟨H0,jc⟩ xs u->fE xs=[]->ju ⟨g.H,jc⟩ xs u:=by
    intro xs;induction xs with
    |nil=>intro u h _;exact h
    |cons x xs T=>
     intro u h R
     simp only[fE,CS]at R
     obtain⟨v,r,rfl,y,z⟩:=h
     exact⟨v,r,J,y.iw R.1 hle jc,T z R.2⟩
   refine ZF ho hg hd U hf X E b G (us:=M++(args.toList.map a.eval++N)) ?_ ?_
   .exact(L O C.1).append<|(l.iw (γ:=jc) C.2.1).append<|L S C.2.2
   .rw[execOp,dZ];simp only[resolve,t,HN,pure_bind,Qs hf.call,q];simp
 .intro j m;let ⟨x,_,h⟩:=jF.1 m;exact gw p x j h
def ak9{n new}{ops}{i}{R:Oper}(ho:ops[i]? =some R)(hg:R.guard=none){d:I}(hd:R.dst=some d)(dC:d<n){f}{args}{lV}(dZ:R.op= .call ⟨.value<|.func f,args,lV⟩)
 {B}{vs ZH}{r:AV} {ids:V I} (hv:km B args.toList=some vs) (hf:af P f ZH r) (hr:∀g g' v,bI g r v->bI g' r v)
  (ZI:∀(F:eF)(m:I->Prop)(σ:Kn)(g:Gh)(W:World)(a:Act)(us:V bH),bu F m σ g W a->(∀E∈k5 B ids,σ E.1=some E.2)->ju g vs us->∃HF,Sub HF W/\ju ⟨HF,jc⟩ ZH us):
  lI P n ops i B (B.put d r) new (cH args.toList++fv ids,[.s d]):=by
 refine⟨args.toList.flatMap (dO B)++k5 B ids,[(.s d,some<|.v r)],?_,?_,nH B d r,?_,λk hk=>jG⟩
 .intro F nF Q m σ g W a K w bC z hK;have C:=yQ bC B _ _ hv<|λE c=>z E<|fC _ c;let ⟨HF,U,X⟩:=ZI F m σ g W a _ bC (λE c=>z E<|jo _ c) C;have hc:=hf.spec HF W _ U X;have J:args.map a.eval=(args.toList.map a.eval).toArray:=uy;have L:(execOp a.eval R).run P W= .ok (.enter f (args.toList.map a.eval).toArray) W:=by
   have l:=hf.call;unfold oJ at l;rw[execOp,dZ];cases j:P.funcs[f]? with
   |none=>rw[j]at l;simp at l
   |some fn=>
    rw[j]at l
    simp only[eG,bne_iff_ne,ne_eq]at l
    have h2:fn.body≠none:=by intro D;rw[D]at l;simp at l
    simp[resolve,Act.eval,HN,invoke,callFunc,j,l.1,h2]
    exact J
  unfold wpOp;simp only[ho,nG,hg,cA];refine .inl ?_;unfold Oper.wp;rw[L];simp only[Oper.upon];refine hc.mono ?_;rintro e Y ⟨v,H',rfl,A,hle,rH,Z,p⟩;simp only[hd];have M:d<a.tmps.size:=pq;have q:Sub g.H Y:=by
   intro b R v hv;have G:=bC.sub b R v hv;have N:b<W.heap.size:=by
    simp only[FT]at G;cases D:W.heap[b]? with
    |none=>rw[D]at G;cases G
    |some x=>exact(jP.1 D).1
   simp only[FT,p.block b N];exact G
  refine hK g Y _<|bC.step (chg:=λ_=>False) (g':=g) ⟨⟨cz.refl _,λ_ _=>rfl⟩,λ_ _ _=>rfl,q,p.size,λk hk _=>p.block k hk,p.os,p.tape,p.output⟩ _ new w qt bC.defers ?_ (λ_ h=>h.elim) ?_ ?_ ?_ ?_
  .intro t ht;have O:d≠t:=rz;simp[jq,nf O]
  .intro t u ht;simp only[bf]at ht;split at ht
   .rename_i e;simp only[Key.s.injEq]at e;simp only[aR,Info.v.injEq]at ht;subst e;subst ht;have:=hr _ g _ A;simpa[jq,M]using this
   .simp at ht
  .intro S b ht;simp[bf]at ht
  .intro k y ht;simp only[bf]at ht;split at ht
   .simp only[aR]at ht;subst ht;intro S T;have:S∈r.ar:=T;rw[hf.iw]at this;cases this
   .simp at ht
  .intro S y ht;simp[bf]at ht
 .intro E c;rcases b8.1 c with c|c
  .let ⟨x,_,h⟩:=jF.1 c;exact gw B x E h
  .exact qA B ids E c
 .intro k hk;simp only[gn,fe,b8]at hk;rcases hk with h|h
  .exact fC _<|fZ B _ k h
  .exact jo _<|py B ids k h
end
def HO(l:V (I×AV))(d:I)(b:ET)(x:b.den):V (I×AV)->Prop
 |[]=>True
 | (f,g)::r=>((∃v,w f l=some v/\a7 v g)\/∃a,w f l=some (.c<|.P d a)/\g= .c (.E b x a))/\HO l d b x r
def HO.get{l:V (I×AV)}{i:I}{g:ET}{x:g.den}:∀{m:V (I×AV)},HO l i g x m->∀{d f},w d m=some f->(∃v,w d l=some v/\a7 v f)\/∃b,w d l=some (.c<|.P i b)/\f= .c (.E g x b)
 |[],_,_,_,a=>by simp[w]at a
 | (k,x)::m,hw,d,f,a=>by
  simp only[w]at a;split at a
  .rename_i n;subst n;cases a;exact hw.1
  .exact HO.get hw.2 a
def ak' l{E}{bz}{T}{x:T.den}{sl sl'}{mem mem'}{nx nx'}{gd gd'}(hl:w l mem=some (.box E bz<|av T x))(hs:HO sl l T x sl')(hm:iV mem mem')(Dd:w l mem'=none)
  (HP:eC (1000000*nx') mem') (BC:rG (1000000*nx') sl'=ae:=by rfl) (Mi:iv 1 nx'=ae:=by rfl):Wk ⟨sl,mem,nx,gd⟩ ⟨sl',mem',nx',gd'⟩:=by
 generalize uF:(⟨sl,mem,nx,gd⟩:St)=st
 generalize n:(⟨sl',mem',nx',gd'⟩:St)=f
 obtain rfl:sl=st.sl:=zC
 obtain rfl:mem=st.mem:=zC
 obtain rfl:sl'=f.sl:=by rw[<-n]
 obtain rfl:mem'=f.mem:=by rw[<-n]
 obtain rfl:nx'=f.nx:=by rw[<-n]
 clear uF n
 intro F s5 g W a h
 have A:∀l,l<F.k0->kb f l/\g.γ l=F.γ0 l:=by intro l Q;let ⟨D,h2⟩:=h.iJ l Q;refine⟨?_,h2⟩;show l<1000000*f.nx;have:=cY Mi;omega
 have Q:st.kn (.m l)=some (.b<|.box E bz<|av T x):=by simp[St.kn,hl]
 let ⟨b,vs,rest,X,hh,hr,hN,hz,_⟩:=h.db l _ Q
 let K:FH:=λd o=>if d=b then(vs++rest)[o]? else g.H d o
 let q:Gh:=⟨K,g.γ⟩
 have C:cz g.H K:=by
  intro d o v hv;by_cases e:d=b
  .subst e;rw[hz]at hv;cases hv
  .simp[K,e,hv]
 have r:iT (λ_=>True) g q:=⟨C,λ_ _=>rfl⟩
 have hd:dk K T x vs:=dk.mono C T x vs<|yx T x vs hr
 have V:∀k o,k≠b->K k o=g.H k o:=λk o u=>by simp[K,u]
 have Y:∀t p,f.kn (.s t)=some (.v p)->((∃v,st.kn (.s t)=some (.v v)/\a7 v p)\/∃B,st.kn (.s t)=some (.v<|.c<|.P l B)/\p= .c (.E T x B))/\∀l∈p.ar,l<1000000*f.nx:=by
  intro t p e;simp only[St.kn,cd]at e;let ⟨y,U,he⟩:=e;cases he;refine⟨?_,yR BC t p U⟩;rcases hs.get U with⟨v,hv,r⟩|⟨B,hv,e⟩
  .exact .inl ⟨v,mq,r⟩
  .exact .inr ⟨B,mq,e⟩
 have z:∀j d,f.kn (.m j)=some (.b d)->(∃b,st.kn (.m j)=some (.b b)/\cK b d)/\(j<1000000*f.nx/\∀i∈d.ar,i<1000000*f.nx)/\j≠l:=by intro t p e;simp only[St.kn,cd]at e;let ⟨y,U,he⟩:=e;cases he;let ⟨v,hv,r⟩:=hm.get U;exact⟨⟨v,mq,r⟩,HP t p U,λe=>by subst e;rw[Dd]at U;cases U⟩
 refine⟨q,h.size,h.defers,?_,?_,?_,?_,?_,?_,h.below,h.le.trans C,?_,A⟩
 .intro t p e;rcases(Y t p e).1 with⟨v,hv,G⟩|⟨B,hv,rfl⟩
  .exact G.1 _ _<|bI.mono r (λ_ _=>trivial)<|h.gM t v hv
  .obtain⟨d,Z,e2⟩:dn g (.P l B) (a.tmps.getD t undef):=h.gM t _ hv;rw[X]at Z;cases Z;refine⟨b,0,vs,by rw[e2];simp,hd,λj hj=>?_⟩;simp only[q,K,cA,dU];rw[yN hj];exact bD hj
 .intro j d e;let ⟨⟨c,hc,I⟩,_,L⟩:=z j d e;refine I.1 _ _ _ _<|(h.db j c hc).Dk r ala (λ_ _=>trivial)<|λk u=>⟨J,λo=>?_⟩;have M:k≠b:=λe=>L (by subst e;exact h.inj j l c _ k hc Q u X)
  exact V k o M
 .intro i j b1 b2 k e e' u N;let ⟨⟨c,hc,_⟩,_⟩:=z i b1 e;let ⟨⟨c',O,_⟩,_⟩:=z j b2 e';exact h.inj i j c c' k hc O u N
 .intro k y e i hi;cases k with
  |s t=>
   cases y with
   |v p=>exact(Y t p e).2 i hi
   |b d=>simp only[St.kn,cd]at e;let ⟨_,_,he⟩:=e;cases he
  |m j=>
   cases y with
   |v p=>simp only[St.kn,cd]at e;let ⟨_,_,he⟩:=e;cases he
   |b d=>exact(z j d e).2.1.2 i hi
 .intro j y e;cases y with
  |v p=>simp only[St.kn,cd]at e;let ⟨_,_,he⟩:=e;cases he
  |b d=>exact(z j d e).2.1.1
 .intro d o v hv;by_cases e:d=b
  .subst e;simp only[q,K,cA]at hv;simp[FT,hh,hv]
  .simp only[q,K,e,cC]at hv;exact h.sub d o v hv
 .intro d o S R;have:d≠b:=by
   intro e;subst e;rcases hN with D|D
   .omega
   .exact R D
  show K d o=_;rw[V d o this];exact h.fresh d o S R
def HQ(g:Gh)(c:V (I×aH))(b:I):Prop:=∃a d,w a c=some d/\cP (g.γ a)=some b
def alb(g:Gh)(W:World)(c:V (I×aH))(r:AV)(f:Ending)(d:World):Prop:=
 ∃v a,f= .returned v/\bI ⟨a,jc⟩ r v/\cz g.H a/\(∀b o,b<W.heap.size->¬HQ g c b->a b o=g.H b o)/\Sub a d/\CF (HQ g c) W d
structure Eg(P:cT)(f:FuncId)(args:V AV)(fm:V (I×aH))(r:AV):Prop where
 call:oJ P f=ae
 iw:r.ar=[]
 spec:∀g W vs,Sub g.H W->ju g args vs->(∀c b,w c fm=some b->jn (λ_=>True) g W c b)->(∀c a b d k,w c fm=some b->w a fm=some d->cP (g.γ c)=some k->cP (g.γ a)=some k->c=a)->Calls P f vs.toArray W (alb g W fm r)
def ZJ(P:cT)(f:Func)(r:AV):ix:=λF e a W=>bodyPost P f (λe d=>∃v c,e= .returned v/\bI ⟨c,jc⟩ r v/\cz F.H0 c/\(∀b o,b<F.w0.heap.size->¬F.own b->c b o=F.H0 b o)/\Sub c d/\CF F.own F.w0 d) e a W
section
variable{P:cT}{tt:TT}{n:I}{st:St}
def Sg(c:cN P tt=ae){i}{k}{l r}(m:oK tt st k=some l)(d:a7 l r)(f:i.results=k.toArray:=by rfl)(p:r.ar=[]:=by rfl):fw n .ret st (ZJ P i r):=by intro F v g W a h;let ⟨u,hu,b⟩:=AG c h f m;exact⟨h.defers.trans v.ds,u,hu,u,g.H,J,(d.1 _ _ b).iw p (cz.refl _) jc,h.le,h.fresh,h.sub,h.below⟩
def ZK{f}{B}{c}{args}{E}{r}p(hf:P.funcs[f]? =some B)(hb:B.body=some c)(hN:B.ntmps=n)(Q:iv args.length n=ae)(y':∀d∈fE args,d<1000000*p)(R:eC (1000000*p) E)(Qz:r.ar=[])(yU:(B.name != "runtime.NumGoroutine")=ae)
  (bW:TR P n c ⟨k8 0 args,E,p,[]⟩ (ZJ P B r)):Eg P f args E r:=by
 refine⟨C9,Qz,?_⟩
 intro g W vs C l K U
 refine calls_of_wp hf hb ?_
 have A:=yS l
 have Q:=cY Q
 have i:∀d b,St.kn ⟨k8 0 args,E,p,[]⟩ (.m d)=some (.b b)->w d E=some b:=by intro d b e;simp only[St.kn,cd]at e;let ⟨x,hx,he⟩:=e;cases he;exact hx
 let F:eF:={w0:=W,H0:=g.H,n:=n,own:=HQ g E,k0:=0}
 refine wp_mono (bW F ⟨J,aW _,J,J⟩ g W _ ⟨?_,J,?_,?_,?_,?_,?_,C,⟨J,J,J,a8 _,λ_ _ _=>rfl⟩,cz.refl _,λ_ _ _ _=>rfl,λ_ bW=>absurd bW<|yV _⟩)<|λe a Y L=>L
 .simp[hN,F];omega
 .intro t v D;simp only[St.kn,cd]at D;let ⟨x,hx,he⟩:=D;cases he;let ⟨_,u,hu,M,_⟩:=oL args vs 0 l t v hx;have X:vs[t]? =some u:=AH;have iD:t<G vs:=(uv.1 X).1;have:(vs.toArray++Array.replicate (B.ntmps-vs.toArray.size) undef).getD t undef=u:=by rw[ux,yW C'];simp[X]
  rw[this];exact M
 .intro d b e;have z:=i d b e;exact(K d b z).Dj (λk N=> .inr ⟨d,b,z,N⟩) J J ⟨cz.refl _,λ_ _=>rfl⟩
 .intro d o b I k e z O S;exact U d o b I k (i d b e) (i o I z) O S
 .intro k x e d q;cases k with
  |m j=>
   cases x with
   |v y=>simp only[St.kn,cd]at e;let ⟨_,_,he⟩:=e;cases he
   |b b=>exact(R j b<|i j b e).2 d q
  |s t=>
   simp only[St.kn,cd]at e
   let ⟨y,T,he⟩:=e
   subst he
   let ⟨_,u,_,_,V⟩:=oL args vs 0 l t y T
   exact y' d<|V d q
 .intro d x e;cases x with
  |v y=>simp only[St.kn,cd]at e;let ⟨_,_,he⟩:=e;cases he
  |b b=>exact(R d b<|i d b e).1
def Mj{c:Type}{d:I}{b:c}:∀{l:V (I×c)},w d l=some b->d∈l.map (·.1)
 |[],a=>by simp[w]at a
 | (g,x)::l,a=>by
  simp only[w]at a;split at a
  .rename_i f;simp[f]
  .exact uj _<|Mj a
def ZL{d:Type}{c:I}:∀{l:V (I×d)},c∈l.map (·.1)->∃b,w c l=some b
 |[],a=>by cases a
 | (g,x)::l,a=>by
  simp only[w];split
  .exact⟨x,J⟩
  .rename_i f;rcases df.1 a with a|a
   .exact absurd a.symm f
   .exact ZL a
def BD(l:V I):∀k,bf (l.map λa=>((.m a:Key),(none:Option Info))) k=(match k with| .m a=>if a∈l then some none else none| .s _=>none):=by
 induction l with
 |nil=>intro k;cases k<;>simp[bf]
 |cons x l b=>
  intro k
  simp only[gZ,bf]
  cases k with
  |s t=>simp[b]
  |m a=>
   by_cases e:x=a
   .subst e;simp
   .simp only[Key.m.injEq,e,cC,b,df];have:¬a=x:=λh=>e h.symm
    simp[this]
def alc{n new}{ops}{i}{br:Oper}(ho:ops[i]? =some br)(hg:br.guard=none){d:I}(hd:br.dst=some d)(dC:d<n){f}{args}{lV}(dZ:br.op= .call ⟨.value<|.func f,args,lV⟩)
 {sl}{l p}{nx:I} {gd:V (I×Bool)} {vs:V AV} {r:AV} (hv:km ⟨sl,l++p,nx,gd⟩ args.toList=some vs) (hf:Eg P f vs p r) (ZM:∀c b,w c p=some b->w c l=none):
  lI P n ops i ⟨sl,l++p,nx,gd⟩ ⟨(d,r)::sl,l,nx,gd⟩ new (cH args.toList++fv (p.map (·.1)),.s d::(p.map (·.1)).map .m):=by
 have O:∀c b,w c p=some b->w c (l++p)=some b:=λc b B=>by rw[x5,ZM c b B,B];rfl
 refine⟨args.toList.flatMap (dO ⟨sl,l++p,nx,gd⟩)++k5 ⟨sl,l++p,nx,gd⟩ (p.map (·.1)),(.s d,some<|.v r)::(p.map (·.1)).map (λc=>(.m c,none)),?_,?_,?_,?_,?_⟩
 .intro F nF Q known σ g W a K FD bC kX hK;have S:=yQ bC _ _ _ hv<|λZ C=>kX Z<|fC _ C;have KD:=XG (st:=⟨sl,l++p,nx,gd⟩) (ids:=p.map (·.1)) (σ:=σ)<|λZ C=>kX Z<|jo _ C;have A:∀c b,w c p=some b->σ (.m c)=some (.b b):=λc b B=>KD c (Mj B) b (O c b B)
  have hc:=hf.spec g W _ bC.sub S (λc b B=>(bC.db c b<|A c b B).Dj (λ_ _=>trivial) J J ⟨cz.refl _,λ_ _=>rfl⟩)<|λc Dh b b' k E z h3 h4=>bC.inj c Dh b b' k (A c b E) (A Dh b' z) h3 h4;unfold wpOp;simp only[ho,nG,hg,cA];refine .inl ?_;unfold Oper.wp;have y':args.map a.eval=(args.toList.map a.eval).toArray:=uy;have hex:(execOp a.eval br).run P W= .ok (.enter f (args.toList.map a.eval).toArray) W:=by
   have H:=hf.call;unfold oJ at H;rw[execOp,dZ];cases Y:P.funcs[f]? with
   |none=>rw[Y]at H;simp at H
   |some fn=>
    rw[Y]at H
    simp only[eG,bne_iff_ne,ne_eq]at H
    have z:fn.body≠none:=by intro B;rw[B]at H;simp at H
    simp[resolve,Act.eval,HN,invoke,callFunc,Y,H.1,z]
    exact y'
  rw[hex];simp only[Oper.upon];refine hc.mono ?_;rintro e W' ⟨v,H',rfl,Sh,hle,rH,AR,X⟩;simp only[hd];have ki:d<a.tmps.size:=pq;have G:iT (λ_=>True) g ⟨H',g.γ⟩:=⟨hle,λ_ _=>rfl⟩;have hN:∀b,HQ g p b->F.N b:=by rintro b ⟨c,bb,E,z⟩;exact((bC.db c bb<|A c bb E).block z).1
  have hM:∀j b,dB σ ((.s d,some<|.v r)::(p.map (·.1)).map (λc=>(.m c,none))) (.m j)=some (.b b)->σ (.m j)=some (.b b)/\∀k,cP (g.γ j)=some k->¬HQ g p k:=by
   intro j b B;simp only[dB,bf,reduceCtorEq,cC,BD]at B;by_cases e:j∈p.map (·.1)
   .rw[s e]at B;cases B
   .rw[M e]at B;refine⟨B,λk R=>?_⟩;rintro⟨c,bb,E,z⟩;have:=bC.inj j c b bb k B (A c bb E) R z;subst this;exact e<|Mj E
  refine hK ⟨H',g.γ⟩ W' _ ⟨by simp[jq,bC.size],bC.defers,?_,?_,?_,?_,?_,AR,?_,bC.le.trans hle,?_,λc q=>⟨.inl (bC.iJ c q).1,(bC.iJ c q).2⟩⟩
  .intro t u ht;simp only[dB,bf,BD]at ht;by_cases e:d=t
   .subst e;simp only[cA,aR,Info.v.injEq]at ht;subst ht;have:=Sh.iw hf.iw (cz.refl _) g.γ;simpa[jq,ki]using this
   .have e':¬(Key.s d=Key.s t):=λh=>e du
    simp only[e',cC]at ht;have hv:(a.put (some d) v).tmps.getD t undef=a.tmps.getD t undef:=by simp[jq,nf e]
    rw[hv];exact bI.mono G (λ_ _=>trivial)<|bC.gM t u ht
  .intro j b B;let ⟨E,z⟩:=hM j b B;have L:=bC.db j b E;refine L.Dk G T (λ_ _=>trivial)<|λk R=>?_;have y:=(L.block R).2;exact⟨X.block k y<|z k R,λbr=>rH k br y<|z k R⟩
  .intro j j' b b' k B vA E z;exact bC.inj j j' b b' k (hM j b B).1 (hM j' b' vA).1 E z
  .intro k x U c q;cases k with
   |s t=>
    simp only[dB,bf,BD]at U
    by_cases e:d=t
    .subst e;simp only[cA,aR]at U;subst U;have:c∈r.ar:=q;rw[hf.iw]at this;cases this
    .have e':¬(Key.s d=Key.s t):=λh=>e du
     simp only[e',cC]at U;exact .inl<|bC.ar _ _ U c q
   |m j=>
    simp only[dB,bf,reduceCtorEq,cC,BD]at U
    by_cases e:j∈p.map (·.1)
    .rw[s e]at U;cases U
    .rw[M e]at U;exact .inl<|bC.ar _ _ U c q
  .intro j x U;simp only[dB,bf,reduceCtorEq,cC,BD]at U;by_cases e:j∈p.map (·.1)
   .rw[s e]at U;cases U
   .rw[M e]at U;exact .inl<|bC.fD _ _ U
  .refine⟨X.os.trans bC.below.os,X.tape.trans bC.below.tape,X.output.trans bC.below.output,cQ bC.below.size X.size,λk R D=>?_⟩;have y:k<W.heap.size:=jD R bC.below.size;rw[<-bC.below.block k R D];refine X.block k y<|λho=>?_;rcases hN k ho with E|E
   .omega
   .exact D E
  .intro k br R D;have y:k<W.heap.size:=jD R bC.below.size;show H' k br=_;rw[rH k br y (λho=>?_)]
   .exact bC.fresh k br R D
   .rcases hN k ho with E|E
    .omega
    .exact D E
 .intro Z C;rcases b8.1 C with C|C
  .let ⟨x,_,h⟩:=jF.1 C;exact gw _ x Z h
  .exact qA _ _ Z C
 .funext k;cases k with
  |s t=>
   simp only[dB,bf,BD,St.kn,w]
   by_cases e:d=t
   .simp[e]
   .have e':¬(Key.s d=Key.s t):=λh=>e du
    simp[e,e']
  |m j=>
   simp only[dB,bf,reduceCtorEq,cC,BD,St.kn]
   by_cases e:j∈p.map (·.1)
   .rw[s e];let ⟨b,B⟩:=ZL e;simp[ZM j b B]
   .rw[M e];show _=Option.map Info.b (w j<|l++p);rw[x5];cases E:w j p with
    |some b=>exact absurd (Mj E) e
    |none=>rw[Option.or_none]
 .intro k R;simp only[gn,fe,b8]at R;rcases R with h|h
  .exact fC _<|fZ _ _ k h
  .exact jo _<|py _ _ k h
 .intro k R;simp only[oc,gZ,df,LS]at R;rcases R with h|h
  .exact df.2<|.inl h
  .refine df.2<|.inr ?_;simpa[Function.comp]using h
end
def eU(b:I)(c:eL)(r:I)(E:eL)(a:ET)(f:I->V a.den):V (I×aH):=(b,.box c 0<|(be r).map λi=> .X<|1+i)::gJ r E a f
def eV{b:Type}{k a}{x}{l:V (I×b)}(c:k≠a):w a ((k,x)::l)=w a l:=by simp only[w,M c]
def BE{b:Type}{a}{x}{l:V (I×b)}:w a ((a,x)::l)=some x:=by simp only[w,s]
def Si{K b}{g}{r}{E}{d}{f:I->V d.den}(k:b<K)(l:1+r<=K):nh K (eU b g r E d f)=ae:=by simp only[eU,nh,aH.ar,eG];refine⟨⟨Sa k,ZC λc m p a=>?_⟩,ak2 l⟩;obtain⟨i,n,rfl⟩:=kY.1 m;have:=jO.1 n;simp only[C.ar,iu]at a;omega
def iP{a}{sl'}{conc}{nx'}{gd'}{o}{E0}{r}{E}{T}{f:I->V T.den}(k:xe a.sl sl')(l:iV a.mem conc)
  (b:w o a.mem=some (.box E0 0<|(be r).map λi=> .X<|1+i)) (m:∀i,i<r->w (1+i) a.mem=some (.vec E T<|f i)) (x:r<=900) (d:(rG (1000000*nx') sl'&&nh (1000000*nx') conc&&iv 1 nx'&&f' o (1000000*nx'))=ae:=by rfl):Wk a ⟨sl',conc++eU o E0 r E T f,nx',gd'⟩:=by
 simp only[eG]at d
 let ⟨⟨⟨n,h2⟩,g⟩,p⟩:=d
 have c:o<1000000*nx':=cY p
 have v:=cY g
 refine wk k (iV.app l ⟨⟨_,b,cK.refl _⟩,iV.gJ m⟩) ?_
 simp only[eG,vI]
 exact⟨⟨n,R' h2<|Si c S⟩,.inl g⟩
def Sj(d:I)(c:ET)(xs:V c.den):∀a b:V (I×aH),mQ d c xs (a++b)=mQ d c xs a++mQ d c xs b
 |[],_=>rfl
 | (f,x)::a,b=>by
  simp only[kU,mQ];split
  .exact Sj d c xs a b
  .rw[Sj d c xs a b];rfl
def ZN{b:I}{c:ET}{xs:V c.den}:∀{a:V I},(∀i∈a,1+i≠b)->xj b c xs (a.map λi=>C.X<|1+i)=a.map λi=>C.X (1+i)
 |[],_=>rfl
 |i::a,d=>by simp only[gZ,xj,xi];rw[M (d i ax),ZN λf g=>d f<|by simp[g]]
def ZO{c:I}{d:ET}{xs:V d.den}{E:eL}{b:ET}{f:I->V b.den}:∀{a:V I},(∀i∈a,1+i≠c)->mQ c d xs (a.map λi=>(1+i,aH.vec E b<|f i))=a.map λi=>(1+i,aH.vec E b<|f i)
 |[],_=>rfl
 |i::a,g=>by simp only[gZ,mQ,Gf];rw[M (g i ax),ZO λk l=>g k<|by simp[l]]
def ald{b}{k}{xs}{c}{g}{r}{E}{d}{f:I->V d.den}(l:c≠b)(m:1000<=b)(p:r<=900):mQ b k xs (eU c g r E d f)=eU c g r E d f:=by
 have a:∀i∈be r,1+i≠b:=λi n=>by have:=jO.1 n;omega
 unfold eU gJ;simp only[mQ,M l,Gf];rw[ZN a,ZO a]
section
variable{n:I}{Q:ix}
def HR id{B}{l}{xs}{c}{p}{a}{v}{x}{d}{m}{r}{E}{i}{f:I->V i.den}(F:w id (a++eU d m r E i f)=some (.vec B l xs)){g}{b}(H:vO id l xs p=g)(P:mQ id l xs a=b)(R:r<=900)
  (U:TR j n c ⟨g,b++eU d m r E i f,v,x⟩ Q) (k:(iv 1000 id&& !Nat.beq d id)=ae:=by rfl):TR j n c ⟨p,a++eU d m r E i f,v,x⟩ Q:=by
 simp only[eG,C5]at k
 have C:=cY k.1
 have K:d≠id:=λe=>by rw[e,Mk]at k;cases k.2
 refine cD id F H J ?_
 rw[Sj,P,ald K C R]
 exact U
end
section
variable{n:I}{sl sl':V (I×AV)}{mem mem':V (I×aH)}{nx:I}{gd gd':V (I×Bool)}{ops:Array Oper}{draw:Bool}{p:Pr}{ks dd:V Ks}{i i' n0 bQ:I}{os dm:V Oper}{d:I}{ty:eL}{pos:String}{hJ:Array Edge}{R:St->Prop}
def rk k{b}(c:runs dD n nx draw ops.toList (List.take k os) i ⟨sl,mem,n0,gd⟩ .t ks=([],i',⟨sl',mem',bQ,gd'⟩,p,dd))(a:List.drop k os=b::dm)(f:RG j n ops draw nx i' (b::dm) ⟨sl',mem',bQ,gd'⟩ dd R)
  (hp:p:=by exact xg):RG j n ops draw nx i os ⟨sl,mem,n0,gd⟩ ks R:=akU a6 k c hp a f
def iZ{op:Op}{x}{c}(f:runs dD n nx draw ops.toList os i ⟨sl,mem,n0,gd⟩ .t ks=(⟨some d,op,ty,pos,hJ,none⟩::dm,i',⟨sl',mem',bQ,gd'⟩,p,dd))(g:Gq dD ⟨sl',mem',bQ,gd'⟩ op=some (x,c))(a:c)
  (k:RG j n ops draw nx (i'+1) dm ⟨(d,x)::sl',mem',bQ,gd'⟩ (ff draw dd (cH op.operands.toList,[.s d])) R)
  (l:p:=by exact xg) (b:f' d n=ae:=by rfl):RG j n ops draw nx i os ⟨sl,mem,n0,gd⟩ ks R:=
 jI a6 f l (akX a6 g a k b)
end
def Sk(c:C):∀m,xl [c] m=bh m c
 |0=>rfl
 |m+1=>by rw[xl,Sk c m];rfl
def ale{F}{P:I->Prop}{σ}{g}{W}{a}(bW:bu F P σ g W a){d r}{E0}{bz}{E}{x}{f:I->V x.den}(ho:σ (.m d)=some (.b<|.box E0 bz<|(be r).map λi=> .X<|1+i))(hf:∀i,i<r->σ (.m<|1+i)=some (.b<|.vec E x<|f i))(hr:r<=140737488355328):
  ∃HF,cz g.H HF/\Sub HF W/\∀k l c v,dn g (.L d k l<|some c) v->k+l<=r->l<=c->m' (dk HF<|.sl x) 1 HF ((be l).map λi=>f<|k+i) v:=by
 let ⟨b,vs,rest,N,hh,u,hN,hz,_⟩:=bW.db d _ ho
 have B:=λi(hi:i<r)=>bW.db (1+i) (.vec E x<|f i)<|hf i hi
 let t:I->Prop:=λk=>k=b\/∃i,i<r/\cP (g.γ<|1+i)=some k
 have O:∀k,t k->∀d,g.H k d=none:=by
  rintro k (rfl|⟨i,hi,y⟩) d
  .exact hz d
  .rcases B i hi with⟨e,_⟩|⟨D,c,us,e,_,_,_,_,_,_,Y⟩
   .rw[e]at y;cases y
   .rw[e]at y;simp only[cP,aR]at y;subst y;exact Y d
 classical
 let Q:FH:=λk d=>if t k then W.cell? ⟨k,d,none⟩else g.H k d
 have z:cz g.H Q:=by
  intro k d v K;by_cases e:t k
  .rw[O k e d]at K;cases K
  .simp only[Q,M e];exact K
 have Z:=u.length
 simp only[cL,uL]at Z
 refine⟨Q,z,?_,?_⟩
 .intro k d v K;by_cases e:t k
  .simp only[Q,s e]at K;exact K
  .simp only[Q,M e]at K;exact bW.sub k d v K
 .rintro k l c v ⟨b',p,KN⟩ ZP Sl;rw[N]at p;simp only[aR]at p;subst p;refine⟨some ⟨b,k,none⟩,c,by rw[KN];simp,by simpa using Sl,by simp only[cL,uL];omega,?_⟩;by_cases h0:l=0
  .subst h0;exact .inl J
  refine .inr ⟨b,k,J,λi hi=>?_⟩;have hi':i<l:=yZ;have R:k+i<r:=S;have U:((be r).map λi=>C.X<|1+i)[k+i]? =some (.X<|1+(k+i)):=by simp[R]
  let ⟨w,hw,yH⟩:=bL.get u U;have Ee:w=g.γ (1+(k+i)):=yH;refine⟨[w],J,?_,?_⟩
  .simp only[og,uA];refine⟨w,J,?_⟩;rw[Ee];rcases B (k+i) R with⟨e,e2⟩|⟨D,c,us,e,e2,e3,e4,e5,e6,e7,e8⟩
   .rw[e,e2];exact⟨none,0,J,ax,ax,.inl J⟩
   .refine⟨some ⟨D,0,none⟩,c,e,e4,e5,?_⟩;by_cases hx:f (k+i)=[]
    .exact .inl hx
    refine .inr ⟨D,0,J,λq hq=>⟨(List.drop (q*x.n) us).take x.n,dk.length x _ _<|e6 q hq,dk.mono z x _ _<|e6 q hq,λj hj=>?_⟩⟩;have hS:t D:= .inr ⟨k+i,R,sK⟩;have oe:(q+1)*x.n<=c*x.n:=eB _ S;rw[g7,iL]at oe;simp only[il,yX]at hj;simp only[Q,s hS,dU,sT,uw];exact sU e2 _ S
  .intro j hj;have HM:j=0:=xc;subst HM;have hS:t b:= .inl J;have A:k+i<G vs:=S;have Sd:vs[k+i]=w:=by rw[bD A]at hw;exact Di hw
   simp only[Q,s hS,vE,kI,jE];rw[sU hh (k+i) bP,wW A,Sd]
section
variable{n:I}{Q:ix}{sl sl':V (I×AV)}{mem mem':V (I×aH)}{nx:I}{gd gd':V (I×Bool)}{ops:Array Oper}{draw:Bool}{p:Pr}{ks dd:V Ks}{i i' n0 bQ:I}{os dm:V Oper}{d:I}{ty:eL}{pos:String}{hJ:Array Edge}{R:St->Prop}
def Ml{f}{first a}{b g}(l:runs dD n nx draw ops.toList os i ⟨sl,mem,n0,gd⟩ .t ks=(⟨some d,.makeFunc (.func f) first a,ty,pos,hJ,none⟩::dm,i',⟨sl',mem',bQ,gd'⟩,p,dd))(m:qC ⟨sl',mem',bQ,gd'⟩ first.toList=some b)(r:qC ⟨sl',mem',bQ,gd'⟩ a.toList=some g)
  (v:RG j n ops draw nx (i'+1) dm ⟨(d,.c<|.M<|Ef f b g)::sl',mem',bQ,gd'⟩ (ff draw dd (cH<|first.toList++a.toList,[.s d])) R) (x:fN b=[]:=by rfl) (B:fN g=[]:=by rfl)
  (E:p:=by exact xg) (k:f' d n=ae:=by rfl):RG j n ops draw nx i os ⟨sl,mem,n0,gd⟩ ks R:=
 jI a6 l E (k7 (λC=>ak6 C J J (cY k) J m r x B)<|jH v)
def BF{cf}{args}{a}{c}{f}{b g vs}{r}(v:runs dD n nx draw ops.toList os i ⟨sl,mem,n0,gd⟩ .t ks=(⟨some d,.call ⟨.value cf,args,a⟩,ty,pos,hJ,none⟩::dm,i',⟨sl',mem',bQ,gd'⟩,p,dd))(k:St.ev ⟨sl',mem',bQ,gd'⟩ cf=some (.c c))(l:Sf c f b g)(x:km ⟨sl',mem',bQ,gd'⟩ args.toList=some vs)(B:af j f (b++(vs++g)) r)
  (E:RG j n ops draw nx (i'+1) dm ⟨(d,r)::sl',mem',bQ,gd'⟩ (ff draw dd (cH<|cf::args.toList,[.s d])) R) (F:fE (b++(vs++g))=[]:=by rfl)
  (hp:p:=by exact xg) (m:f' d n=ae:=by rfl):RG j n ops draw nx i os ⟨sl,mem,n0,gd⟩ ks R:=
 jI a6 v hp (k7 (λC=>ZG C J J (cY m) J k l x F B)<|jH E)
def Sn{H k}{a b}{cf}{args}{g}{c}{f}{l m vs}{r}(P:runs dD n nx draw ops.toList os i ⟨sl,mem,n0,gd⟩ .t ks=(⟨some d,.call ⟨.value cf,args,g⟩,ty,pos,hJ,some (H,a)⟩::dm,i',⟨sl',mem',bQ,gd'⟩,p,dd))(U:vH ops.toList H=some k)(W:w k sl'=some (.c<|.B b))(v:b=a)(x:St.ev ⟨sl',mem',bQ,gd'⟩ cf=some (.c c))(E:Sf c f l m)(hv:km ⟨sl',mem',bQ,gd'⟩ args.toList=some vs)(hf:af j f (l++(vs++m)) r)
  (hk:RG j n ops draw nx (i'+1) dm ⟨(d,r)::sl',mem',bQ,gd'⟩ (ff draw dd (.s k::cH (cf::args.toList),[.s d])) R) (hm:fE (l++(vs++m))=[]:=by rfl)
  (hp:p:=by exact xg) (F:f' d n=ae:=by rfl):RG j n ops draw nx i os ⟨sl,mem,n0,gd⟩ ks R:=
 jI a6 P hp (k7 (λC=>J' C J U W v<|ZG (ops:= #[⟨some d,.call ⟨.value cf,args,g⟩,ty,pos,hJ,none⟩]) (i:=0) J J J (cY F) J x E hv hm hf)<|jH hk)
def ZQ{f}{args}{H}{x r k b l}{E0}{bz}{E}{P}{F:I->V P.den}{m:MP}{z}(bW:runs dD n nx draw ops.toList os i ⟨sl,mem,n0,gd⟩ .t ks=(⟨some d,.call ⟨.value<|.func f,args,H⟩,ty,pos,hJ,none⟩::dm,i',⟨sl',mem',bQ,gd'⟩,p,dd))(hv:km ⟨sl',mem',bQ,gd'⟩ args.toList=some [.c (.L x k b<|some l),.c<|.M m])
  (ho:w x mem'=some (.box E0 bz<|(be r).map λi=> .X<|1+i)) (hF:∀i,i<r->w (1+i) mem'=some (.vec E P<|F i)) (hr:r<=140737488355328) (U:k+b<=r) (Sl:b<=l)
  (hf:af j f [N (.sl P) ((be b).map λi=>F<|k+i),.c<|.M m] (.c z)) (hz:∀g g' v,dn g z v->dn g' z v)
  (hk:RG j n ops draw nx (i'+1) dm ⟨(d,.c z)::sl',mem',bQ,gd'⟩ (ff draw dd (cH args.toList++fv (x::(be r).map λi=>1+i),[.s d])) R)
  (hp:p:=by exact xg) (dC:f' d n=ae:=by rfl):RG j n ops draw nx i os ⟨sl,mem,n0,gd⟩ ks R:=by
 refine jI a6 bW hp<|k7 (λK=>ak9 K J J (cY dC) J hv hf hz (ids:=x::(be r).map λi=>1+i) ?_)<|jH hk
 intro Fx e D g W a us B q u
 have C:=XG (st:=⟨sl',mem',bQ,gd'⟩) (ids:=x::(be r).map λi=>1+i) (σ:=D) q
 let ⟨G,O,h2,S⟩:=ale B (C x ax _ ho) (λi y=>C (1+i) (uj _<|kY.2 ⟨i,jO.2 y,J⟩) _<|hF i y) hr
 refine⟨G,h2,?_⟩
 obtain⟨A,r1,rfl,Y,Z,r2,rfl,k2,k3⟩:=u
 exact⟨A,_,J,S k b l A Y U Sl,Z,r2,J,m.mono _ _ _ O k2,k3⟩
def rcc{f}{args}{c}{conc fm}{vs}{r}(l:runs dD n nx draw ops.toList os i ⟨sl,mem,n0,gd⟩ .t ks=(⟨some d,.call ⟨.value<|.func f,args,c⟩,ty,pos,hJ,none⟩::dm,i',⟨sl',conc++fm,bQ,gd'⟩,p,dd))(v:km ⟨sl',conc++fm,bQ,gd'⟩ args.toList=some vs)(x:Eg j f vs fm r)(a:∀k b,w k fm=some b->w k conc=none)
  (B:RG j n ops draw nx (i'+1) dm ⟨(d,r)::sl',conc,bQ,gd'⟩ (ff draw dd (cH args.toList++fv (fm.map (·.1)),.s d::(fm.map (·.1)).map .m)) R)
  (E:p:=by exact xg) (g:f' d n=ae:=by rfl):RG j n ops draw nx i os ⟨sl,mem,n0,gd⟩ ks R:=
 jI a6 l E (k7 (λC=>alc C J J (cY g) J v x a)<|jH B)
end
def HS(l:V (I×AV))(a:I):V (I×AV)->Prop
 |[]=>True
 | (b,d)::r=>((∃v,w b l=some v/\a7 v d)\/(w b l=some (.c<|.V<|.slice none 0 0)/\d= .c (.X a)))/\HS l a r
def HS.get{l:V (I×AV)}{f:I}:∀{m:V (I×AV)},HS l f m->∀{b d},w b m=some d->(∃v,w b l=some v/\a7 v d)\/(w b l=some (.c<|.V<|.slice none 0 0)/\d= .c (.X f))
 |[],_,_,_,a=>by simp[w]at a
 | (k,x)::m,hw,b,d,a=>by
  simp only[w]at a;split at a
  .rename_i g;subst g;cases a;exact hw.1
  .exact HS.get hw.2 a
def r6 d E Q{sl}{mem}{nx}{gd}{sl'}{m2}{nx'}{gd'}(hs:HS sl d sl')(hm:iV mem m2)(R:iv (1000000*nx) d=ae)
  (HP:eC (1000000*nx') ((d,.vec E Q [])::m2)) (BC:rG (1000000*nx') sl'=ae:=by rfl) (n:(iv 1 nx'&&iv 1 d)=ae:=by rfl):Wk ⟨sl,mem,nx,gd⟩ ⟨sl',(d,.vec E Q [])::m2,nx',gd'⟩:=by
 generalize uF:(⟨sl,mem,nx,gd⟩:St)=st
 obtain rfl:sl=st.sl:=zC
 obtain rfl:mem=st.mem:=zC
 obtain rfl:nx=st.nx:=zC
 clear uF
 intro F Y g W a h
 simp only[eG]at n
 obtain⟨n,C⟩:=n
 have n:=cY n
 have C:=cY C
 have R:=cY R
 let P:Gh:=⟨g.H,λj=>if j=d then .slice none 0 0 else g.γ j⟩
 have f:iT (kb st) g P:=⟨cz.refl _,λj z=>by have z:j<1000000*st.nx:=z;have:j≠d:=S;simp[P,this]⟩
 have r:P.γ d= .slice none 0 0:=by simp[P]
 have A:∀d,d<F.k0->d<1000000*nx'/\P.γ d=F.γ0 d:=by intro j z;obtain⟨D,Z⟩:=h.iJ j z;refine⟨S,?_⟩;rw[f.γ j D];exact Z
 have M:∀t l,St.kn ⟨sl',(d,.vec E Q [])::m2,nx',gd'⟩ (.s t)=some (.v l)->((∃v,st.kn (.s t)=some (.v v)/\a7 v l)\/(st.kn (.s t)=some (.v<|.c<|.V<|.slice none 0 0)/\l= .c (.X d)))/\∀d∈l.ar,d<1000000*nx':=by
  intro t l e;simp only[St.kn,cd]at e;obtain⟨y,K,x⟩:=e;cases x;refine⟨?_,yR BC t l K⟩;rcases hs.get K with⟨v,hv,f⟩|⟨hv,e⟩
  .exact .inl ⟨v,mq,f⟩
  .exact .inr ⟨mq,e⟩
 have U:∀j p,St.kn ⟨sl',(d,.vec E Q [])::m2,nx',gd'⟩ (.m j)=some (.b p)->((j=d/\p= .vec E Q [])\/∃b,st.kn (.m j)=some (.b b)/\cK b p)/\(j<1000000*nx'/\∀i∈p.ar,i<1000000*nx'):=by
  intro t l e;simp only[St.kn,cd]at e;obtain⟨y,K,x⟩:=e;cases x;refine⟨?_,HP t l K⟩;simp only[w]at K;split at K
  .rename_i e;cases K;exact .inl ⟨e.symm,J⟩
  .obtain⟨v,hv,f⟩:=hm.get K;exact .inr ⟨v,mq,f⟩
 refine⟨P,h.size,h.defers,?_,?_,?_,?_,?_,h.sub,h.below,h.le,h.fresh,A⟩
 .intro t l e;rcases(M t l e).1 with⟨v,hv,G⟩|⟨hv,rfl⟩
  .exact G.1 _ _<|bI.mono f (h.ar _ _ hv)<|h.gM t v hv
  .have D:a.tmps.getD t undef= .slice none 0 0:=h.gM t _ hv;show _=P.γ d;rw[r];exact D
 .intro j p e;rcases(U j p e).1 with⟨rfl,rfl⟩|⟨b,I,L⟩
  .exact .inl ⟨r,J⟩
  .exact L.1 _ _ _ _<|(h.db j b I).Dk f (h.fD _ _ I) (h.ar _ _ I)<|λk q=>⟨J,λo=>rfl⟩
 .intro i j b1 b2 k e e' q B;rcases(U i b1 e).1 with⟨rfl,_⟩|⟨c,N,_⟩
  .rw[r]at q;cases q
  .rcases(U j b2 e').1 with⟨rfl,_⟩|⟨c',u,_⟩
   .rw[r]at B;cases B
   .rw[f.γ i (h.fD _ _ N)]at q;rw[f.γ j (h.fD _ _ u)]at B;exact h.inj i j c c' k N u q B
 .intro k y e i O;cases k with
  |s t=>
   cases y with
   |v l=>exact(M t l e).2 i O
   |b p=>simp only[St.kn,cd]at e;obtain⟨_,_,x⟩:=e;cases x
  |m j=>
   cases y with
   |v l=>simp only[St.kn,cd]at e;obtain⟨_,_,x⟩:=e;cases x
   |b p=>exact(U j p e).2.2 i O
 .intro j y e;cases y with
  |v l=>simp only[St.kn,cd]at e;obtain⟨_,_,x⟩:=e;cases x
  |b p=>exact(U j p e).2.1
open Fx
noncomputable def Mm{p:I}(H:aX p)(a:Fx p):V Z:=wm<|kc H.pos a
def So{p}(H:aX p) a:aY p (Mm H a):=(qL<|kc H.pos a).1
def alf{p}(H:aX p) a:fx (Mm H a)=a:=(qL<|kc H.pos a).2
noncomputable def eW{p:I}(H:aX p)(f:V Z)(a:Fx p):V Z:=(aJ (Mm H a) f p).2
section
variable{p:I}(H:aX p){f:V Z}(hf:aY p f)(jM:f≠[])
include hf jM
def pO(a:Fx p):aY p (eW H f a)/\G (eW H f a)<G f/\fx f∣fx (eW H f a)-a:=by let ⟨d1,d2,d3,d4,d5,d6⟩:=iO H.hp H.le (So H a).1 hf jM;have b:=bX.2 jM;refine⟨d5<|So H a,by show(aJ (Mm H a) f p).2.length<_;omega,?_⟩;have:=HG H (So H a) hf jM;rwa[alf]at this
def ZR{a:Fx p}{r:V Z}(b:aY p r)(k:G r<G f)(c:fx f∣fx r-a):r=eW H f a:=by let ⟨m1,l,d⟩:=pO H hf jM a;have g:fx f∣fx r-fx (eW H f a):=lR c<|kM d;have i:=rY H g (by have:=Bv H.pos (fx r:Fx p)<|fx<|eW H f a;rw[bO b,bO m1]at this;rw[bO hf];omega);exact pL b m1<|Bu i
end
def mA(p:I)(f a b:V Z):V Z:=(aJ (bT a b p) f p).2
def Eh{p}(H:aX p){f a b}(d:aY p f)(c:f≠[]):aY p (mA p f a b)/\G (mA p f a b)<G f/\(fx f:Fx p)∣fx (mA p f a b)-fx a*fx b:=by let ⟨d1,d2,d3,d4,d5,d6⟩:=iO H.hp H.le (je H.pos a b).1 d c;have g:=bX.2 c;refine⟨d5<|je H.pos a b,by show(aJ (bT a b p) f p).2.length<_;omega,?_⟩;have:=HG H (je H.pos a b) d c;rwa[rX]at this
abbrev Mn(f:V Z)(p:Z):AV:= .c<|.M<|Ef 159 [(ae,[.S u f,.I .u64 p])] []
def ZS{p}(H:aX p) f a(n:I)(lf:G f<=200)(v:aY p f)(R:aY p a)(i:G a<G f)(U:0<n)(hn:n<18446744073709551616):
  af j 182 [aP a p,cU n,Mn f p] (aP (eW H f<|pk (fx a) n) p):=by
 refine aD Tryz.func182 ?_
 have g:f≠[]:=λF=>by rw[F]at i;simp at i
 refine e J<|e J<|L<|e J ?_
 refine q<|aK (α:=V Z×V Z×I) (λx=>⟨[(1,cU x.2.2),(2,Mn f p),(3,.c<|.P 0 0),(6,.c<|.P 1000 0),(7,.c<|.P 1001000 0)],[(0,.box 101 0 [.S u x.2.1,.I .u64 p]),(1000,.box 101 0 [.V (.slice none 0 0),.I .u64 0]),(1001000,.box 101 0 [.S u x.1,.I .u64 p])],3,[]⟩) (λx=>aY p x.1/\aY p x.2.1/\G x.1<G f/\G x.2.1<G f/\x.2.2<18446744073709551616/\(fx f:Fx p)∣fx x.1*pk (fx x.2.1) x.2.2-pk (fx a) n) (λx=>x.2.2) (a,a,n-1) ⟨R,R,i,i,by show n-1<_;omega,?_⟩ (wk ⟨sE J ?_,sR J,sR J,sR J,sR J,T⟩ ⟨bE J J,bE J J,bE J J,T⟩) ?_
 .obtain⟨m,rfl⟩:∃m,n=m+1:=⟨n-1,S⟩;show fx f∣fx a*pk (fx a) (m+1-1)-pk (fx a) (m+1);rw[eJ,pk,mul_comm<|fx a];exact nT _ _
 .exact bA<|show ao .u64 ((n:Z)-1)=((n-1:I):Z)from(wrap_u64 _ S S).trans S
 rintro⟨r,b,m⟩ ⟨C,E,K,lb,hm,hc⟩
 simp only at C E K lb hm hc
 have d:=Eh H (a:=b) (b:=b) v g
 have B:af j 159 ([aP f p]++([aP b p,aP b p]++[])) (aP (mA p f b b) p):=Hv p H.hp H.le f b b S S S v E E g
 refine L<|e J<|z J (λh=>?_)<|λh=>?_
 .have h:0<m:=by have h:(m:Z)>0:=az h;omega
  refine ai<|L<|q<|L<|e J (hp:=ak)<|z J (λh2=>?_)<|λh2=>?_
  .have h2:(m:Z).tmod 2=1:=eq_of_beq h2;have W:m%2=1:=Mp;obtain⟨k,rfl⟩:∃k,m=2*k+1:=⟨m/2,S⟩;have l:=Eh H (a:=r) (b:=b) v g;have Q:af j 159 ([aP f p]++([aP r p,aP b p]++[])) (aP (mA p f r b) p):=Hv p H.hp H.le f r b S S S v C E g;refine bs<|BF J J (.inr ⟨_,_,J,J,J⟩) J Q<|o J<|ay ?_;refine bs (BF J J (.inr ⟨_,_,J,J,J⟩) J B<|o J<|aT<|rt J (hp:=ak)<|aA (mA p f r b,mA p f b b,k) ⟨l.1,d.1,l.2.1,d.2.1,by show k<_;omega,?_⟩ (S:k<2*k+1)<|wk ⟨sE J ?_,sR J,sR J,sR J,sR J,T⟩ ⟨bE J J,bE J J,bE J J,T⟩)
   .show fx f∣fx (mA p f r b)*pk (fx<|mA p f b b) k-pk (fx a) n;refine lR (pJ l.2.2<|uS d.2.2 k) ?_;rw[qK,mul_assoc,<-rU];have F:fx b*pk (fx b) (k+k)=(pk (fx b) (2*k+1):Fx p):=by rw[mul_comm,(S:k+k=2*k)];rfl
    rw[F];exact hc
   .exact bA<|(rO (2*k+1) hm).trans (S:((((2*k+1)/2:I)):Z)=(k:Z))
  .have h2:(m:Z).tmod 2≠1:=fT h2;have X:m%2=0:=Mp;obtain⟨k,rfl⟩:∃k,m=2*k:=⟨m/2,S⟩;refine ai ?_;refine bs (BF J J (.inr ⟨_,_,J,J,J⟩) J B<|o J<|aT<|rt J (hp:=ak)<|aA (r,mA p f b b,k) ⟨C,d.1,K,d.2.1,by show k<_;omega,?_⟩ (S:k<2*k)<|wk ⟨sE J ?_,sR J,sR J,sR J,sR J,T⟩ ⟨bE J J,bE J J,bE J J,T⟩)
   .show fx f∣fx r*pk (fx<|mA p f b b) k-pk (fx a) n;refine lR (pJ (nT _<|fx r)<|uS d.2.2 k) ?_;rw[qK,<-rU,(S:k+k=2*k)];exact hc
   .exact bA<|(rO (2*k) hm).trans (S:((((2*k)/2:I)):Z)=(k:Z))
 .have h:m=0:=by have h:¬(m:Z)>0:=aL h;omega
  subst h;rw[pk,mul_one]at hc;rw[ZR H v g C K hc];exact aN<|ay<|e J<|bU J
def eD(p:I):V (V Z)->Fx p
 |[]=>1
 |g::l=>fx g*eD p l
def BG(p:I):∀l m:V (V Z),eD p (l++m)=eD p l*eD p m
 |[],m=>(one_mul _).symm
 |g::l,m=>by rw[kU,eD,eD,BG p l m,mul_assoc]
def x6(p:I):∀{l:V (V Z)}{g:V Z},g∈l->(fx g:Fx p)∣eD p l
 |a::l,g,hg=>by
  rcases df.1 hg with rfl|hg
  .exact dvd_mul_right _ _
  .exact dz (x6 p hg) _
structure Sp(p:I)(f:List Z)(V:Fx p)(l:List (List Z)):Prop where
 parts:∀g∈l,Mon p g/\2<=g.length/\∃c,(fx g:Fx p)∣V-K c
 prod:eD p l=fx f
noncomputable def kq{p:I}(H:aX p)(f v:V Z)(a:Z):V Z:=
 if 2<p then au (jy (eW H f<|pk (fx<|au<|jy v 1 (au [a]) p)<|(p-1)/2) (p-1) [1] p)else au (jy v 1 (au [a]) p)
def ZT{p:I} f a g:(fx (au<|jy f a g p):Fx p)=fx f+K a*fx g:=by rw[pK];exact mk_eq.2<|Za f a g p
def alg{p:I} a:(fx (au [a]):Fx p)=K a:=by rw[pK,Hy]
def Sq{p}(H:aX p){f v}(d:aY p f)(b:f≠[])(g:aY p v)(i:G v<G f)(k:1<=G v){a}(r:a<p):aY p (kq H f v a)/\(fx f:Fx p)∣fx (kq H f v a)-zB p (fx v) a:=by
 have x:=H.hp.1;have l:aY p (au<|jy v 1 (au [(a:Z)]) p):=gH H.pos<|Hu H.pos g.1 _ _;have c:(fx (au<|jy v 1 (au [(a:Z)]) p):Fx p)=fx v+K a:=by rw[ZT,alg,l4,one_mul]
 unfold kq zB;by_cases hp:2<p
 .rw[s hp,M S,c];let ⟨m1,B,m⟩:=pO H d b<|pk (fx v+K (a:Z):Fx p)<|(p-1)/2;refine⟨gH H.pos<|Hu H.pos m1.1 _ _,?_⟩;have n:(K ((p:Z)-1):Fx p)*fx [1]= -1:=by rw[uT,mul_one,D4,K_p,l4,sub_def,zero_add]
  rw[ZT,n];exact L5 m<|nT _ _
 .rw[M hp,s S,c];exact⟨l,nT _ _⟩
def least{P:I->Prop}:∀n,P n->∃m,m<=n/\P m/\∀k,k<m->¬P k:=by
 intro n;induction n using Nat.strongRecOn with
 |_ n a=>
  intro h
  by_cases e:∃k,k<n/\P k
  .let ⟨k,b,h2⟩:=e;let ⟨m,i,c,d⟩:=a k b h2;exact⟨m,S,c,d⟩
  .exact⟨n,a8 _,h,λk f g=>e ⟨k,f,g⟩⟩
def BH{p:I}(H:aX p)(f v:V Z)(a:I):Prop:=1<G (c8 p f<|kq H f v a)/\G (c8 p f<|kq H f v a)<G f
def alh{p}(H:aX p){f v}(a:Mon p f)(d:2<=G f)(R:jz (fx f:Fx p))(g:aY p v)(i:G v<G f)(Fy:2<=G v)(hV:(fx f:Fx p)∣pk (fx v) p-fx v):∃b,b<p/\BH H f v b/\∀k,k<b->¬BH H f v k:=by
 have X:∀c,¬(fx f:Fx p)∣fx v-K c:=by intro c j;have r:=rY H j (by have l:=Bv H.pos (fx v:Fx p)<|K c;have x:=D7 H.pos c (p:=(p:Z));rw[bO g]at l;rw[bO a.c];omega);have o:=Bu r;have x:=D7 H.pos c (p:=(p:Z));rw[<-o,bO g]at x;omega
 let ⟨b,n,B,q,i1,i2,d1,d2,t1,t2⟩:=sep H (by rw[bO a.c];exact d) R hV X;let ⟨c1,E⟩:=Sq H a.c a.ne g i S n;let ⟨m1,F,t,U,W,u⟩:=qQ H a.c c1 a.ne;have y:BH H f v b:=by
  have q1:B∣fx (kq H f v b):=D2 (dvd_trans d1 E) t1;have z:¬q∣fx (kq H f v b):=λh=>t2<|D2 (kM<|dvd_trans d2 E) h
  have P:=m1.gI H;have A:B∣fx (c8 p f<|kq H f v b):=by rw[u];exact dvd_add (dz d1 U)<|dz q1 W
  have D:=fV H A P;have Q:=fV H F<|a.gI H;have M:=i1.1;rw[bO m1.c]at D Q;rw[bO a.c]at Q;refine⟨S,?_⟩;by_cases e:G (c8 p f<|kq H f v b)<G f
  .exact e
  .exfalso;let ⟨w,hw⟩:=F;have I:w≠0:=λe=>a.gI H (by rw[hw,e,zero_mul])
   have J:=dE H I P;rw[<-hw,bO a.c,bO m1.c]at J;let ⟨C,L⟩:=tu H (S:sz w=1);refine z<|dvd_trans d2<|dvd_trans ⟨C,?_⟩ t;rw[hw,<-mul_assoc,L,one_mul]
 let ⟨m,r,d,l⟩:=least b y;exact⟨m,S,d,l⟩
def ali{p:I}(H:aX p){f v:V Z}(a:Mon p f)(m:jz (fx f:Fx p))(E:aY p v)(b:G v<G f)(F:2<=G v)(n:(fx f:Fx p)∣pk (fx v) p-fx v){d:I}(i:d<p)(r:BH H f v d):
  let g:=c8 p f<|kq H f v d
  let h:=(aJ f g p).1
  (Mon p g/\2<=G g/\G g<G f/\jz (fx g:Fx p)/\(fx g:Fx p)∣pk (fx v) p-fx v)/\(Mon p h/\2<=h.length/\h.length<G f/\jz (fx h:Fx p)/\(fx h:Fx p)∣pk (fx v) p-fx v)/\(fx f:Fx p)=fx h*fx g:=by
 intro g h
 let ⟨c1,K⟩:=Sq H a.c a.ne E b S i
 let ⟨m1,k,P,_⟩:=qQ H a.c c1 a.ne
 have C:1<G g:=r.1
 have l:G g<G f:=r.2
 have q1:Mon p h:=Ec H a m1 S
 have q2:(fx f:Fx p)=fx h*fx g:=rZ H a.c m1.c m1.ne k
 let ⟨_,_,_,_,_,x⟩:=iO H.hp H.le a.c.1 m1.c m1.ne
 have x:h.length=G f-(G g-1):=x
 have B:(fx h:Fx p)∣fx f:=HT
 exact⟨⟨m1,S,l,m.of_dvd k,dvd_trans k n⟩,⟨q1,S,S,m.of_dvd B,dvd_trans B n⟩,q2⟩
def alj{a:V Z}(b:G a<2):a=[]\/∃c,a=[c]:=by
 cases a with
 |nil=>exact .inl J
 |cons c a=>
  cases a with
  |nil=>exact .inr ⟨c,J⟩
  |cons d a=>simp at b;omega
abbrev PT:ET:= .pr (.sl u) u
abbrev lP(p:I)(l:V (V Z)):V (V Z×Z):=l.map λg=>(g,(p:Z))
def Sr{p:I}(H:aX p):∀(lX:I)(f v:V Z),G f<lX->G f<=200->Mon p f->2<=G f->jz (fx f:Fx p)->aY p v->v≠[]->G v<=200->(fx f:Fx p)∣pk (fx v) p-fx v->
  ∃l,Sp p f (fx v) l/\G l+1<=G f/\lK j 184 [aP f p,aP v p] 101 PT (lP p l)
 |0,_,_,i,_,_,_,_,_,_,_,_=>by omega
 |lX+1,f,v,hN,lf,b,h2,hs,hv,vY,lv,hV=>by
  have r7:=H.hp.1;have BI:=H.le;have He:(p:Z)≠0:=S;obtain⟨d1,d2,d3,d4,d5,d6⟩:=iO H.hp H.le hv.1 b.c b.ne;have k:=HG H hv b.c b.ne;have y:=xU p H.hp H.le v f S S hv.1 b.c vY b.ne;have B:=d5 hv;generalize hwE:(aJ v f p).2=w at*;have D:(fx f:Fx p)∣pk (fx w) p-fx w:=lR (uS k p)<|lR hV<|kM k;by_cases Bg:G w<2
  .refine⟨[f],⟨λg m=>?_,by rw[eD,eD,mul_one]⟩,bP,?_⟩
   .have d:=iu.1 m;subst d;refine⟨b,h2,?_⟩;rcases alj Bg with d|⟨c,d⟩
    .exact⟨0,by rw[l3,<-jX,<-d];exact kM k⟩
    .exact⟨c,by rw[<-Hy,<-d];exact kM k⟩
   .refine vT Tryz.func184 J J J J A ?_;refine e J<|t<|rc J J y<|o J ?_;refine L (t<|rc J J (tf w p S)<|o J<|z J (λi=>?_)<|λi=>?_)
    .exact t<|gR PT [(f,(p:Z))] J J (o J<|bc<|bt<|uD (id:=3001000) a6 J J)
    .exfalso;have i:¬(G w:Z)-1<1:=aL i;omega
  .have C:G w<G f:=by omega
   have n:2<=G w:=S;obtain⟨x,Dr,hG,O⟩:=alh H b h2 hs B C n D;obtain⟨⟨a1,a2,a3,a4,a5⟩,⟨b1,b2,b3,b4,b5⟩,e0⟩:=ali H b hs B C n D Dr hG;have E:w≠[]:=λd=>by rw[d]at n;simp at n
   obtain⟨Y,o1,n1,k1⟩:=Sr H lX _ w S S a1 a2 a4 B E S a5;obtain⟨l2,o2,n2,k2⟩:=Sr H lX _ w S S b1 b2 b4 B E S b5;have hlen:G (c8 p f<|kq H f w x)+(aJ f (c8 p f<|kq H f w x) p).1.length=G f+1:=by have F:=dE H (b1.gI H)<|a1.gI H;rw[<-e0,bO b.c,bO b1.c,bO a1.c]at F;omega
   refine⟨Y++l2,⟨λg m=>?_,?_⟩,by rw[fO];omega,?_⟩
   .have up:∀c,(fx g:Fx p)∣fx f->(fx g:Fx p)∣fx w-K c->(fx g:Fx p)∣fx v-K c:=λc e1 e2=>lR (kM<|dvd_trans e1 k) e2
    rcases b8.1 m with m|m
    .obtain⟨q1,q2,c,q3⟩:=o1.parts g m;refine⟨q1,q2,c,up c ?_ q3⟩;rw[e0,<-o1.prod];exact dz (x6 p m) _
    .obtain⟨q1,q2,c,q3⟩:=o2.parts g m;refine⟨q1,q2,c,up c ?_ q3⟩;rw[e0,<-o2.prod];exact lQ (x6 p m) _
   .rw[BG,o1.prod,o2.prod,e0,mul_comm]
   have DU:G (lP p Y)=G Y/\G (lP p l2)=G l2:=⟨cL _,cL _⟩;rw[show lP p (Y++l2)=lP p Y++lP p l2 from fe];refine vT Tryz.func184 J J J J A ?_;refine e J<|t<|rc J J y<|o J ?_;refine L<|t<|rc J J (tf w p S)<|o J<|z J (λi=>?_)<|λi=>bN<|ay ?_
   .exfalso;have i:(G w:Z)-1<1:=az i;omega
   refine L<|e J<|q<|aK (α:=I) (λa=>⟨[(2,.c<|.P 0 0),(3,.c<|.P 1000 0),(22,cU p),(23,cU a)],[(0,.box 101 0 [.S u f,.I .u64 p]),(1000,.box 101 0 [.S u w,.I .u64 p])],4,[]⟩) (λa=>a<=x) (λa=>p-a) 0 (aW _) (wk (aS J) ⟨bE J J,bE J J,T⟩) ?_;intro a Pw;have Ss:a<p:=S;refine e J<|L<|z J (λi=>bN<|ay<|L<|q ?_)<|λi=>?_;rotate_left
   .exfalso;have i:¬(a:Z)<(p:Z):=aL i;omega
   have r:=zv f a p H.pos S S S;have zg:rp p (au [(a:Z)]):=Rz H.pos<|pI S S;have GY:G (au [(a:Z)])<=1:=kK _;have Q:=RM w 1 (au [(a:Z)]) p S S H.pos S B.1 zg ⟨S,S⟩<|.inl E;obtain⟨c1,c2⟩:=Sq H b.c b.ne B C S Ss;have AN:G (au<|jy w 1 (au [(a:Z)]) p)<=G w:=by have:=kK<|jy w 1 (au [(a:Z)]) p;rw[L3]at this;omega
   have htc:aY p (au<|jy w 1 (au [(a:Z)]) p):=gH H.pos<|Hu H.pos B.1 _ _;have R:kq H f w a=if 2<p then au (jy (eW H f<|pk (fx<|au<|jy w 1 (au [(a:Z)]) p)<|(p-1)/2) (p-1) [1] p)else au (jy w 1 (au [(a:Z)]) p):=rfl
   have htL:G (kq H f w a)<=G f:=by
    rw[R];split
    .have:=kK<|jy (eW H f<|pk (fx<|au<|jy w 1 (au [(a:Z)]) p)<|(p-1)/2) ((p:Z)-1) [1] p;have:=(pO H b.c b.ne<|pk (fx<|au<|jy w 1 (au [(a:Z)]) p)<|(p-1)/2).2.1;rw[L3]at*;simp only[fu,k6]at*;omega
    .omega
   have Su:=L0 p H.hp H.le f (kq H f w a) S S b.c c1 b.ne;generalize fc:au (jy w 1 (au [(a:Z)]) p)=X at*;refine e J<|t<|rc J J r<|rc J J Q<|o J ?_;refine oq ⟨[(2,.c<|.P 0 0),(3,.c<|.P 1000 0),(6,.c<|.P 6005000 0),(22,cU p),(23,cU a)],[(0,.box 101 0 [.S u f,.I .u64 p]),(1000,.box 101 0 [.S u w,.I .u64 p]),(6005000,.box 101 0 [.S u (kq H f w a),.I .u64 p])],9,[]⟩ ?_<|λte=>e J<|z J (λF=>?_)<|λF=>bN<|fH te<|wk (aS J) ⟨bE J J,bE J J,bE J ?_,T⟩
   .obtain⟨m1,m2,m3,_⟩:=qQ H b.c c1 b.ne;have mX:G (c8 p f<|kq H f w a)<=G f:=by have:=fV H m2<|b.gI H;rwa[bO m1.c,bO b.c]at this
    have U:BH H f w a↔1<G (c8 p f<|kq H f w a)/\G (c8 p f<|kq H f w a)<G f:=Iff.rfl;have next:¬BH H f w a->a+1<=x:=λhn=>by
     rcases oG a x with d|d
     .exact d
     .exact absurd (show BH H f w a by rw[(S:a=x)];exact hG) hn
    refine t<|rc J J Su<|o J<|t<|rc J J (tf (c8 p f<|kq H f w a) p S)<|rg 54 J J (λh1=>?_)<|λh1=>?_
    .have h1:(G (c8 p f<|kq H f w a):Z)-1>0:=az h1;refine eI J J J J J (tf (c8 p f<|kq H f w a) p S) (eI J J J J J (tf f p S)<|o J<|z J (λh2=>?_)<|λh2=>?_)
     .have h2:(G (c8 p f<|kq H f w a):Z)-1<(G f:Z)-1:=az h2;have es:a=x:=by
       rcases oG a x with d|d
       .exact absurd (U.2 ⟨S,S⟩)<|O a d
       .omega
      subst es;have W:=xU p H.hp H.le f (c8 p f<|kq H f w a) S S b.c.1 m1.c b.ne m1.ne;refine t<|rc J J W<|o J<|t<|uE J J k1<|rc J J k2.fs<|ra J J J J J J J J J ?_ ?_<|o J<|bc<|eH<|bt<|gf<|eH<|bt<|uD (id:=12006000) a6 J J
      .show(_+_+(_+_)/4+192)*32<=_;omega
      .show(_+_)*2<=_;omega
     .have h2:¬(G (c8 p f<|kq H f w a):Z)-1<(G f:Z)-1:=aL h2;refine bN<|dy<|ay<|rt J (hp:=ak)<|aA (a+1) (next λhn=>by have:=(U.1 hn).2;omega) (S:p-(a+1)<p-a)<|wk ⟨sR J,sR J,sR J,sE J ?_,T⟩ ⟨bE J J,bE J J,T⟩;exact bA<|wrap_u64 _ S S
    .have h1:¬(G (c8 p f<|kq H f w a):Z)-1>0:=aL h1;refine o J<|z J (λh2=>nl)<|λh2=>bN<|dy<|ay<|rt J (hp:=ak)<|aA (a+1) (next λhn=>by have:=(U.1 hn).1;omega) (S:p-(a+1)<p-a)<|wk ⟨sR J,sR J,sR J,sE J ?_,T⟩ ⟨bE J J,bE J J,T⟩;exact bA<|wrap_u64 _ S S
   .have F:(p:Z)>2:=az F;have e1:ao .u64 ((p:Z)-1)=(p:Z)-1:=wrap_u64 _ S S;have e2:ao .u64 ((ao .u64<|(p:Z)-1).tdiv 2)=(((p-1)/2:I):Z):=by rw[e1,(S:(p:Z)-1=((p-1:I):Z))];exact rO (p-1) S
    have Sv:af j 182 [aP X p,cU<|ao .u64<|(ao .u64<|(p:Z)-1).tdiv 2,Mn f p] (aP (eW H f<|pk (fx X)<|(p-1)/2) p):=by rw[e2];exact ZS H f X _ S b.c htc S S S
    obtain⟨z1,z2,z3⟩:=pO H b.c b.ne<|pk (fx X)<|(p-1)/2;have Sw:af j 125 [aP f p,cU 1] (aP [1] p):=by have:=zv f 1 p H.pos S S S;rwa[Hs A]at this
    have alm:af j 233 [aP (eW H f<|pk (fx X)<|(p-1)/2) p,cU<|ao .u64<|(p:Z)-1,aP [1] p] (aP (au<|jy (eW H f<|pk (fx X)<|(p-1)/2) (p-1) [1] p) p):=by rw[e1];exact RM _ _ [1] p S ax H.pos S z1.1 (pI S S) ⟨S,S⟩ (.inr ax)
    refine bs<|Ml J J J<|rc J J Sv<|rc J J Sw<|rc J J alm<|o J<|fH te<|wk (aS J) ⟨bE J J,bE J J,bE J ?_,T⟩;rw[R,s S];rfl
   .have F:¬(p:Z)>2:=aL F;rw[R,M S];rfl
end Go.El
namespace Go.El
open Go Go.Proofs Go.RowKit
def iy(n:I)(a b:I->Z):Z:=sm (λc=>a c*b c) n
def qR(p n:I)(a:I->I->Z)(b:I->Z):Prop:=∀r,r<n->iy n (a r) b%(p:Z)=0
def HU{p:Z}{f g:I->Z}:∀{k:I},(∀i,i<k->f i%p=g i%p)->sm f k%p=sm g k%p
 |0,_=>rfl
 |k+1,a=>by rw[sm,sm,tk,HU<|λi b=>a i S,a k S,<-tk]
def aln n(a b d:I->Z) x:iy n (λc=>a c+x*b c) d=iy n a d+x*iy n b d:=by unfold iy;rw[<-th,<-Bi];exact gi λi _=>by rw[nb,jb]
def ZU n(a b v:I->Z) x:iy n a (λc=>b c+x*v c)=iy n a b+x*iy n a v:=by unfold iy;rw[<-th,<-Bi];exact gi λi _=>by rw[nc,R5]
def alo n(a b:I->Z) x:iy n (λc=>a c*x) b=x*iy n a b:=by unfold iy;rw[<-th];exact gi λi _=>by rw[jb,R5]
def ZW{p a b c d:Z}(f:a%p=b%p)(k:c%p=d%p):a*c%p=b*d%p:=by rw[kJ,f,k,<-kJ]
def ZX{p}{n}{a b d v:I->Z}(g:∀c,c<n->a c%p=b c%p)(k:∀c,c<n->d c%p=v c%p):iy n a d%p=iy n b v%p:=HU λi f=>ZW (g i f)<|k i f
def Ei{f:I->Z}{a:I}:∀{n:I},a<n->(∀i,i<n->i≠a->f i=0)->sm f n=f a
 |0,d,_=>by omega
 |n+1,d,b=>by
  rw[sm];by_cases g:a=n
  .subst g;rw[nk (λi k=>b i S S)];omega
  .rw[Ei S (λi k c=>b i S c),b n S S];omega
def ZY{f:I->Z}{a b:I}:∀{n:I},a<n->b<n->a≠b->(∀i,i<n->i≠a->i≠b->f i=0)->sm f n=f a+f b
 |0,v,_,_,_=>by omega
 |n+1,ha,x,g,d=>by
  rw[sm];by_cases l:a=n
  .subst l;rw[Ei (S:b<a) (λi k c=>d i S S c)];omega
  .by_cases m:b=n
   .subst m;rw[Ei (S:a<b) (λi k c=>d i S c S)]
   .rw[ZY S S g (λi k p r=>d i S p r),d n S S S];omega
structure KI(p n:I)(i d:I->I->Z)(f:I)(b a:V I):Prop where
 bM:∀r,r<n->∀c,0<=d r c/\d r c<p
 zD:∀w,qR p n d w↔qR p n i w
 pl:b.length<=n
 unit:∀k,k<b.length->∀r,r<n->d r (b.getD k 0)=if r=k then 1 else 0
 zero:∀r,b.length<=r->r<n->∀c,c<f->d r c=0
 cover:∀c,c<f->(∃k,k<b.length/\b.getD k 0=c)\/∃q,q<a.length/\a.getD q 0=c
 pb:∀k,k<b.length->b.getD k 0<f
 fb:∀q,q<a.length->a.getD q 0<f
 ne:∀k q,k<b.length->q<a.length->b.getD k 0≠a.getD q 0
 fd:∀q g,q<a.length->g<a.length->a.getD q 0=a.getD g 0->q=g
def uW l x{k}(a:k<G l):Y (l++[x]) k 0=Y l k 0:=by rw[aF,yN a,<-aF]
def x7 l x:Y (l++[x]) (G l) 0=x:=ax
def KI.start{p n:I}{b:I->I->Z}(d:∀r,r<n->∀c,0<=b r c/\b r c<p):KI p n b b 0 [] [] where
 bM:=d
 zD:=λ_=>Iff.rfl
 pl:=aW _
 unit:=λk a=>by simp at a
 zero:=λ_ _ _ c f=>by omega
 cover:=λc f=>by omega
 pb:=λk a=>by simp at a
 fb:=λk a=>by simp at a
 ne:=λk _ a=>by simp at a
 fd:=λq _ g=>by simp at g
def KI.none{p n:I}{E x:I->I->Z}{f:I}{d a:V I}(b:KI p n E x f d a)(F:∀i,G d<=i->i<n->x i f=0):KI p n E x (f+1) d (a++[f]) where
 bM:=b.bM
 zD:=b.zD
 pl:=b.pl
 unit:=b.unit
 zero:=λr g m c H=>by
  by_cases e:c=f
  .subst e;exact F r g m
  .exact b.zero r g m c S
 cover:=λc H=>by
  by_cases e:c=f
  .subst e;exact .inr ⟨G a,ax,x7 _ _⟩
  .rcases b.cover c S with g|⟨q,g,m⟩
   .exact .inl g
   .exact .inr ⟨q,bP,by rw[uW _ _ g];exact m⟩
 pb:=λk v=>by have:=b.pb k v;omega
 fb:=λq l=>by
  simp only[fO,fu,k6]at l;by_cases e:q=G a
  .subst e;rw[x7];omega
  .rw[uW _ _ S];have:=b.fb q S;omega
 ne:=λk q v l=>by
  simp only[fO,fu,k6]at l;by_cases e:q=G a
  .subst e;rw[x7];have:=b.pb k v;omega
  .rw[uW _ _ S];exact b.ne k q v S
 fd:=λq B l C e=>by
  simp only[fO,fu,k6]at l C;by_cases K:q=G a<;>by_cases P:B=G a
  .omega
  .subst K;rw[x7,uW _ _ S]at e;have:=b.fb B S;omega
  .subst P;rw[x7,uW _ _ S]at e;have:=b.fb q S;omega
  .rw[uW _ _ S,uW _ _ S]at e;exact b.fd q B S S e
def ku(a:I->I->Z)(k i:I):I->I->Z:=λr=>if r=k then a i else if r=i then a k else a r
def kN(p:I)(a:I->I->Z)(k:I)(v:Z):I->I->Z:=λr c=>if r=k then a k c*v%(p:Z)else a r c
def oX(p:I)(a:I->I->Z)(k b:I):I->I->Z:=λr c=>if r≠k/\a r b≠0 then(a r c+((p:Z)-a r b)*a k c)%(p:Z)else a r c
def KI.some{p n}(H:aX p){G0 Q:I->I->Z}{g}{d free}(x:KI p n G0 Q g d free){i}{v}(h1:G d<=i)(h2:i<n)(hv:Q i g*v%(p:Z)=1):
  KI p n G0 (oX p (kN p (ku Q (G d) i) (G d) v) (G d) g) (g+1) (d++[g]) free:=by
 have hp:=H.pos
 generalize hk:G d=k at*
 have B:k<n:=S
 have T:∀r,r<n->∀c,0<=ku Q k i r c/\ku Q k i r c<p:=by
  intro r a c;unfold ku;split
  .exact x.bM i h2 c
  .split
   .exact x.bM k B c
   .exact x.bM r a c
 have V:∀c,ku Q k i k c=Q i c:=λc=>by unfold ku;rw[s J]
 have u:∀f,f<k->∀r,r<n->ku Q k i r (Y d f 0)=if r=f then 1 else 0:=by
  intro f C r a;unfold ku;by_cases e1:r=k
  .subst e1;rw[s J,x.unit f S i h2,M S,M S]
  .rw[M e1];by_cases R:r=i
   .subst R;rw[s J,x.unit f S k B,M S,M S]
   .rw[M R,x.unit f S r a]
 have y:∀r,k<=r->r<n->∀c,c<g->ku Q k i r c=0:=by
  intro r a t c X;unfold ku;split
  .exact x.zero i S h2 c X
  .split
   .exact x.zero k S B c X
   .exact x.zero r S t c X
 have alp:∀w,qR p n (ku Q k i) w↔qR p n Q w:=by
  intro w;constructor
  .intro E r a;by_cases e1:r=k
   .subst e1;have:=E i h2;unfold ku at this;by_cases R:i=r
    .subst R;simpa using this
    .simpa[R]using this
   .by_cases R:r=i
    .subst R;have:=E k B;unfold ku at this;simpa using this
    .have:=E r a;unfold ku at this;simpa[e1,R]using this
  .intro E r a;unfold ku;split
   .exact E i h2
   .split
    .exact E k B
    .exact E r a
 generalize ku Q k i=m at*
 have nD:m k g*v%(p:Z)=1:=by rw[V];exact hv
 have K:∀c,kN p m k v k c=m k c*v%p:=λc=>by unfold kN;rw[s J]
 have P:∀r c,r≠k->kN p m k v r c=m r c:=λr c a=>by unfold kN;rw[M a]
 have U:∀r,r<n->∀c,0<=kN p m k v r c/\kN p m k v r c<p:=by
  intro r a c;unfold kN;split
  .exact⟨fS _ S,gA _ hp⟩
  .exact T r a c
 have alq:∀w,qR p n (kN p m k v) w↔qR p n m w:=by
  intro w;have W:iy n (kN p m k v k) w%(p:Z)=v*iy n (m k) w%p:=by rw[<-alo];exact ZX (λc _=>by rw[K,jJ])<|λ_ _=>rfl
  constructor
  .intro E r a;by_cases e:r=k
   .subst e;have o:=E r a;rw[W]at o;have z:m r g*(v*iy n (m r) w)%(p:Z)=0:=by rw[kJ,o,dI,dj]
    rw[<-jb,kJ,nD,j7,jJ]at z;exact z
   .have:=E r a;have R:kN p m k v r=m r:=funext λc=>P r c e
    rwa[R]at this
  .intro E r a;by_cases e:r=k
   .subst e;rw[W,kJ,E r a,dI,dj]
   .have R:kN p m k v r=m r:=funext λc=>P r c e
    rw[R];exact E r a
 have A:∀f,f<k->∀r,r<n->kN p m k v r (Y d f 0)=if r=f then 1 else 0:=by
  intro f C r a;by_cases e:r=k
  .subst e;rw[K,u f C r a,M S,ko,dj]
  .rw[P r _ e,u f C r a]
 have D:∀r,k<=r->r<n->∀c,c<g->kN p m k v r c=0:=by
  intro r a t c X;by_cases e:r=k
  .subst e;rw[K,y r a t c X,ko,dj]
  .rw[P r _ e,y r a t c X]
 have L:kN p m k v k g=1:=by rw[K];exact nD
 generalize kN p m k v=l at*
 have Ku:∀c,oX p l k g k c=l k c:=λc=>by unfold oX;rw[M (λx=>x.1 J)]
 have N:∀r,r<n->∀c,l k c=0->oX p l k g r c=l r c:=by
  intro r a c X;unfold oX;split
  .rw[X,dI,mT,gT (U r a c).1 (U r a c).2]
  .rfl
 have O:∀r,r<n->oX p l k g r g=if r=k then 1 else 0:=by
  intro r a;by_cases e:r=k
  .subst e;rw[Ku,s J,L]
  .rw[M e];unfold oX;split
   .rw[L,lA,(S:l r g+((p:Z)-l r g)=p),Int.emod_self]
   .rename_i hn;exact dQ λo=>hn ⟨e,o⟩
 refine⟨?_,?_,bP,?_,?_,?_,?_,?_,?_,x.fd⟩
 .intro r a c;unfold oX;split
  .exact⟨fS _ S,gA _ hp⟩
  .exact U r a c
 .intro w;rw[<-x.zD,<-alp,<-alq];have W:∀r,r<n->r≠k->iy n (l k) w%(p:Z)=0->(iy n (oX p l k g r) w%(p:Z)=0↔iy n (l r) w%(p:Z)=0):=by
   intro r a JZ F;by_cases e:l r g=0
   .have:oX p l k g r=l r:=funext λc=>by unfold oX;rw[M (λx=>x.2 e)]
    rw[this]
   .have:iy n (oX p l k g r) w%(p:Z)=iy n (l r) w%(p:Z):=by rw[ZX (b:=λc=>l r c+((p:Z)-l r g)*l k c) (v:=w) (λc _=>by unfold oX;rw[s ⟨JZ,e⟩,jJ]) (λ_ _=>rfl),aln,tk,kJ _<|iy n (l k) w,F,dI,dj,mT,jJ]
    rw[this]
  have pz:oX p l k g k=l k:=funext Ku;constructor
  .intro E r a;have F:=E k B;rw[pz]at F;by_cases e:r=k
   .subst e;exact F
   .exact(W r a e F).1<|E r a
  .intro E r a;have F:=E k B;by_cases e:r=k
   .subst e;rw[pz];exact F
   .exact(W r a e F).2<|E r a
 .intro f C r a;simp only[fO,fu,k6]at C;by_cases e:f=G d
  .subst e;rw[x7,hk];exact O r a
  .rw[uW _ _ S,N r a _ (by rw[A f S k B,M S]),A f S r a]
 .intro r o z c X;simp only[fO,fu,k6]at o;by_cases e:c=g
  .subst e;rw[O r z,M S]
  .rw[N r z c (D k (a8 _) B c S),D r S z c S]
 .intro c X;by_cases e:c=g
  .subst e;exact .inl ⟨G d,ax,x7 _ _⟩
  .rcases x.cover c S with⟨f,o,z⟩|o
   .exact .inl ⟨f,bP,by rw[uW _ _ o];exact z⟩
   .exact .inr o
 .intro f C;simp only[fO,fu,k6]at C;by_cases e:f=G d
  .subst e;rw[x7];omega
  .rw[uW _ _ S];have:=x.pb f S;omega
 .intro q hq;have:=x.fb q hq;omega
 .intro f q C hq;simp only[fO,fu,k6]at C;by_cases e:f=G d
  .subst e;rw[x7];have:=x.fb q hq;omega
  .rw[uW _ _ S];exact x.ne f q S hq
def KI.basis{p n}(H:aX p){G0 m:I->I->Z}{l f}(E:KI p n G0 m n l f){V:I->I->Z}(v1:∀g,g<G f->V g (Y f g 0)=1)(v2:∀g,g<G f->∀k,k<G l->V g (Y l k 0)=((p:Z)-m k (Y f g 0))%p)(v3:∀g R,g<G f->R<G f->g≠R->V g (Y f R 0)=0):
  (∀g,g<G f->qR p n G0 (V g))/\∀v,qR p n G0 v->∀c,c<n->v c%(p:Z)=sm (λg=>v (Y f g 0)*V g c) (G f)%p:=by
 have rC:=E.pl
 have y:∀k,k<G l->∀d:I->Z,(∀g,g<G f->d (Y f g 0)%(p:Z)=0)->iy n (m k) d%(p:Z)=d (Y l k 0)%p:=by
  intro k O d z;let W:I->Z:=λc=>if c=Y l k 0 then d c else 0
  have A:iy n (m k) d%(p:Z)=iy n (m k) W%p:=HU λc U=>by
   show m k c*d c%(p:Z)=m k c*W c%p;by_cases e:c=Y l k 0
   .simp only[W,s e]
   .simp only[W,M e,dI,dj];rcases E.cover c U with⟨j,C,B⟩|⟨g,C,B⟩
    .have x:k≠j:=λX=>e (by rw[X];exact B.symm)
     rw[<-B,E.unit j C k S,M x,ko,dj]
    .rw[<-B,kJ,z g C,dI,dj]
  rw[A];unfold iy;rw[Ei (a:=Y l k 0) (E.pb k O) (λi _ x=>by simp only[W,M x,dI]),E.unit k O k S,s J,j7];simp only[W,s J]
 have T:∀g,g<G f->qR p n m (V g):=by
  intro g F r Q;by_cases e:r<G l
  .have x:=E.ne r g e F;have A:iy n (m r) (V g)%(p:Z)=sm (λc=>if c=Y f g 0 then m r c else if c=Y l r 0 then V g c else 0) n%p:=HU λc U=>by
    by_cases X:c=Y f g 0
    .simp only[s X];rw[X,v1 g F,lA]
    .simp only[M X];by_cases u:c=Y l r 0
     .simp only[s u];rw[u,E.unit r e r Q,s J,j7]
     .simp only[M u,dj];rcases E.cover c U with⟨j,C,B⟩|⟨R,C,B⟩
      .have K:r≠j:=λD=>u (by rw[D];exact B.symm)
       rw[<-B,E.unit j C r Q,M K,ko,dj]
      .have K:g≠R:=λD=>X (by rw[D];exact B.symm)
       rw[<-B,v3 g R F C K,dI,dj]
   rw[A,ZY (a:=Y f g 0) (b:=Y l r 0) (E.fb g F) (E.pb r e) (λe=>x e.symm)<|λi _ C B=>by rw[M C,M B]];rw[s J,M x,s J,v2 g F r e,tk,jJ,<-tk,(S:m r (Y f g 0)+((p:Z)-m r (Y f g 0))=p),Int.emod_self]
  .unfold iy;rw[nk (λc U=>by rw[E.zero r S Q c U,ko]),dj]
 refine⟨λg F=>(E.zD _).1<|T g F,λv L=>?_⟩
 have L:=(E.zD v).2 L
 have o:∀t,t<=G f->qR p n m (λc=>sm (λg=>v (Y f g 0)*V g c) t):=by
  intro t;induction t with
  |zero=>
   intro _ r Q
   unfold iy
   rw[nk (λc U=>by show m r c*(0:Z)=0;exact dI _),dj]
  |succ t ih=>
   intro ht r Q
   have e:iy n (m r) (λc=>sm (λg=>v (Y f g 0)*V g c)<|t+1)=iy n (m r) (λc=>sm (λg=>v (Y f g 0)*V g c) t)+v (Y f t 0)*iy n (m r) (V t):=by rw[<-ZU];rfl
   rw[e,tk,ih S r Q,kJ,T t S r Q,dI,dj];rfl
 let d:I->Z:=λc=>v c+(-1)*sm (λg=>v (Y f g 0)*V g c) (G f)
 have z:qR p n m d:=by intro r Q;rw[ZU,tk,L r Q,kJ,o (G f) (a8 _) r Q,dI,dj];rfl
 have P:∀g,g<G f->d (Y f g 0)%(p:Z)=0:=by intro g F;show(v (Y f g 0)+(-1)*sm (λR=>v (Y f R 0)*V R (Y f g 0)) (G f))%(p:Z)=0;rw[Ei (a:=g) F (λi hi x=>by rw[v3 i g hi F x,dI]),v1 g F,lA,(S:v (Y f g 0)+(-1)*v (Y f g 0)=0),dj]
 intro c U
 have N:d c%(p:Z)=0:=by
  rcases E.cover c U with⟨k,C,B⟩|⟨g,C,B⟩
  .rw[<-B,<-y k C d P];exact z k S
  .rw[<-B];exact P g C
 refine zp.2 ?_
 have e:v c-sm (λg=>v (Y f g 0)*V g c) (G f)=d c:=by show _=v c+(-1)*_;omega
 rw[e];exact N
def alr(a:V Z) b(d:b<G a):af j 239 ([]++([N u a]++[.c (.E dS (b:Z) 0)])) (cB<|!(Y a b 0==0)):=by refine aD Tryz.func239 ?_;refine e J<|e J (hp:=ak)<|bq J ?_;rw[aV];rfl
abbrev Mq(a:I):AV:= .c<|.M<|Ef 239 [] [(false,[.E dS (a:Z) 0])]
def Z0(L:V (V Z)) a(g:Z)(F:G L<=1000)(x:∀i,i<G L->a<G (L.getD i []))(r:(∃b:I,b<G L/\g=b/\Y (L.getD b []) a 0≠0/\∀i,i<b->Y (L.getD i []) a 0=0)\/(g= -1/\∀i,i<G L->Y (L.getD i []) a 0=0)):
  af j 238 [N (.sl u) L,Mq a] (D g):=by
 refine aD Tryz.func238 ?_
 refine e J<|gy<|e J<|q<|aK (α:=I) (λi=>⟨[(0,N (.sl u) L),(1,Mq a),(7,D<|G L),(8,D i)],[],2,[]⟩) (λi=>i<=G L/\∀k,k<i->Y (L.getD k []) a 0=0) (λi=>G L-i) 0 ⟨aW _,λk B=>S⟩ aM ?_
 rintro i ⟨H,n⟩
 refine e J<|gy<|z J (λd=>?_)<|λd=>?_
 .have d:i<G L:=by have d:(i:Z)<(G L:Z):=az d;omega
  have C:af j 239 ([]++([N u (L.getD (ad<|(i:Z)) [])]++[.c (.E dS (a:Z) 0)])) (cB<|!(Y (L.getD i []) a 0==0)):=by rw[aV];exact alr _ a<|x i d
  refine ai<|gy<|q<|e J<|t<|BF J J (.inr ⟨_,_,J,J,J⟩) J C<|o J<|z J (λf=>?_)<|λf=>?_
  .have f:Y (L.getD i []) a 0≠0:=by simpa using f
   refine e J<|bc<|eH<|bt<|gf<|eH<|bt<|c9 J ?_;rcases r with⟨b,q1,v,p,m⟩|⟨_,m⟩
   .have:i=b:=by
     rcases CE i b with l|l|l
     .exact absurd (m i l) f
     .exact l
     .exact absurd (n b l) p
    rw[v,this]
   .exact absurd (m i d) f
  .have f:Y (L.getD i []) a 0=0:=by simpa using f
   refine bN<|aT<|rt J (hp:=ak)<|aA (i+1) ⟨d,λk B=>?_⟩ Mr aM;by_cases l:k=i
   .rw[l];exact f
   .exact n k S
 .have d:i=G L:=by have d:¬(i:Z)<(G L:Z):=aL d;omega
  subst d;refine aN<|ay<|e J<|bq J ?_;rcases r with⟨b,q1,v,p,m⟩|⟨b,_⟩
  .exact absurd (n b q1) p
  .rw[b];rfl
def mG(F:I->V Z):I->I->Z:=λr c=>Y (F r) c 0
def ow(F:I->V Z)(k i:I):I->V Z:=λr=>if r=k then F i else if r=i then F k else F r
def fI(F:I->V Z)(k:I)(x:V Z):I->V Z:=λr=>if r=k then x else F r
def l5(p:I)(v:Z)(a:V Z)(b:I):V Z:=(be<|G a).map λc=>if c<b then Y a c 0*v%(p:Z)else Y a c 0
def l6(p:I)(b:Z)(a rk:V Z)(d:I):V Z:=(be<|G a).map λc=>if c<d then(Y a c 0+((p:Z)-b)*rk.getD c 0)%(p:Z)else Y a c 0
def iz(p:I)(F:I->V Z)(k a b:I):I->V Z:=λr=>if r<b/\r≠k/\Y (F r) a 0≠0 then l6 p (Y (F r) a 0) (F r) (F k) (G<|F r)else F r
def tC p v row a:G (l5 p v row a)=G row:=by simp[l5]
def wo p a row rk b:G (l6 p a row rk b)=G row:=by simp[l6]
def Ms(f:I->Z){i r}(a:i<r):Y ((be r).map f) i 0=f i:=by rw[aF,gj,jW a];rfl
def Ej p v row a{c}(b:c<G row):Y (l5 p v row a) c 0=if c<a then Y row c 0*v%(p:Z)else Y row c 0:=Ms _ b
def Ek p a row rk b{c}(d:c<G row):Y (l6 p a row rk b) c 0=if c<b then(Y row c 0+((p:Z)-a)*rk.getD c 0)%(p:Z)else Y row c 0:=Ms _ d
def BJ{a b:V Z}(f:G a=G b)(g:∀c,c<G a->Y a c 0=Y b c 0):a=b:=by refine lq f<|λc d i=>?_;have:=g c d;rw[aF,aF,bD d,bD i]at this;exact this
def als p v row:l5 p v row 0=row:=BJ (tC p v row 0) λc a=>by rw[tC]at a;rw[Ej p v row 0 a,M S]
def alu p v row a(f:a<G row):(l5 p v row a).set a (Y row a 0*v%(p:Z))=l5 p v row (a+1):=BJ (by rw[fP,tC,tC]) λc b=>by
 rw[fP,tC]at b;rw[ls _ _ _ _ (by rw[tC];exact f),Ej p v row a b,Ej p v row (a+1) b];by_cases e:a=c
 .subst e;rw[s ax,s S]
 .by_cases d:c<a
  .rw[M S,s d,s S]
  .rw[M S,M d,M S]
def alv p a row rk:l6 p a row rk 0=row:=BJ (wo p a row rk 0) λc b=>by rw[wo]at b;rw[Ek p a row rk 0 b,M S]
def alw p b row rk a(g:a<G row):(l6 p b row rk a).set a ((Y row a 0+((p:Z)-b)*rk.getD a 0)%(p:Z))=l6 p b row rk (a+1):=BJ (by rw[fP,wo,wo]) λc d=>by
 rw[fP,wo]at d;rw[ls _ _ _ _ (by rw[wo];exact g),Ek p b row rk a d,Ek p b row rk (a+1) d];by_cases e:a=c
 .subst e;rw[s ax,s S]
 .by_cases f:c<a
  .rw[M S,s f,s S]
  .rw[M S,M f,M S]
def Sx{p:I}(f:0<p) v{a}(d:rp p a) b:rp p (l5 p v a b):=λc=>by
 by_cases hc:c<G a
 .rw[Ej p v a b hc];split
  .exact⟨fS _ S,gA _ S⟩
  .exact d c
 .rw[cF _ (by rw[tC];omega)];exact⟨gk _,S⟩
def alx{p:I}(g:0<p) b{a}rk(f:rp p a) d:rp p (l6 p b a rk d):=λc=>by
 by_cases hc:c<G a
 .rw[Ek p b a rk d hc];split
  .exact⟨fS _ S,gA _ S⟩
  .exact f c
 .rw[cF _ (by rw[wo];omega)];exact⟨gk _,S⟩
def nr(p n:I)(F:I->V Z):Prop:=∀r,r<n->G (F r)=n/\rp p (F r)
def nr.sw{p n}{F:I->V Z}(a:nr p n F){k i}(b:k<n)(c:i<n):nr p n (ow F k i):=λr d=>by
 unfold ow;split
 .exact a i c
 .split
  .exact a k b
  .exact a r d
def nr.up{p n}{F:I->V Z}(a:nr p n F){k}{x}(b:G x=n/\rp p x):nr p n (fI F k x):=λr c=>by
 unfold fI;split
 .exact b
 .exact a r c
def nr.el{p n}(c:0<p){F:I->V Z}(a:nr p n F) k d f:nr p n (iz p F k d f):=λr b=>by
 unfold iz;split
 .exact⟨by rw[wo];exact(a r b).1,alx c _ _ (a r b).2 _⟩
 .exact a r b
def KI.congr{p n:I}{v i l:I->I->Z}{x:I}{f d:V I}(b:KI p n v i x f d)(g:∀r,r<n->∀c,i r c=l r c)(E:∀k,k<G f->k<n):KI p n v l x f d where
 bM:=λr a c=>by rw[<-g r a c];exact b.bM r a c
 zD:=λw=>by
  rw[<-b.zD w];constructor
  .intro m r a;have:=m r a;rwa[show l r=i r from funext λc=>(g r a c).symm]at this
  .intro m r a;rw[show l r=i r from funext λc=>(g r a c).symm];exact m r a
 pl:=b.pl
 unit:=λk C r a=>by rw[<-g r a];exact b.unit k C r a
 zero:=λr F B c H=>by rw[<-g r B];exact b.zero r F B c H
 cover:=b.cover
 pb:=b.pb
 fb:=b.fb
 ne:=b.ne
 fd:=b.fd
def BK(F:I->V Z)(n a k i:I):Prop:=k<=i/\i<n/\Y (F i) a 0≠0/\∀q,k<=q->q<i->Y (F q) a 0=0
def Z1(F:I->V Z) n a k:(∃i,BK F n a k i)\/∀i,k<=i->i<n->Y (F i) a 0=0:=by
 by_cases h:∃i,k<=i/\i<n/\Y (F i) a 0≠0
 .left;let ⟨i,b,d,f⟩:=h;let ⟨m,m1,⟨g,l⟩,p⟩:=least (P:=λi=>k<=i/\Y (F i) a 0≠0) i ⟨b,f⟩;exact⟨m,g,S,l,λq q1 r=>dQ λc=>p q r ⟨q1,c⟩⟩
 .right;exact λi b d=>dQ λc=>h ⟨i,b,d,c⟩
def Em(p:I)(F:I->V Z)(n a k i:I):I->V Z:=
 iz p (fI (ow F k i) k<|l5 p (eQ (ad<|Y (F i) a 0) p:I) (F i) n) k a n
open Classical in
noncomputable def En(p n b:I)(a:(I->V Z)×V I×V I):(I->V Z)×V I×V I:=
 if h:∃i,BK a.1 n b (G a.2.1) i then(Em p a.1 n b (G a.2.1)<|wm h,a.2.1++[b],a.2.2)else(a.1,a.2.1,a.2.2++[b])
noncomputable def gK(p n:I)(F:I->V Z):I->(I->V Z)×V I×V I
 |0=>(F,[],[])
 |a+1=>En p n a<|gK p n F a
def BK.uniq{F:I->V Z}{n d k i a}(b:BK F n d k i)(c:BK F n d k a):i=a:=by
 rcases CE i a with e|e|e
 .exact absurd (c.2.2.2 i b.1 e) b.2.2.1
 .exact e
 .exact absurd (b.2.2.2 a c.1 e) c.2.2.1
def Z2{p n b}{a:(I->V Z)×V I×V I}{i}(c:BK a.1 n b (G a.2.1) i):En p n b a=(Em p a.1 n b (G a.2.1) i,a.2.1++[b],a.2.2):=by have d:∃i,BK a.1 n b (G a.2.1) i:=⟨i,c⟩;unfold En;rw[dif_pos d,(qL d).uniq c]
def Z3{p n b}{a:(I->V Z)×V I×V I}(c:∀i,G a.2.1<=i->i<n->Y (a.1 i) b 0=0):En p n b a=(a.1,a.2.1,a.2.2++[b]):=by unfold En;rw[dif_neg];rintro⟨i,d,f,g,_⟩;exact g<|c i d f
def aly{p n}(H:aX p){F:I->V Z}(f:nr p n F){k i b}(m:k<n)(g:i<n):∀r,r<n->∀c,oX p (kN p (ku (mG F) k i) k (eQ (ad<|Y (F i) b 0) p:I)) k b r c=mG (Em p F n b k i) r c:=by
 unfold Em;generalize ((eQ (ad<|Y (F i) b 0) p:I):Z)=v;intro r d c;have C:∀r c,ku (mG F) k i r c=mG (ow F k i) r c:=λr c=>by
  unfold ku mG ow;split
  .rfl
  .split<;>rfl
 have E:=f.sw m g;have x:∀r,r<n->∀c,kN p (ku (mG F) k i) k v r c=mG (fI (ow F k i) k<|l5 p v (F i) n) r c:=by
  intro r d c;unfold kN;by_cases e:r=k
  .rw[s e,C];unfold mG fI;rw[s e];have K:ow F k i k=F i:=by unfold ow;rw[s J]
   rw[K];by_cases hc:c<n
   .rw[Ej p v (F i) n (by rw[(f i g).1];exact hc),s hc]
   .rw[cF (F i) (by rw[(f i g).1];omega),cF _ (by rw[tC,(f i g).1];omega),ko,dj]
  .rw[M e,C];unfold mG fI;rw[M e]
 have l:nr p n (fI (ow F k i) k<|l5 p v (F i) n):=E.up ⟨by rw[tC];exact(f i g).1,Sx qM v (f i g).2 n⟩;rw[show oX p (kN p (ku (mG F) k i) k v) k b r c=if r≠k/\kN p (ku (mG F) k i) k v r b≠0 then(kN p (ku (mG F) k i) k v r c+((p:Z)-kN p (ku (mG F) k i) k v r b)*kN p (ku (mG F) k i) k v k c)%(p:Z)else kN p (ku (mG F) k i) k v r c from J];rw[x r d,x r d,x k m];generalize fI (ow F k i) k (l5 p v (F i) n)=B at*;unfold mG iz;by_cases a:r≠k/\Y (B r) b 0≠0
 .rw[s a,s ⟨d,a⟩];by_cases hc:c<n
  .rw[Ek p _ _ _ _ (by rw[(l r d).1];exact hc),s<|by rw[(l r d).1];exact hc]
  .rw[cF (B r) (i:=c) (by rw[(l r d).1];omega),cF (B k) (i:=c) (by rw[(l k m).1];omega),cF (l6 _ _ _ _ _) (i:=c) (by rw[wo,(l r d).1];omega),dI];simp
 .rw[M a,M<|λP=>a P.2]
def Sy{p n:I}(H:aX p){F:I->V Z}(g:nr p n F):∀a,a<=n->nr p n (gK p n F a).1/\KI p n (mG F) (mG (gK p n F a).1) a (gK p n F a).2.1 (gK p n F a).2.2/\(gK p n F a).2.1.length<=a/\(gK p n F a).2.2.length<=a
 |0,_=>⟨g,KI.start λr E c=>(g r E).2 c,a8 _,a8 _⟩
 |a+1,P=>by
  let ⟨i1,i2,i3,i4⟩:=Sy H g a S;have m:0<p:=qM;rw[gK];rcases Z1 (gK p n F a).1 n a (gK p n F a).2.1.length with⟨i,x⟩|B
  .rw[Z2 x];let ⟨a1,a2,C,_⟩:=x;have d:=(i1 i a2).2 a;have f:(gK p n F a).2.1.length<n:=S;have b:=we H.hp H.le d.1 d.2 C;rw[aV]at b;have l:=i2.some H a1 a2 (v:=((eQ (ad<|Y ((gK p n F a).1 i) a 0) p:I):Z)) b;refine⟨?_,l.congr (aly H i1 f a2)<|λk l=>?_,?_,?_⟩
   .exact((i1.sw f a2).up ⟨by rw[tC];exact(i1 i a2).1,Sx m _ (i1 i a2).2 n⟩).el m _ _ _
   .simp only[fO,fu,k6]at l;omega
   .simp only[fO,fu,k6];omega
   .show(gK p n F a).2.2.length<=a+1;omega
  .rw[Z3 B];refine⟨i1,i2.none B,(S:(gK p n F a).2.1.length<=a+1),?_⟩;simp only[fO,fu,k6];omega
def mD(p n:I)(F:I->V Z)(a:V I)(f:I):I->V Z
 |0=>(bh n 0).set f 1
 |b+1=>(mD p n F a f b).set (Y a b 0)<|((p:Z)-Y (F b) f 0)%(p:Z)
def HV(p n:I)(F:I->V Z)(a:V I)(f:I):∀b,G (mD p n F a f b)=n
 |0=>by simp[mD]
 |b+1=>by rw[mD,fP,HV p n F a f b]
def Z4{p n:I}(H:aX p)(F:I->V Z)(a:V I)(f:I):∀b,rp p (mD p n F a f b)
 |0=>DS (Lx H.pos n) f A qM
 |b+1=>DS (Z4 H F a f b) _ (fS _<|by have:=H.pos;omega)<|gA _ H.pos
def Mt{p n:I}{F:I->V Z}{a:V I}{f x:I}:∀b,(∀k,k<b->Y a k 0≠x)->(∀k,k<b->Y a k 0<n)->f<n->x<n->Y (mD p n F a f b) x 0=if f=x then 1 else 0
 |0,_,_,g,hx=>by
  rw[mD,ls _ _ _ _<|by simpa using g];by_cases c:f=x
  .rw[s (by first|exact c|exact jU c),s c]
  .rw[M (by first|exact c| (intro d;exact c<|az d)),M c,aF,j9,s hx];rfl
 |b+1,d,i,g,hx=>by have:=d b S;rw[mD,ls _ _ _ _ (by rw[HV];exact i b S),M<|by first|exact this| (intro d;exact this<|az d)];exact Mt b (λk l=>d k S) (λk l=>i k S) g hx
def Z5{p n:I}{F:I->V Z}{a:V I}{f k:I}:∀b,k<b->(∀k,k<b->Y a k 0<n)->(∀c,k<c->c<b->Y a c 0≠Y a k 0)->Y (mD p n F a f b) (Y a k 0) 0=((p:Z)-Y (F k) f 0)%(p:Z)
 |0,d,_,_=>by omega
 |b+1,d,g,i=>by
  rw[mD,ls _ _ _ _<|by rw[HV];exact g b S];by_cases l:k=b
  .subst l;rw[s (by first|rfl|simp)]
  .have:=i b S S;rw[M (by first|exact this| (intro d;exact this<|az d))];exact Z5 b S (λk r=>g k S)<|λc m v=>i c m S
noncomputable def kg(p n:I)(F:I->V Z):V (V Z):=(gK p n F n).2.2.map λf=>mD p n (gK p n F n).1 (gK p n F n).2.1 f (gK p n F n).2.1.length
def Z6{p n}(H:aX p){F:I->V Z}(W:nr p n F):G (kg p n F)<=n/\(∀v∈kg p n F,G v=n/\rp p v/\(∃i,Y v i 0≠0)/\qR p n (mG F) (λc=>Y v c 0))/\
  ∀E,qR p n (mG F) E->∃x:I->Z,∀c,c<n->E c%(p:Z)=sm (λa=>x a*Y ((kg p n F).getD a []) c 0) (G<|kg p n F)%p:=by
 let ⟨X,h2,j,U⟩:=Sy H W n<|a8 _
 unfold kg
 generalize gK p n F n=o at*
 let ⟨B,b,free⟩:=o
 simp only at X h2 j U⊢
 have K:∀k l,k<G b->l<G b->Y b k 0=Y b l 0->k=l:=by
  intro k l d P e;have Q:=h2.unit k d k S;have r:=h2.unit l P k S;rw[e,r,s J]at Q;by_cases hx:k=l
  .exact hx
  .rw[M hx]at Q;omega
 let t:I->I->Z:=λa c=>Y (mD p n B b (Y free a 0)<|G b) c 0
 let ⟨u,y⟩:=h2.basis H (V:=t) (λa g=>by
   show Y (mD p n B b (Y free a 0)<|G b) (Y free a 0) 0=1
   rw[Mt _ (λk d=>h2.ne k a d g) (λk d=>h2.pb k d) (h2.fb a g) (h2.fb a g),s J])
  (λa g k d=>Z5 _ d (λk d=>h2.pb k d)<|λl Q r z=>by have:=K l k r d z;omega)
  (λa C g m R=>by show Y (mD p n B b (Y free a 0)<|G b) (Y free C 0) 0=0;rw[Mt _ (λk d=>h2.ne k C d m) (λk d=>h2.pb k d) (h2.fb a g) (h2.fb C m),M<|λe=>R<|h2.fd a C g m e])
 refine⟨by rw[cL];exact U,λv A=>?_,λE D=>⟨λa=>E<|Y free a 0,λc L=>?_⟩⟩
 .obtain⟨f,N,rfl⟩:=kY.1 A;let ⟨a,g,e⟩:=AM N;have r:Y free a 0=f:=by rw[aF,bD g,Aj,e]
  refine⟨HV _ _ _ _ _ _,Z4 H _ _ _ _,⟨f,?_⟩,?_⟩
  .rw[<-r,Mt _ (λk d=>h2.ne k a d g) (λk d=>h2.pb k d) (h2.fb a g)<|h2.fb a g,s J];decide
  .rw[<-r];exact u a g
 .rw[y E D c L,cL];congr 1;refine gi λa g=>?_
  congr 1;show Y (mD p n B b (Y free a 0)<|G b) c 0=_;congr 1;rw[aF,aF,gj,bD g];rfl
def mw(b B a:I):I:=cond (Nat.beq a b) B a
def pP{b B a}(c:a≠b):mw b B a=a:=by
 unfold mw;cases e:Nat.beq a b with
 |true=>exact absurd (y8 e) c
 |false=>rfl
def Mu a B:mw a B a=B:=by unfold mw;rw[Mk];rfl
def Eo{i:Type}{c B}{m:V (I×i)}(f:w B m=none):∀b a,(w b m).isSome=ae->(w a m).isSome=ae->mw c B b=mw c B a->b=a:=by
 intro b a h g e;by_cases d:b=c<;>by_cases h2:a=c
 .rw[d,h2]
 .subst d;rw[Mu,pP h2]at e;subst e;rw[f]at g;cases g
 .subst h2;rw[Mu,pP d]at e;subst e;rw[f]at h;cases h
 .rwa[pP d,pP h2]at e
def alz{b:Type}{a k}{l:V (I×b)}(c:a≠k):w k (vG a l)=w k l:=by rw[F8,M c]
def Sz{r}{E}{a}{f:I->V a.den}{c}(d:r<c):w c (gJ r E a f)=none:=by
 cases e:w c (gJ r E a f)with
 |none=>rfl
 |some b=>let ⟨i,g,h2,_⟩:=Me e;omega
def alA{b}{d}{r}{E}{c}{f:I->V c.den}{a}(g:r<a)(i:b≠a):w a (eU b d r E c f)=none:=by unfold eU;rw[eV i];exact Sz g
def Z7{a}{c}{g}{r}{E}{d}{f:I->V d.den}{b}(i:r<b)(k:c≠b)(l:w b a=none):w b (a++eU c g r E d f)=none:=by rw[x5,l,alA i k];rfl
def Ep{K}{conc}{a}{c}{r}{E}{b}{f:I->V b.den}(d:nh K conc=ae)(g:a<K)(i:1+r<=K):eC K (conc++eU a c r E b f):=eC.of<|R' d<|Si g i
def SA{a:Type}{f:a->a}:∀{l:V a},(∀x∈l,f x=x)->l.map f=l
 |[],_=>rfl
 |x::l,b=>by rw[gZ,b x ax,SA λc hy=>b c mV]
def SB g B{P}{mem}{R}{U}{d}{a}{b}{p}{k}{n}{r}{E}{v}{f:I->V v.den}(W:BB (mw g B) P d)(hm:ke (mw g B) mem a)
  (l:w k mem=some (.box n 0<|(be r).map λi=> .X<|1+i)) (hf:∀i,i<r->w (1+i) mem=some (.vec E v<|f i)) (hr:r<=900) (hA:900<g) (x:k≠g) (hB:w B a=none) (hB9:900<B) (F:k≠B) (ho:k<1000000*b) (hb:nh (1000000*b) a=ae:=by rfl) (H:rG (1000000*b) d=ae:=by rfl) (m:iv 1 b=ae:=by rfl):Wk ⟨P,mem,R,U⟩ ⟨d,a++eU k n r E v f,b,p⟩:=by
 have Q:=cY m
 refine wi (mw g B) W (ke.app hm ⟨⟨.box n 0<|(be r).map λi=> .X<|1+i,?_,cK.of_eq ?_⟩,ke.gJ λi K=>?_⟩) (pP S) (Eo<|Z7 S F hB) (show eC (1000000*b) _ from Ep hb ho S) H m
 .rw[pP x];exact l
 .refine aC (aH.box n 0) ?_;refine(SA λc e=>?_).symm;obtain⟨i,K,rfl⟩:=kY.1 e;have:=jO.1 K;show C.X (mw g B<|1+i)=_;rw[pP S]
 .rw[pP S];exact hf i K
def wq(k i a:I):I:=if a=1+k then 1+i else if a=1+i then 1+k else a
def alB k i{a b}(c:wq k i a=wq k i b):a=b:=by unfold wq at c;split at c<;>split at c<;>(try split at c)<;>(try split at c)<;>omega
def BL{k i a}(b:a≠1+k)(c:a≠1+i):wq k i a=a:=by unfold wq;rw[M b,M c]
def alC k i{p}{mem}{B}{F}{sl'}{conc}{nx'}{gd'}{o}{E0}{r}{E}{T}{f g:I->V T.den}(H:k<r)(P:i<r)(Q:BB (wq k i) p sl')(R:ke (wq k i) mem conc)
  (c:w o mem=some (.box E0 0<|(((be r).map λa=>C.X<|1+a).set k<|.X<|1+i).set i<|.X<|1+k)) (m:∀a,a<r->w (1+a) mem=some (.vec E T<|f a)) (U:∀a,a<r->g a=if a=k then f i else if a=i then f k else f a) (hr:r<=900) (W:900<o) (ho:o<1000000*nx') (hb:nh (1000000*nx') conc=ae:=by rfl) (n:rG (1000000*nx') sl'=ae:=by rfl) (d:iv 1 nx'=ae:=by rfl):Wk ⟨p,mem,B,F⟩ ⟨sl',conc++eU o E0 r E T g,nx',gd'⟩:=by
 have v:=cY d
 refine wi (wq k i) Q (ke.app R ⟨⟨.box E0 0<|(((be r).map λa=>C.X<|1+a).set k<|.X<|1+i).set i<|.X<|1+k,?_,cK.of_eq ?_⟩,ke.gJ λa x=>?_⟩) (BL S S) (λ_ _ _ _ h=>alB k i h) (show eC (1000000*nx') _ from Ep hb ho S) n d
 .rw[BL S S];exact c
 .refine aC (aH.box E0 0)<|lq ax λa e K=>?_;simp only[cL,uL]at K;simp only[Ax,og,uA,nU];unfold wq;by_cases l:a=i
  .subst l;by_cases b:a=k
   .subst b;simp
   .rw[s J,M S,s J]
  .by_cases b:a=k
   .subst b;rw[M S,s J,s J]
   .rw[M S,M S,M S,M S]
 .rw[U a x];unfold wq;by_cases l:a=k
  .subst l;rw[s J,s J];exact m i P
  .rw[M S,M l];by_cases b:a=i
   .subst b;rw[s J,s J];exact m k H
   .rw[M S,M b];exact m a x
def ox(r i:I):V C:=(be i).map (λj=>C.X<|1+j)++bh (r-i) (.V<|.slice none 0 0)
def alD r i(a:i<=r):G (ox r i)=r:=by unfold ox;simp;omega
def alE r:ox r r=(be r).map λa=>C.X (1+a):=by unfold ox;rw[gx,uz,iW]
def alF r:ox r 0=bh r (.V<|.slice none 0 0):=by unfold ox;simp
def alG r i(a:i<r):(ox r i).set i (.X<|1+i)=ox r (i+1):=by unfold ox;rw[oR _ _ ax,(S:r-i=(r-(i+1))+1),uc,nE,fe];simp
def Z8{a b:Type}(f:a->b)(c:a):∀(l:V a)(i:I),(l.set i c).map f=(l.map f).set i (f c)
 |[],_=>rfl
 |_::_,0=>rfl
 |x::l,i+1=>by rw[Fv,gZ,gZ,Fv,Z8 f c l i]
def Z9{r i a B}(g:i<a):(ox r i).map (nU<|mw a B)=ox r i:=SA λc d=>by
 rcases b8.1 d with b|b
 .obtain⟨j,f,rfl⟩:=kY.1 b;have:=jO.1 f;show C.X (mw a B<|1+j)=_;rw[pP S]
 .rw[Fu b];rfl
def Z'{r i K}(k:1+i<=K):∀d∈cy (ox r i),d<K:=R9 λc f l a=>by
 rcases b8.1 f with b|b
 .obtain⟨d,g,rfl⟩:=kY.1 b;have:=jO.1 g;simp only[C.ar,iu]at a;omega
 .rw[Fu b]at a;cases a
end Go.El
