/- The engine, part 11: stores into boxes and new boxes, as steps. Own work; no condition. -/
import Derived.KernelRfl
import Derived.Deep.DeepAppendWide
import Derived.Test.YtceihkmakfdcnaaGreatA1
set_option linter.all false
set_option maxHeartbeats 16000000
set_option maxRecDepth 100000
open Array renaming range->VL
open Bool renaming true->af,false->ah
open Go renaming Program->bZ,World->cD,Oper->bh,Operand->dQ,Value->a4,ResultVar->JQ
open Go.Act renaming put->gM
open Go.El renaming iO->o
open Go.Exit renaming inBlock->Cx
open Go.Instr renaming storeAt->OZ,sureAddr->B6,indexAt->zE,build->Fq,buildSlice->FD
open Go.Oper renaming wp->m0,upon->m5
open Go.Region renaming wanted->gH,binds->sx
open Go.Result renaming andThen->df
open Go.Sem renaming run_bind->c9,run_pure->xG,run->jH
open Go.World renaming cell?->Ce,block_lt_of_cell?->Ch
open Int renaming toNat->ae
open List renaming length->Z,take->h,drop->az,getD->E,range->cc,replicate->bp,getElem_toArray->agK
open Nat renaming testBit->m6,ble->eJ,blt->dk
open Option renaming some->ad
open _root_ renaming Nat->Y,Option->aw,List->V
namespace Go.El
open Go Go.RowKit
section
variable{P:bZ}{tt:TT}
def Fi(tt:TT)(a:St)(t:Y)(x v:AV):aw (Y×aN):=match oY tt t,x,jX v with
 |some (sz,_),.c (.P id off),ad us=>(match o id a.mem with
  |some (.box E d cs)=>if Z us=sz/\off+sz<=Z cs/\us.all jI=af then ad (id,.box E d<|cN cs us off)else none
  |_=>none)
 |_,_,_=>none
def Fj cs us off:∀a∈b7 (cN cs us off),a∈b7 cs\/a∈b7 us:=by
 intro a c;unfold cN at c;rcases Cd _ _ a c with h|h
 .rcases Cd _ _ a h with h|h
  .exact .inl<|B5 _ _ a h
  .exact .inr h
 .exact .inl<|E4 _ _ a h
def zH{H}{W}(g:Sub H W){c}{vs}{i}(k:∀a,H c a=none):Sub H (iB W c vs i):=by
 intro f a v d;have l:=g f a v d;by_cases e:c=f
 .subst e;rw[k a]at d;cases d
 .simp only[Ce,xE e];exact l
def OY{c:Type}(vs rest a:V c) off(d:off+Z a<=Z vs):cN (vs++rest) a off=cN vs a off++rest:=by unfold cN;rw[vw G,zI G];simp[kF]
def Vu(cp:cd P tt=af){ops}{i}{aI}(ho:ops[i]? =ad aI)(hg:aI.guard=none)(hd:aI.dst=none){n}{t:TypeId}{x cC}(bV:aI.op= .store t x cC)
 {A}{vx vy}{id}{bk:aN} (hx:A.ev x=ad vx) (hy:A.ev cC=ad vy) (B:Fi tt A t vx vy=ad (id,bk)) (new:Y):
  gX P n ops i (cE A x++cE A cC++fC A [id]) [(.m id,ad<|.b bk)] new:=by
 intro F kE Q N σ g W a K s d C hK
 have O:=dr d A x vx hx<|λw b8=>C w dP
 have R:=dr d A cC vy hy<|λw b8=>C w dP
 have T:=rE d A cC vy hy<|λw b8=>C w dP
 unfold Fi at B
 split at B
 .rename_i _ sz ag u l us U p;split at B
  .rename_i E bz cs hl;split at B
   .rename_i M;let ⟨h1,h2,h3⟩:=M;simp only[ar,bK]at B;obtain⟨rfl,rfl⟩:=B;have r:σ (.m u)=ad (.b<|.box E bz cs):=C (.m u,.b<|.box E bz cs) qn;let ⟨b,vs,rest,S,hh,hr,hN,hz,V⟩:=d.c8 u _ r;let ⟨b',v,hv⟩:=O;rw[S]at v;simp only[ar]at v;subst v;have L:∀c∈us,jI c=af:=λc hc=>mq.1 h3 c hc
    let ⟨ws,Z,X⟩:=Jx p R L;let ⟨_,⟨ti,mZ,agl⟩,_⟩:=Jv cp U;have asI:=X.length;have asJ:=hr.length;have D:(OZ t (a.eval x)<|a.eval cC).run P W= .ok () (iB W b (cN (vs++rest) ws l) E):=by rw[hv];simp only[OZ,B6,storeVar,c9,xG,df,run_sizeOf mZ,Z];have:¬(ws.toArray.size≠ti.size):=bX;simp only[this,bN];have:=zG (P:=P) b ws W (vs++rest) l 0 hh bX<|X.one L;simp only[jd]at this;simpa using this
    unfold wpOp;simp only[ho,gH,hg,b9];refine .inl ?_;unfold m0;have hex:(execOp a.eval aI).run P W= .ok .skip (iB W b (cN (vs++rest) ws l) E):=by rw[execOp,bV];simp[D,jH,pure]
    rw[hex];simp only[m5,hd,gM];have hb:b<W.heap.size:=(fQ.1 hh).1;refine hK g _ a<|d.step (chg:=λj=>j=u) (g':=g) ⟨⟨cK.refl _,λ_ _=>rfl⟩,λ_ _ _=>rfl,zH d.sub hz,zJ,?_,J,J,J⟩ _ new s J d.defers (λ_ _=>rfl) ?_ ?_ ?_ ?_ ?_
    .intro k hk il;have:b≠k:=λe=>il u J (by rw[S,e])
     exact xE this
    .intro j H;subst H;exact⟨xH,_,r⟩
    .intro t' v' ht;simp[aE]at ht
    .intro j bk H;simp only[aE]at H;split at H
     .rename_i e;simp only[Key.m.injEq]at e;subst e;simp only[ar,Info.b.injEq]at H;subst H;have I:cN (vs++rest) ws l=cN vs ws l++rest:=OY vs rest ws l G;exact⟨⟨b,cN vs ws l,rest,S,by rw[xD hb,I],hr.cN X l,hN,hz,λh0=>by let ⟨c,e1,e2⟩:=V h0;refine⟨c,e1,?_⟩;rw[<-I,xF _ _ _ bX];exact e2⟩,.inl ⟨d.dO _ _ r,_,r⟩⟩
     .simp at H
    .intro k z f;simp only[aE]at f;split at f
     .simp only[ar]at f;subst f;intro j H;rcases Fj _ _ _ j H with h|h
      .exact .inl<|d.ak _ _ r j h
      .refine .inl<|T j ?_;cases vy with
       |c q=>simp only[jX,ar]at p;subst p;simpa[b7,AV.ak]using h
       |a q=>simp only[jX,ar]at p;subst p;exact h
       |t q=>simp[jX]at p
     .simp at f
    .intro j z f;simp only[aE]at f;split at f
     .rename_i e;simp only[Key.m.injEq]at e;subst e;exact .inl<|d.dO _ _ r
     .simp at f
   .simp at B
  .simp at B
 .simp at B
def Cf(W:cD)(a:Obj) k(c:k<W.heap.size):(W.heap.push a)[k]? =W.heap[k]? :=by rw[Array.getElem?_push,b G]
def zK{H}{W}(f:Sub H W)(d:Obj):Sub H {W with heap:=W.heap.push d}:=by intro b a v g;have c:=f b a v g;have i:=Ch W _ c;simp only[Ce]at c⊢;rw[Cf W d b i];exact c
def Vv{L}{i}{x:bh}{d:Y}(ho:L[i]? =ad x)(hg:x.guard=none)(hd:x.dst=ad d){n}(di:d<n){bx}rd cs new
  (cF:∀(F:eP)(f:Y->Prop)(σ:Kn)(g:Gh)(W:cD)(a:Act),bw F f σ g W a->(∀kx∈rd,σ kx.1=ad kx.2)->
   (∀p∈b7 cs,f p)/\∃vs,bc g cs vs/\(execOp a.eval x).run P W= .ok (.value<|.pointer<|ad ⟨W.heap.size,0,none⟩) {W with heap:=W.heap.push<|.cells vs.toArray bx (0,0)}):
  gX P n L i rd [(.s d,ad<|.v<|.c<|.P new 0),(.m new,ad<|.b<|.box bx 0 cs)] new:=by
 intro F kE Q f σ g W a K A aW X z
 let ⟨hm,vs,D,M⟩:=cF F f σ g W a aW X
 unfold wpOp
 simp only[ho,gH,hg,b9]
 refine .inl ?_
 unfold m0
 rw[M]
 simp only[m5,hd]
 have j:d<a.tmps.size:=mj
 let B:Gh:=⟨g.H,λp=>if p=new then .pointer (ad ⟨W.heap.size,0,none⟩)else g.γ p⟩
 have S:fY f g B:=⟨cK.refl _,λp l=>by
  have:p≠new:=λe=>A<|e▸l
  simp[B,this]⟩
 have r:∀x,g.H W.heap.size x=none:=by
  intro x;cases G:g.H W.heap.size x with
  |none=>rfl
  |some v=>
   have:=Ch W _<|aW.sub _ _ _ G
   simp at this
 refine z B _ _<|aW.step (chg:=λ_=>False) (g':=B) ⟨S,λ_ _ _=>rfl,zK aW.sub _,ay,λk q _=>Cf W _ k q,J,J,J⟩ _ new A mm aW.defers ?_ (λ_ cF=>cF.elim) ?_ ?_ ?_ ?_
 .intro t ht;have w:d≠t:=qo;simp[gM,k7 w]
 .intro t u ht;simp only[aE]at ht;split at ht
  .rename_i e;simp only[Key.s.injEq]at e;simp only[ar,Info.v.injEq]at ht;subst e;subst ht;refine⟨W.heap.size,by simp[B,cy],?_⟩;simp[gM,j]
  .split at ht
   .simp at ht
   .simp at ht
 .intro p b ht;simp only[aE,reduceCtorEq,bN]at ht;split at ht
  .rename_i e;simp only[Key.m.injEq]at e;subst e;simp only[ar,Info.b.injEq]at ht;subst ht;refine⟨⟨W.heap.size,vs,[],by simp[B,cy],ay,bc.mono S hm D,.inl aW.below.size,r,ay⟩,.inr ⟨J,λk q=> .inl ?_⟩⟩;simp only[B,b9,cy,ar]at q;omega
  .simp at ht
 .intro k y ht;simp only[aE]at ht;split at ht
  .simp only[ar]at ht;subst ht;intro p l;simp[Info.ak,AV.ak,C.ak]at l;exact .inr l
  .split at ht
   .simp only[ar]at ht;subst ht;exact λp l=> .inl<|hm p l
   .simp at ht
 .intro p y ht;simp only[aE,reduceCtorEq,bN]at ht;split at ht
  .rename_i e;simp only[Key.m.injEq]at e;exact .inr e.symm
  .simp at ht
def agm{p}{i}{A:bh}{d:Y}(ho:p[i]? =ad A)(hg:A.guard=none)(hd:A.dst=ad d){n}(L:d<n){bx}{x}(M:A.op= .box bx x)
 {B}{v}{H}(hx:B.ev x=ad v) (f:jX v=ad H) (Q:H.all jI=af) (k:Y):
  gX P n p i (cE B x) [(.s d,ad<|.v<|.c<|.P k 0),(.m k,ad<|.b<|.box bx 0 H)] k:=by
 refine Vv ho hg hd L _ H k ?_
 intro F C w g W a l r
 have X:=dr l B x v hx r
 have e:=rE l B x v hx r
 let ⟨vs,K,S⟩:=Jx f X<|λc h=>mq.1 Q c h
 refine⟨λj u=>e j ?_,vs,S,?_⟩
 .cases v with
  |c q=>simp only[jX,ar]at f;subst f;simpa[b7,AV.ak]using u
  |a q=>simp only[jX,ar]at f;subst f;exact u
  |t q=>simp[jX]at f
 .rw[execOp,M];simp[Instr.box,newVar,newRow,newObj,K,jH,pure]
def xI(g:Gh):∀a:V ZV,bc g (a.map ZV.oX) (a.map ZV.eE)
 |[]=>rfl
 |c::a=>⟨_,_,J,by cases c<;>rfl,xI g a⟩
def agn(u:cd P tt=af){f}{i}{p:bh}{d:Y}(M:f[i]? =ad p)(Q:p.guard=none)(S:p.dst=ad d){n}(x:d<n){A}(B:p.op= .alloc A)
 {r}(H:o A tt=ad r) new:
  gX P n f i [] [(.s d,ad<|.v<|.c<|.P new 0),(.m new,ad<|.b<|.box A 0<|r.zero.map ZV.oX)] new:=by
 refine Vv M Q S x _ _ new ?_
 intro F C q g W a L X
 let ⟨w,e,_,_,z,h,K⟩:=(dW u H).info
 refine⟨?_,r.zero.map ZV.eE,xI g _,?_⟩
 .intro y k;exfalso;have:∀t:V ZV,b7 (t.map ZV.oX)=[]:=by
   intro t;induction t with
   |nil=>rfl
   |cons z t j=>simp only[hJ,b7,j];cases z<;>rfl
  rw[this]at k;cases k
 .have l:z.cells=(r.zero.map ZV.eE).toArray:=by rw[<-Jy];simpa using K
  rw[execOp,B];simp[Instr.alloc,zeroValue,typeInfo,e,h,newVar,newRow,newObj,l,jH,pure]
end
section
variable{P:bZ}{tt:TT}
def O0(tt:TT)(d:St)(t a:Y)(i:AV):aw (AV×Pr):=match o a d.mem,i with
 |some (.vec _ T xs),.c (.I _ k)=>if vp tt t T.n then ad (.c<|.Y a T.n (ae k) 0,.and (.le 0 k)<|.lt k<|Z xs)else none
 |_,_=>none
def ago(cp:cd P tt=af){M}{i}{Q:bh}{d:Y}(ho:M[i]? =ad Q)(hg:Q.guard=none)(hd:Q.dst=ad d){n}(di:d<n){t}{x L}(bV:Q.op= .indexAddr t x L)
 {l}{u}{vy v}{p:Pr} (hx:l.ev x=ad (.c<|.X u)) (hy:l.ev L=ad vy) (A:O0 tt l t u vy=ad (v,p)) (hp:p) (S:Y):
  gX P n M i (cE l x++cE l L++fC l [u]) [(.s d,ad<|.v v)] S:=by
 refine rF ho hg hd di _ v S ?_
 intro F z U g W a f r
 have D:a.eval x=g.γ u:=dr f l x _ hx<|λK b8=>r K dP
 have G:=dr f l L vy hy<|λK b8=>r K dP
 have I:=rE f l x _ hx<|λK b8=>r K dP
 unfold O0 at A
 split at A
 .rename_i E T xs V k hl;split at A
  .rename_i J;simp only[ar,bK]at A;obtain⟨rfl,rfl⟩:=A;have N:U (.m u)=ad (.b<|.vec E T xs):=r (.m u,.b<|.vec E T xs) qn;let ⟨e,i',O,hi,hs⟩:=B7 cp J;have q:a.eval L= .int V k:=G;rcases f.c8 u _ N with⟨_,h0⟩|⟨b,R,vs,w,_⟩
   .subst h0;simp[Pr.h]at hp;omega
   .refine⟨λj hj=>I j O1,.pointer (ad ⟨b,ae k*T.n,none⟩),?_,b,Z xs,R,w,ay⟩;have B:execOp a.eval Q=(do pure (.value<|<-zE t (a.eval x) (a.eval L))):=tZ;rw[B,D,w,q];have H:(0<=k/\k<(Z xs:Int)):=hp;simp only[zE,asIntOf,c9,run_underlying O,df];simp[H,run_sizeOf hi,hs,k8]
  .simp at A
 .simp at A
def O2(tt:TT)(g:St)(t f a d:Y)(i:AV):aw (AV×Pr):=match o f g.mem,i with
 |some (.vec _ T _),.c (.I _ k)=>if T.n=1/\vp tt t 1=af then ad (.c<|.Y f 1 (a+ae k) 0,.and (.le 0 k)<|.lt k d)else none
 |_,_=>none
def agp(cp:cd P tt=af){ops}{i}{aI:bh}{d:Y}(ho:ops[i]? =ad aI)(hg:aI.guard=none)(hd:aI.dst=ad d){n}(di:d<n){t}{x Q}(bV:aI.op= .indexAddr t x Q)
 {r}{S B H}{vy v}{p:Pr} (hx:r.ev x=ad (.c<|.W S B H)) (hy:r.ev Q=ad vy) (L:O2 tt r t S B H vy=ad (v,p)) (hp:p) (new:Y):
  gX P n ops i (cE r x++cE r Q++fC r [S]) [(.s d,ad<|.v v)] new:=by
 refine rF ho hg hd di _ v new ?_
 intro F q O g W a f u
 let ⟨b0,c0,l,w,_⟩:=dr f r x _ hx<|λX b8=>u X dP
 have z:=dr f r Q vy hy<|λX b8=>u X dP
 have D:=rE f r x _ hx<|λX b8=>u X dP
 unfold O2 at L
 split at L
 .rename_i E T xs R k hl;split at L
  .rename_i G;simp only[ar,bK]at L;obtain⟨rfl,rfl⟩:=L;have I:O (.m S)=ad (.b<|.vec E T xs):=u (.m S,.b<|.vec E T xs) qn;let ⟨e,i',J,U,V⟩:=B7 cp G.2;have h:a.eval Q= .int R k:=z;rcases f.c8 S _ I with⟨A,_⟩|⟨b,N,vs,A,_⟩
   .rw[A]at l;simp[cy]at l
   .rw[A]at l;simp only[cy,ar]at l;subst l;refine⟨λj hj=>D j O1,.pointer (ad ⟨b,B+ae k,none⟩),?_,b,Z xs,N,A,ay⟩;have K:execOp a.eval aI=(do pure (.value<|<-zE t (a.eval x) (a.eval Q))):=tZ;rw[K,w,h];have M:(0<=k/\k<(H:Int)):=hp;simp only[zE,asIntOf,c9,run_underlying J,df];simp[M,run_sizeOf U,V,k8]
  .simp at L
 .simp at L
def O3(tt:TT)(a:St)(t d:Y):aw AV:=match o d a.mem,o t tt with
 |some (.vec _ _ xs),ad f=>(match f.kind with| .sl _=>ad (.c<|.I .i64<|Z xs)|_=>none)
 |_,_=>none
def agq(M:cd P tt=af){r}{i}{L:bh}{d:Y}(ho:r[i]? =ad L)(hg:L.guard=none)(hd:L.dst=ad d){n}(Q:d<n){t}{x}(S:L.op= .call ⟨.builtin .len,#[x],#[t]⟩)
 {u}{k}{v}(hx:u.ev x=ad (.c<|.X k)) (l:O3 tt u t k=ad v) (A:Y):
  gX P n r i (cE u x++fC u [k]) [(.s d,ad<|.v v)] A:=by
 refine rF ho hg hd Q _ v A ?_
 intro F K q g W a f B
 have H:a.eval x=g.γ k:=dr f u x _ hx<|λw b8=>B w dP
 unfold O3 at l
 split at l
 .rename_i E T xs I hl y;split at l
  .rename_i e z;simp only[ar]at l;subst l;have h:q (.m k)=ad (.b<|.vec E T xs):=B (.m k,.b<|.vec E T xs) qn;have j:=(dW M y).kind;rw[z]at j;refine⟨qj,.int .i64<|Z xs,?_,J⟩;rw[execOp,S];rcases f.c8 k _ h with⟨p,D⟩|⟨b,G,vs,p,_⟩
   .subst D;simp[resolve,invoke,builtin,Builtin.len_,H,p,run_underlying j,goInt,jH,pure]
   .simp[resolve,invoke,builtin,Builtin.len_,H,p,run_underlying j,goInt,jH,pure]
  .simp at l
 .simp at l
def Fk(c:ET):V C->aw c.den:=match c with
 | .int k=>λa=>(match a with|[.I d n]=>if k=d then ad n else none|_=>none)
 | .bool=>λa=>(match a with|[.B b]=>ad b|_=>none)
 |_=>λ_=>none
def agr{c}{d}{x:c.den}(a:Fk c d=ad x):d=av c x:=by
 cases c with
 |int k=>
  simp only[Fk]at a
  split at a
  .split at a
   .rename_i e;subst e;simp at a;subst a;rfl
   .simp at a
  .simp at a
 |bool=>
  simp only[Fk]at a
  split at a
  .simp at a;subst a;rfl
  .simp at a
 |_=>simp[Fk]at a
def Ci:∀(d:ET)(x:d.den),∀c∈av d x,jI c=af
 | .int _,_,c,a=>by simp[av]at a;subst a;rfl
 | .bool,_,c,a=>by simp[av]at a;subst a;rfl
 | .z,_,c,a=>by simp[av]at a;rcases a with rfl|rfl<;>rfl
 | .q,_,c,a=>by simp[av]at a;rcases a with rfl|rfl|rfl|rfl<;>rfl
 | .sl _,_,c,a=>by simp[av]at a;subst a;rfl
 | .pr A B,x,c,a=>by
  simp only[av,bg]at a;rcases a with a|a
  .exact Ci A _ c a
  .exact Ci B _ c a
def ags{g:Type}(vs d:V g) n i a(p:Z d=n)(l:(i+1)*n<=Z vs)(m:i≠a):h n ((cN vs d<|i*n).drop<|a*n)=(az (a*n) vs).take n:=by
 have r:(i+1)*n=i*n+n:=zL;apply List.ext_getElem?;intro k;rw[Fl,Fl];split
 .rename_i t;rw[vz,vz];unfold cN;rcases oV a i with c|c
  .have f:(a+1)*n<=i*n:=dT _ c;rw[fD,hO]at f;rw[kF,Cj bX,EU G]
  .have f:(i+1)*n<=a*n:=dT _ G;rw[Ck bX,vz];simp only[hP,fp];congr 1;omega
 .rfl
def agt{c:Type}(vs a:V c) n i(f:Z a=n)(d:(i+1)*n<=Z vs):h n ((cN vs a<|i*n).drop<|i*n)=a:=by have g:(i+1)*n=i*n+n:=zL;unfold cN;have:(h (i*n) vs).length=i*n:=bX;rw[kF,zI G,qp G,sF,vw G,iK G]
def Vw(cp:cd P tt=af){ops}{i}{aI}(ho:ops[i]? =ad aI)(hg:aI.guard=none)(hd:aI.dst=none){n}{t:TypeId}{x cC}(bV:aI.op= .store t x cC)
 {B}{v m k}{bx}{f:ET} {xs:V f.den} {vy:AV} (hx:B.ev x=ad (.c<|.Y v m k 0)) (hy:B.ev cC=ad vy) (hl:o v B.mem=ad (.vec bx f xs)) (hm:f.n=m) {ag:Bool} (Jz:oY tt t=ad (m,ag)) {L:f.den} (O4:jX vy=ad (av f L)) (hk:k<Z xs) (new:Y):
  gX P n ops i (cE B x++cE B cC++fC B [v]) [(.m v,ad<|.b<|.vec bx f<|xs.set k L)] new:=by
 intro F kE Q N σ g W a K X d M hK
 have O:=dr d B x _ hx<|λR b8=>M R dP
 have U:=dr d B cC vy hy<|λR b8=>M R dP
 have r:σ (.m v)=ad (.b<|.vec bx f xs):=M (.m v,.b<|.vec bx f xs) qn
 let ⟨b',l',c',u,hv⟩:=O
 rcases d.c8 v _ r with⟨_,h0⟩|⟨b,cap,vs,S,hh,h,hle,q,hr,hN,hz⟩
 .subst h0;simp at hk
 rw[S]at u
 simp only[Value.slice.injEq,ar,Addr.mk.injEq,and_true]at u
 obtain⟨rfl,_,_⟩:=u
 let ⟨ws,JA,s⟩:=Jx O4 U<|Ci f L
 have w:cV g.H f L ws:=zo f L ws s
 have D:Z ws=f.n:=cV.length f _ _ w
 let ⟨_,⟨ti,mZ,agl⟩,_⟩:=Jv cp Jz
 have C:(k+1)*f.n<=Z vs:=by rw[h];exact dT _ G
 have hk1:(k+1)*f.n=k*f.n+f.n:=zL
 subst hm
 have I:(OZ t (a.eval x)<|a.eval cC).run P W= .ok () (iB W b (cN vs ws<|k*f.n) bx):=by rw[hv];simp only[OZ,B6,storeVar,c9,xG,df,run_sizeOf mZ,JA,jd];have:¬(ws.toArray.size≠ti.size):=bX;simp only[this,bN];have:=zG (P:=P) b ws W vs (k*f.n) 0 hh G<|s.one<|Ci f L;simp only[jd]at this;simpa using this
 unfold wpOp
 simp only[ho,gH,hg,b9]
 refine .inl ?_
 unfold m0
 have hex:(execOp a.eval aI).run P W= .ok .skip (iB W b (cN vs ws<|k*f.n) bx):=by rw[execOp,bV];simp[I,jH,pure]
 rw[hex]
 simp only[m5,hd,gM]
 have hb:b<W.heap.size:=(fQ.1 hh).1
 refine hK g _ a<|d.step (chg:=λj=>j=v) (g':=g) ⟨⟨cK.refl _,λ_ _=>rfl⟩,λ_ _ _=>rfl,zH d.sub hz,zJ,?_,J,J,J⟩ _ new X J d.defers (λ_ _=>rfl) ?_ ?_ ?_ ?_ ?_
 .intro k' hk' il;have:b≠k':=λL=>il v J (by rw[S,L];rfl)
  exact xE this
 .intro j p;subst p;exact⟨xH,_,r⟩
 .intro t' v' ht;simp[aE]at ht
 .intro j bk p;simp only[aE]at p;split at p
  .rename_i A;simp only[Key.m.injEq]at A;subst A;simp only[ar,Info.b.injEq]at p;subst p;refine⟨.inr ⟨b,cap,cN vs ws<|k*f.n,by simpa using S,xD hb,?_,by simpa using hle,by simpa using q,λj p=>?_,hN,hz⟩,.inl ⟨d.dO _ _ r,_,r⟩⟩
   .rw[xF _ _ _ G];exact h
   .simp only[rH]at p;rw[List.getElem_set];split
    .rename_i A;subst A;rw[agt vs ws f.n k D C];exact w
    .rename_i A;rw[ags vs ws f.n k j D C A];exact hr j p
  .simp at p
 .intro k' z l;simp only[aE]at l;split at l
  .simp only[ar]at l;subst l;intro j p;simp[Info.ak,aN.ak]at p
  .simp at l
 .intro j z l;simp only[aE]at l;split at l
  .rename_i A;simp only[Key.m.injEq]at A;subst A;exact .inl<|d.dO _ _ r
  .simp at l
end
section
variable{P:bZ}{tt:TT}{n:Y}
def zN(a:V (Y×Y))(c:St):V C->V (Y×dQ)->aw (V C)
 |cs,[]=>ad cs
 |cs,(i,x)::r=>(match a[i]?,c.ev x with
  |some (off,sz),ad v=>(match jX v with
   |some us=>if Z us=sz/\off+sz<=Z cs/\us.all jI=af then zN a c (cN cs us off) r else none
   |none=>none)
  |_,_=>none)
def agv us:∀(vs:V a4)(a k:Y),a+k+Z us<=Z vs->(us.zipIdx k).foldl (λ(c:Array a4)(p:a4×Y)=>c.setIfInBounds (a+p.2) p.1) vs.toArray=(cN vs us<|a+k).toArray:=by
 induction us with
 |nil=>intro vs a k _;simp[cN]
 |cons u us d=>
  intro vs a k h
  simp only[eB]at h
  simp only[List.zipIdx_cons,JB]
  have:vs.toArray.setIfInBounds (a+k) u=(vs.set (a+k) u).toArray:=ay
  rw[this,d (vs.set (a+k) u) a (k+1) bX]
  rw[(G:a+(k+1)=a+k+1),Vt _ _ _ _ G]
def Fo{F:eP}{f:Y->Prop}{σ:Kn}{g:Gh}{W:cD}{a:Act}(H:bw F f σ g W a)(S:St)(pl:V (Y×Y))(l:Y->aw (Y×Y))(JC:∀i x,pl[i]? =ad x->l i=ad x):
  ∀(d:V (Y×dQ))(A m:V C)(vs:V a4),zN pl S A d=ad m->bc g A vs->(∀p∈d,∀kx∈cE S p.2,σ kx.1=ad kx.2)->(∀B∈b7 A,f B)->
   ∃Q:V a4,Instr.fill l vs.toArray (d.map λp=>(p.1,a.eval p.2))=ad Q.toArray/\bc g m Q/\Z Q=Z vs/\∀B∈b7 m,f B
 |[],A,m,vs,u,hr,_,hm=>by simp only[zN,ar]at u;subst u;exact⟨vs,J,hr,J,hm⟩
 | (i,x)::d,A,m,vs,u,hr,L,hm=>by
  simp only[zN]at u;split at u
  .rename_i k sz v hp hv;split at u
   .rename_i Q r;split at u
    .rename_i M;let ⟨h1,h2,h3⟩:=M;have X:=dr H S x v hv<|L (i,x) ay;have j:=rE H S x v hv<|L (i,x) ay;let ⟨ws,s,o⟩:=Jx r X<|λc w=>mq.1 h3 c w;have N:=hr.length;have O:=o.length;have K:∀B∈b7 (cN A Q k),f B:=by
      intro B y;rcases Fj _ _ _ B y with H|H
      .exact hm B H
      .refine j B ?_;cases v with
       |c q=>simp only[jX,ar]at r;subst r;simpa[b7,AV.ak]using H
       |a q=>simp only[jX,ar]at r;subst r;exact H
       |t q=>simp[jX]at r
     let ⟨R,z,D,E,I⟩:=Fo H S pl l JC d (cN A Q k) m (cN vs ws k) u (hr.cN o k) (λp hp=>L p<|by simp[hp]) K;refine⟨R,?_,D,by rw[E,xF _ _ _ G],I⟩;simp only[hJ,Instr.fill,JC i _ hp,s];have w:¬((ws.toArray.size≠sz||decide (k+ws.toArray.size>vs.toArray.size))=af):=by simp;omega
     rw[b (by simpa using w)];have:=agv ws vs k 0 G;simp only[jd]at this;have e:ws.toArray.zipIdx.foldl (λ(A:Array a4)(p:a4×Y)=>A.setIfInBounds (k+p.2) p.1) vs.toArray=(cN vs ws k).toArray:=by rw[<-this];simp
     rw[<-z];congr 1
    .simp at u
   .simp at u
  .simp at u
def JD(a:TI):V (Y×Y):=a.fields.map λf=>(f.1,f.2.1)
def O5(tt:TT)(f:St)(t:Y)(c:V (Y×dQ)):aw AV:=match o t tt with
 |some d=>(match d.kind with
  | .st=>(match zN (JD d) f (d.zero.map ZV.oX) c with|some cs=>ad (.a cs)|none=>none)
  |_=>none)
 |none=>none
def JE(a:V ZV):b7 (a.map ZV.oX)=[]:=by
 induction a with
 |nil=>rfl
 |cons z a c=>simp only[hJ,b7,c];cases z<;>rfl
def agw(r:True){d}{a:Array Field}(g:rC P d.fields a.toList=af) W:∃gh:Array (Y×Y),(a.mapM λf=>(do pure (f.offset,<-sizeOf f.type):Go.Sem (Y×Y))).run P W= .ok gh W/\∀(i:Y)(x:Y×Y),(JD d)[i]? =ad x->gh[i]? =ad x:=by
 have m:∀(l:V (Y×Y×Bool))(a:V Field),rC P l a=af->(a.mapM λf=>(do pure (f.offset,<-sizeOf f.type):Go.Sem (Y×Y))).run P W= .ok (l.map λf=>(f.1,f.2.1)) W:=by
  intro l;induction l with
  |nil=>intro a h;cases a with
   |nil=>simp[pure]
   |cons f a=>simp[rC]at h
  |cons p l t=>
   intro a h
   let ⟨off,sz,C⟩:=p
   cases a with
   |nil=>simp[rC]at h
   |cons f a=>
    let ⟨F,c,u,⟨i,v,A⟩,_⟩:=Jl h (k:=0) J
    simp only[mn,ar]at c
    subst c
    simp only[rC,cr]at h
    have:=t a h.2
    rw[Fp]
    simp only[c9,run_sizeOf v,df,xG,this,A,u,hJ]
 refine⟨(JD d).toArray,?_,λi x h=>dH⟩;have B:a.mapM (λf=>(do pure (f.offset,<-sizeOf f.type):Go.Sem (Y×Y)))=Functor.map List.toArray (a.toList.mapM<|λf=>(do pure (f.offset,<-sizeOf f.type):Go.Sem (Y×Y))):=by simp[Array.mapM_eq_mapM_toList]
 rw[B];simp only[map_eq_pure_bind,c9,m d.fields a.toList g,df];rfl
def agx(m:cd P tt=af){r}{i}{l:bh}{d:Y}(ho:r[i]? =ad l)(hg:l.guard=none)(hd:l.dst=ad d){n}(L:d<n){t}{c}(bV:l.op= .build t c)
 {M}{v}(f:O5 tt M t c.toList=ad v) new:gX P n r i (nF M l.op) [(.s d,ad<|.v v)] new:=by
 refine rF ho hg hd L _ v new ?_
 intro F Q T g W a u S
 unfold O5 at f
 split at f
 .rename_i K A;split at f
  .rename_i E;split at f
   .rename_i G X;simp only[ar]at f;subst f;have D:=(dW m A).kind;rw[E]at D;let ⟨fs,hu,b⟩:=D;let ⟨inf,ua,_,_,z,hz,vA⟩:=(dW m A).info;let ⟨gh,B,C⟩:=agw (P:=P) e b W;let ⟨us,h,ij,I,j⟩:=Fo u M (JD K) (gh[·]?) C c.toList (K.zero.map ZV.oX) G (K.zero.map ZV.eE) X (xI g _) (λp N O q=>S O<|by rw[bV];refine iP.2 ⟨p.2,?_,q⟩;simp only[Op.operands];simp only[jW];exact⟨p,N,J⟩) (by rw[JE];simp);refine⟨j,.agg us.toArray,?_,us,J,ij⟩;have H:z.cells=(K.zero.map ZV.eE).toArray:=Cm;have k:execOp a.eval l=(do pure (.value<|<-Fq t (c.map λ(i,x)=>(i,a.eval x)))):=tZ;have w:(c.map λ(i,x)=>(i,a.eval x)).toList=c.toList.map λp=>(p.1,a.eval p.2):=ay
    have y:(zeroValue t).run P W= .ok z W:=O6;have R:(Fq t<|c.map λ(i,x)=>(i,a.eval x)).run P W= .ok (.agg us.toArray) W:=by unfold Fq;rw[c9,y];simp only[df];rw[c9,run_underlying hu];simp only[df];rw[c9,B];simp only[df,w,H,h];rfl
    rw[k,c9,R];rfl
   .simp at f
  .simp at f
 .simp at f
end
section
variable{P:bZ}{tt:TT}
def eG st x:∀a∈cE st x,st.kn a.1=ad a.2:=by
 intro a h;cases x with
 |tmp t=>
  simp only[cE]at h
  split at h
  .rename_i v c;simp only[gI]at h;subst h;simp[St.kn,c]
  .simp at h
 |_=>simp[cE]at h
def k9 st ids:∀a∈fC st ids,st.kn a.1=ad a.2:=by
 intro a h;let ⟨id,_,h⟩:=iP.1 h;split at h
 .rename_i b c;simp only[gI]at h;subst h;simp[St.kn,c]
 .simp at h
def qq st(op:Op):∀a∈nF st op,st.kn a.1=ad a.2:=by intro a h;let ⟨x,_,h⟩:=iP.1 h;exact eG st x a h
def St.put(a:St)(d:Y)(x:AV):St:={a with sl:=(d,x)::a.sl}
def St.pm(a:St)(c:Y)(d:aN):St:={a with mem:=(c,d)::a.mem}
def rI{a:Type}(t:Y):V (Y×a)->V (Y×a)
 |[]=>[]
 | (k,x)::r=>if k=t then rI t r else(k,x)::rI t r
def St.del(a:St)(d:Y):St:={a with sl:=rI d a.sl}
def zO{d:Type}(t k:Y):∀l:V (Y×d),o k (rI t l)=if t=k then none else o k l
 |[]=>by simp[rI,o]
 | (f,x)::r=>by
  simp only[rI];split
  .rename_i a;subst a;rw[zO f k r];split
   .rfl
   .rename_i c;simp[o,c]
  .rename_i a;simp only[o];split
   .rename_i g;subst g;rw[b (λc=>a c.symm)]
   .exact zO t k r
def oa(a:St) d x:(a.put d x).kn=bH a.kn [(.s d,ad<|.v x)]:=by
 funext k;cases k with
 |s t=>
  by_cases e:d=t
  .simp[St.kn,St.put,o,bH,aE,e]
  .simp[St.kn,St.put,o,bH,aE,e]
 |m id=>simp[St.kn,St.put,bH,aE]
def O7(a:St) d x:(a.pm d x).kn=bH a.kn [(.m d,ad<|.b x)]:=by
 funext k;cases k with
 |s t=>simp[St.kn,St.pm,bH,aE]
 |m id=>
  by_cases e:d=id
  .simp[St.kn,St.pm,o,bH,aE,e]
  .simp[St.kn,St.pm,o,bH,aE,e]
def Cn(a:St) d id x c:((a.pm id c).put d x).kn=bH a.kn [(.s d,ad<|.v x),(.m id,ad<|.b c)]:=by
 funext k;cases k with
 |s t=>
  by_cases e:d=t
  .simp[St.kn,St.put,St.pm,o,bH,aE,e]
  .simp[St.kn,St.put,St.pm,o,bH,aE,e]
 |m j=>
  by_cases e:id=j
  .simp[St.kn,St.put,St.pm,o,bH,aE,e]
  .simp[St.kn,St.put,St.pm,o,bH,aE,e]
def Vx(a:St) d:(a.del d).kn=bH a.kn [(.s d,none)]:=by
 funext k;cases k with
 |s t=>
  by_cases e:d=t
  .simp[St.kn,St.del,zO,bH,aE,e]
  .simp[St.kn,St.del,zO,bH,aE,e]
 |m id=>simp[St.kn,St.del,bH,aE]
abbrev Ks:=V Key×V Key
def bF:V dQ->V Key
 |[]=>[]
 | .tmp t::r=> .s t::bF r
 |_::r=>bF r
def cX:V Y->V Key
 |[]=>[]
 |id::r=> .m id::cX r
def eo(c:St):∀(xs:V dQ),∀k∈dx (xs.flatMap<|cE c),k∈bF xs
 |[],k,a=>by simp[dx]at a
 |x::xs,k,a=>by
  simp only[dx,kH,fe,bg]at a;rcases a with a|a
  .cases x with
   |tmp t=>
    simp only[cE]at a
    split at a
    .simp at a;subst a;simp[bF]
    .simp at a
   |_=>simp[cE]at a
  .have:=eo c xs k a;cases x<;>simp[bF,this]
def jY(d:St):∀(c:V Y),∀k∈dx (fC d c),k∈cX c
 |[],k,a=>by simp[dx,fC]at a
 |id::c,k,a=>by
  simp only[dx,fC,kH,fe,bg]at a;rcases a with a|a
  .split at a
   .simp at a;subst a;simp[cX]
   .simp at a
  .have:=jY d c k a;simp[cX,this]
def Cp(tt:TT)(n a:Y)(l:aw Y)(op:Op):St->aw (St×Pr×Ks)
 |⟨sl,mem,nx,gd⟩=>match l,op with
 |some d,.load t x=>if d<n then(match St.ev ⟨sl,mem,nx,gd⟩ x with
   |some v=>(match Ff tt ⟨sl,mem,nx,gd⟩ t v with
    |some (f,p,ids)=>ad (⟨(d,f)::sl,mem,nx,gd⟩,p,(bF [x]++cX ids,[.s d]))
    |none=>none)
   |none=>none)else none
 |none,.store t x f=>(match St.ev ⟨sl,mem,nx,gd⟩ x,St.ev ⟨sl,mem,nx,gd⟩ f with
   |some (.c<|.Y id m k 0),ad g=>(match o id mem,oY tt t,jX g with
    |some (.vec i r xs),ad (sz,_),ad cs=>if r.n=m/\sz=m then(match Fk r cs with
     |some B=>ad (⟨sl,(id,.vec i r<|xs.set k B)::mem,nx,gd⟩,.zC k<|Z xs,(bF [x,f]++cX [id],[.m id]))
     |none=>none)else none
    |_,_,_=>none)
   |some F,ad g=>(match Fi tt ⟨sl,mem,nx,gd⟩ t F g with
    |some (id,H)=>ad (⟨sl,(id,H)::mem,nx,gd⟩,.t,(bF [x,f]++cX [id],[.m id]))
    |none=>none)
   |_,_=>none)
 |some d,.indexAddr t x f=>if d<n then(match St.ev ⟨sl,mem,nx,gd⟩ x,St.ev ⟨sl,mem,nx,gd⟩ f with
   |some (.c<|.X id),ad g=>(match O0 tt ⟨sl,mem,nx,gd⟩ t id g with
    |some (v,p)=>ad (⟨(d,v)::sl,mem,nx,gd⟩,p,(bF [x,f]++cX [id],[.s d]))
    |none=>none)
   |some (.c<|.W id off len),ad g=>(match O2 tt ⟨sl,mem,nx,gd⟩ t id off len g with
    |some (v,p)=>ad (⟨(d,v)::sl,mem,nx,gd⟩,p,(bF [x,f]++cX [id],[.s d]))
    |none=>none)
   |some _,ad _=>(match sA tt ⟨sl,mem,nx,gd⟩ (.indexAddr t x f)with
    |some (v,p)=>ad (⟨(d,v)::sl,mem,nx,gd⟩,p,(bF [x,f],[.s d]))
    |none=>none)
   |_,_=>none)else none
 |some d,.build t parts=>if d<n then(match O5 tt ⟨sl,mem,nx,gd⟩ t parts.toList with
   |some v=>ad (⟨(d,v)::sl,mem,nx,gd⟩,.t,(bF (Op.build t parts).operands.toList,[.s d]))
   |none=>none)else none
 |some d,.call ⟨.builtin .len,args,A⟩=>if d<n then(match args.toList,A.toList with
   |[x],[t]=>(match St.ev ⟨sl,mem,nx,gd⟩ x with
    |some (.c<|.X id)=>(match O3 tt ⟨sl,mem,nx,gd⟩ t id with
     |some v=>ad (⟨(d,v)::sl,mem,nx,gd⟩,.t,(bF [x]++cX [id],[.s d]))
     |none=>none)
    |some v=>(match E5 tt t v with
     |some u=>ad (⟨(d,u)::sl,mem,nx,gd⟩,.t,(bF [x],[.s d]))
     |none=>none)
    |none=>none)
   |_,_=>none)else none
 |some d,.box i x=>if d<n then(match St.ev ⟨sl,mem,nx,gd⟩ x with
   |some v=>(match jX v with
    |some cs=>if cs.all jI=af then ad (⟨(d,.c<|.P a 0)::sl,(a,.box i 0 cs)::mem,nx,gd⟩,.t,(bF [x],[.s d,.m a]))else none
    |none=>none)
   |none=>none)else none
 |some d,.alloc i=>if d<n then(match o i tt with
   |some L=>ad (⟨(d,.c<|.P a 0)::sl,(a,.box i 0<|L.zero.map ZV.oX)::mem,nx,gd⟩,.t,([],[.s d,.m a]))
   |none=>none)else none
 |some d,op=>if d<n then(match sA tt ⟨sl,mem,nx,gd⟩ op with
   |some (x,p)=>ad (⟨(d,x)::sl,mem,nx,gd⟩,p,(bF op.operands.toList,[.s d]))
   |none=>none)else none
 |none,_=>none
def kI(P:bZ)(n:Y)(a:Array bh)(i:Y)(l c:St)(d:Y)(m:Ks):Prop:=
 ∃f g,gX P n a i f g d/\(∀p∈f,l.kn p.1=ad p.2)/\c.kn=bH l.kn g/\(∀k∈dx f,k∈m.1)/\∀k∈fJ g,k∈m.2
def JF(l:cd P tt=af){n c}{ops}{i}{o}(H:ops[i]? =ad o)(L:o.guard=none){st st'}{p}{ks}
  (h:Cp tt n c o.dst o.op st=ad (st',p,ks)) (hp:p):kI P n ops i st st' c ks:=by
 let ⟨sl,mem,nx,gd⟩:=st
 simp only[Cp]at h
 split at h
 .rename_i d t x A a;split at h
  .rename_i f;split at h
   .rename_i v b;split at h
    .rename_i y q j z;simp only[ar,bK]at h;obtain⟨rfl,rfl,rfl⟩:=h;refine⟨_,_,Vr l H L A f a b z hp c,?_,oa ⟨sl,mem,nx,gd⟩ d y,?_,λk hk=>je⟩
     .intro r B;rcases bg.1 B with h|h
      .exact eG _ x r h
      .exact k9 _ j r h
     .intro k hk;simp only[dx,fe,bg]at hk;rcases hk with h|h
      .exact eh _<|eo ⟨sl,mem,nx,gd⟩ [x] k JG
      .exact fZ _<|jY ⟨sl,mem,nx,gd⟩ j k h
    .simp at h
   .simp at h
  .simp at h
 .rename_i t x y A a;have K:∀g k,k∈dx (cE ⟨sl,mem,nx,gd⟩ x++cE ⟨sl,mem,nx,gd⟩ y++fC ⟨sl,mem,nx,gd⟩ [g])->k∈bF [x,y]++cX [g]:=by
   intro g k hk;simp only[dx,fe,bg]at hk;rcases hk with(h|h)|h
   .exact eh _<|eo ⟨sl,mem,nx,gd⟩ [x,y] k uc
   .exact eh _<|eo ⟨sl,mem,nx,gd⟩ [x,y] k vB
   .exact fZ _<|jY ⟨sl,mem,nx,gd⟩ [g] k h
  have F:∀g,∀r∈cE ⟨sl,mem,nx,gd⟩ x++cE ⟨sl,mem,nx,gd⟩ y++fC ⟨sl,mem,nx,gd⟩ [g],St.kn ⟨sl,mem,nx,gd⟩ r.1=ad r.2:=by
   intro g r B;rcases bg.1 B with h|h
   .rcases bg.1 h with h|h
    .exact eG _ x r h
    .exact eG _ y r h
   .exact k9 _ [g] r h
  split at h
  .rename_i g m k D C M;split at h
   .rename_i E T xs sz ag R z G Q;split at h
    .rename_i S;split at h
     .rename_i cz W;simp only[ar,bK]at h;obtain⟨rfl,rfl,rfl⟩:=h;let ⟨U,h2⟩:=S;subst h2;have s:=agr W;subst s;exact⟨_,_,Vw l H L A a C M z U G Q hp c,F g,O7 ⟨sl,mem,nx,gd⟩ g _,K g,λk hk=>je⟩
     .simp at h
    .simp at h
   .simp at h
  .rename_i vx D C M;split at h
   .rename_i g V Y;simp only[ar,bK]at h;obtain⟨rfl,rfl,rfl⟩:=h;exact⟨_,_,Vu l H L A a C M Y c,F g,O7 ⟨sl,mem,nx,gd⟩ g V,K g,λk hk=>je⟩
   .simp at h
  .simp at h
 .rename_i d t x y A a;split at h
  .rename_i f;split at h
   .rename_i g D C M;split at h
    .rename_i v q W;simp only[ar,bK]at h;obtain⟨rfl,rfl,rfl⟩:=h;refine⟨_,_,ago l H L A f a C M W hp c,?_,oa ⟨sl,mem,nx,gd⟩ d _,?_,λk hk=>je⟩
     .intro r B;rcases bg.1 B with h|h
      .rcases bg.1 h with h|h
       .exact eG _ x r h
       .exact eG _ y r h
      .exact k9 _ [g] r h
     .intro k hk;simp only[dx,fe,bg]at hk;rcases hk with(h|h)|h
      .exact eh _<|eo ⟨sl,mem,nx,gd⟩ [x,y] k uc
      .exact eh _<|eo ⟨sl,mem,nx,gd⟩ [x,y] k vB
      .exact fZ _<|jY ⟨sl,mem,nx,gd⟩ [g] k h
    .simp at h
   .rename_i g Z len D C M;split at h
    .rename_i v q W;simp only[ar,bK]at h;obtain⟨rfl,rfl,rfl⟩:=h;refine⟨_,_,agp l H L A f a C M W hp c,?_,oa ⟨sl,mem,nx,gd⟩ d _,?_,λk hk=>je⟩
     .intro r B;rcases bg.1 B with h|h
      .rcases bg.1 h with h|h
       .exact eG _ x r h
       .exact eG _ y r h
      .exact k9 _ [g] r h
     .intro k hk;simp only[dx,fe,bg]at hk;rcases hk with(h|h)|h
      .exact eh _<|eo ⟨sl,mem,nx,gd⟩ [x,y] k uc
      .exact eh _<|eo ⟨sl,mem,nx,gd⟩ [x,y] k vB
      .exact fZ _<|jY ⟨sl,mem,nx,gd⟩ [g] k h
    .simp at h
   .split at h
    .rename_i v q C;simp only[ar,bK]at h;obtain⟨rfl,rfl,rfl⟩:=h;refine⟨_,_,Jt l H L A f (by rw[a];exact C) hp c,qq _ _,oa ⟨sl,mem,nx,gd⟩ _ _,λk hk=>?_,λk hk=>je⟩;rw[a]at hk;exact eo ⟨sl,mem,nx,gd⟩ _ k hk
    .simp at h
   .simp at h
  .simp at h
 .rename_i d t I A a;split at h
  .rename_i f;split at h
   .rename_i v b;simp only[ar,bK]at h;obtain⟨rfl,rfl,rfl⟩:=h;refine⟨_,_,agx l H L A f a b c,qq _ _,oa ⟨sl,mem,nx,gd⟩ _ _,λk hk=>?_,λk hk=>je⟩;rw[a]at hk;exact eo ⟨sl,mem,nx,gd⟩ _ k hk
   .simp at h
  .simp at h
 .rename_i d args J A a;split at h
  .rename_i f;split at h
   .rename_i x t ha ht;have X:args= #[x]:=Fa;have w:J= #[t]:=OV;subst X w;split at h
    .rename_i g C;split at h
     .rename_i v W;simp only[ar,bK]at h;obtain⟨rfl,rfl,rfl⟩:=h;refine⟨_,_,agq l H L A f a C W c,?_,oa ⟨sl,mem,nx,gd⟩ d _,?_,λk hk=>je⟩
      .intro r B;rcases bg.1 B with h|h
       .exact eG _ x r h
       .exact k9 _ [g] r h
      .intro k hk;simp only[dx,fe,bg]at hk;rcases hk with h|h
       .exact eh _<|eo ⟨sl,mem,nx,gd⟩ [x] k JG
       .exact fZ _<|jY ⟨sl,mem,nx,gd⟩ [g] k h
     .simp at h
    .rename_i v C;split at h
     .rename_i u hu;simp only[ar,bK]at h;obtain⟨rfl,rfl,rfl⟩:=h;refine⟨_,_,Jt l H L A f (x:=u) (p:= .t) (st:=⟨sl,mem,nx,gd⟩) (by rw[a];simp[sA,C,hu]) e c,qq _ _,oa ⟨sl,mem,nx,gd⟩ _ _,λk hk=>?_,λk hk=>je⟩;rw[a]at hk;exact eo ⟨sl,mem,nx,gd⟩ [x] k hk
     .simp at h
    .simp at h
   .simp at h
  .simp at h
 .rename_i d E x A a;split at h
  .rename_i f;split at h
   .rename_i v b;split at h
    .rename_i R Q;split at h
     .rename_i N;simp only[ar,bK]at h;obtain⟨rfl,rfl,rfl⟩:=h;exact⟨_,_,agm H L A f a b Q N c,eG _ x,Cn ⟨sl,mem,nx,gd⟩ d c _ _,λk hk=>eo ⟨sl,mem,nx,gd⟩ [x] k JH,λk hk=>je⟩
     .simp at h
    .simp at h
   .simp at h
  .simp at h
 .rename_i d E A a;split at h
  .rename_i f;split at h
   .rename_i ti O;simp only[ar,bK]at h;obtain⟨rfl,rfl,rfl⟩:=h;exact⟨_,_,agn l H L A f a O c,ay,Cn ⟨sl,mem,nx,gd⟩ d c _ _,by simp[dx],λk hk=>je⟩
   .simp at h
  .simp at h
 .rename_i d _ A _ _ _ _ _ _;split at h
  .rename_i f;split at h
   .rename_i x q C;simp only[ar,bK]at h;obtain⟨rfl,rfl,rfl⟩:=h;exact⟨_,_,Jt l H L A f C hp c,qq _ _,oa ⟨sl,mem,nx,gd⟩ _ x,λk hk=>eo ⟨sl,mem,nx,gd⟩ _ k hk,λk hk=>je⟩
   .simp at h
  .simp at h
 .simp at h
def nH(a:V bh)(c:Y):aw Y:=match a[c]? with
 |some o=>o.dst
 |none=>none
def Cq{d}{l f}(i:nH d.toList l=ad f){g}{a:Act}{m}(t:bG g (.c<|.B m) (a.tmps.getD f undef)):yielded d a.tmps l=ad m:=by
 have n:a.tmps.getD f undef= .bool m:=t;have:(d[l]?).bind (·.dst)=ad f:=by
  unfold nH at i;rw[Cs]at i;cases r:d[l]? with
  |none=>rw[r]at i;simp at i
  |some u=>rw[r]at i;simpa using i
 unfold yielded;rw[this];rcases oV f a.tmps.size with k|p
 .have:a.tmps[f]? =ad (.bool m):=by rw[O8 k];rw[nI,O8 k]at n;simpa using n
  simp[this]
 .exfalso;rw[nI,OK p]at n;simp[undef]at n
def O9{n t}{d}{i}{H}(ho:d[i]? =ad H){jg}{f u}(hg:H.guard=ad (jg,f)){r}(hj:nH d.toList jg=ad r){L x}(hb:o r L.sl=ad (.c<|.B u))(M:u=f){S}
  (m:kI P n (#[{H with guard:=none}]) 0 L x t S):kI P n d i L x t (.s r::S.1,S.2):=by
 let ⟨rd,wr,G,C,X,e,q⟩:=m
 refine⟨(.s r,.v<|.c<|.B u)::rd,wr,?_,?_,X,λk D=>?_,q⟩
 .intro F w Q p I g W a K A l E J;have y:=G F w Q p I g W a K A l (λz b8=>E z dP) J;have N:=l.eC r (.c<|.B u)<|E (.s r,.v<|.c<|.B u) ay;have O:gH H (yielded d a.tmps)=af:=by simp only[gH,hg,Cq hj N,M,beq_self_eq_true]
  unfold wpOp at y⊢;simp only[ho,O,b9];simp only[tW,mn,gH,b9]at y;exact y
 .intro z b8;rcases bY.1 b8 with rfl|m
  .simp[St.kn,hb]
  .exact C z m
 .simp only[dx,hJ,bY]at D;rcases D with m|m
  .simp[m]
  .exact jT _<|e k m
def agy{n x}{m}{i}{H:bh}(ho:m[i]? =ad H){jg}{l p}(hg:H.guard=ad (jg,l)){r}(hj:nH m.toList jg=ad r){L}(hb:o r L.sl=ad (.c<|.B p))(M:p= !l)
  {d:Y} (hd:H.dst=ad d):kI P n m i L (L.del d) x ([.s r],[.s d]):=by
 refine⟨[(.s r,.v<|.c<|.B p)],[(.s d,none)],?_,?_,Vx L d,λk hk=>JH,λk hk=>je⟩
 .intro F q Q S I g W a K A f w z;have D:=f.eC r (.c<|.B p)<|w (.s r,.v<|.c<|.B p) ay;have E:gH H (yielded m a.tmps)=ah:=by simp only[gH,hg,Cq hj D,M];cases l<;>rfl
  unfold wpOp;simp only[ho,E,gY,bN,hd];refine z g W _<|f.step (chg:=λ_=>False) (g':=g) (W':=W) ⟨⟨cK.refl _,λ_ _=>rfl⟩,λ_ _ _=>rfl,f.sub,a7 _,λ_ _ _=>rfl,J,J,J⟩ _ x A mm f.defers ?_ (λ_ h=>h.elim) ?_ ?_ ?_ ?_
  .intro t ht;have X:d≠t:=qo;simp[gM,k7 X]
  .intro t u ht;simp only[aE]at ht;split at ht<;>simp at ht
  .intro G p ht;simp[aE]at ht
  .intro k y ht;simp only[aE]at ht;split at ht<;>simp at ht
  .intro G y ht;simp[aE]at ht
 .intro N C;simp only[gI]at C;subst C;simp[St.kn,hb]
def agz{n x}{m}{i}{L:bh}(ho:m[i]? =ad L){jg}{l p}(hg:L.guard=ad (jg,l)){r}(hj:nH m.toList jg=ad r){M}(hb:o r M.sl=ad (.c<|.B p))(S:p= !l)
  {d:Y} (hd:L.dst=ad d):kI P n m i M (M.put d<|.c .any) x ([.s r],[.s d]):=by
 refine⟨[(.s r,.v<|.c<|.B p)],[(.s d,ad<|.v<|.c .any)],?_,?_,oa M d _,λk hk=>JH,λk hk=>je⟩
 .intro F D Q X O g W a K A f E G;have I:=f.eC r (.c<|.B p)<|E (.s r,.v<|.c<|.B p) ay;have N:gH L (yielded m a.tmps)=ah:=by simp only[gH,hg,Cq hj I,S];cases l<;>rfl
  unfold wpOp;simp only[ho,N,gY,bN,hd];refine G g W _<|f.step (chg:=λ_=>False) (g':=g) (W':=W) ⟨⟨cK.refl _,λ_ _=>rfl⟩,λ_ _ _=>rfl,f.sub,a7 _,λ_ _ _=>rfl,J,J,J⟩ _ x A mm f.defers ?_ (λ_ h=>h.elim) ?_ ?_ ?_ ?_
  .intro t ht;have q:d≠t:=qo;simp[gM,k7 q]
  .intro t u ht;simp only[aE]at ht;split at ht
   .simp only[ar,Info.v.injEq]at ht;subst ht;exact e
   .simp at ht
  .intro z p ht;simp[aE]at ht
  .intro k y ht;simp only[aE]at ht;split at ht
   .simp only[ar]at ht;subst ht;intro z w;simp[Info.ak,AV.ak,C.ak]at w
   .simp at ht
  .intro z y ht;simp[aE]at ht
 .intro R H;simp only[gI]at H;subst H;simp[St.kn,hb]
def JI(tt:TT)(n g:Y)(i:V bh)(f:bh)(a:St):aw (St×Pr×Ks):=match f.guard with
 |none=>Cp tt n g f.dst f.op a
 |some (j,want)=>(match nH i j with
  |some k=>(match o k a.gd,o k a.sl with
   |some dec,ad (.c<|.B b)=>if dec=want then(match Cp tt n g f.dst f.op a with
     |some (l,p,m)=>ad (l,.an (.sy b want) p,(.s k::m.1,m.2))
     |none=>none)
    else(match f.dst with
     |some d=>ad (⟨(d,.c .any)::a.sl,a.mem,a.nx,a.gd⟩,.sy b<|!want,([.s k],[.s d]))
     |none=>none)
   |_,_=>none)
  |none=>none)
def agA(g:cd P tt=af){n k}{c}{i}{r}(t:c[i]? =ad r){u l}{p}{v}
  (a:JI tt n k c.toList r u=ad (l,p,v)) (f:p):kI P n c i u l k v:=by
 unfold JI at a
 split at a
 .rename_i m;exact JF g t m a f
 .rename_i j x m;split at a
  .rename_i M A;split at a
   .rename_i F b _ B;split at a
    .split at a
     .rename_i C q H K;simp only[ar,bK]at a;obtain⟨rfl,rfl,rfl⟩:=a;have f:=Pr.E0 f;exact O9 t m A B f.1<|JF g (o:={r with guard:=none}) ay J K f.2
     .simp at a
    .split at a
     .rename_i d L;simp only[ar,bK]at a;obtain⟨rfl,rfl,rfl⟩:=a;exact agz t m A B f L
     .simp at a
   .simp at a
  .simp at a
end
section
variable{P:bZ}{tt:TT}
def mask(l:V Edge)(a:V Y):Y:=l.foldl (λs e=>if sx .any e then s|||2^e.on|||E a e.on 0 else s) 0
def oZ:V bh->V Y->V Y
 |[],acc=>acc
 |a::os,acc=>oZ os<|acc++[mask a.after.toList acc]
def Ct:V bh->Y->Bool
 |[],_=>af
 |c::os,i=>c.after.toList.all (λa=> !sx .any a||decide (a.on<i))&&Ct os (i+1)
def Fs(a c:V Key):Bool:=a.any λk=>c.any λd=>k=d
def qt(a c:Ks):Bool:=Fs a.2 c.2||Fs a.2 c.1||Fs a.1 c.2
def zQ(m:Y)(c:Ks):V Ks->Y->Bool
 |[],_=>af
 |a::l,i=>(!qt a c||m6 m i)&&zQ m c l (i+1)
def vC:V Y->V Ks->V Ks->Bool
 |m::ms,a::c,done=>zQ m a done 0&&vC ms c (done++[a])
 |[],[],_=>af
 |_,_,_=>ah
def rJ(a:V bh)(c:V Ks):Bool:=Ct a 0&&vC (oZ a []) c []
def agB{l}{d}{f}(a:(mask l d).testBit f=af):∃c∈l,sx .any c=af/\(c.on=f\/m6 (E d c.on 0) f=af):=by
 unfold mask at a;have g:∀(l:V Edge)(s:Y),m6 (l.foldl (λs c=>if sx .any c then s|||2^c.on|||E d c.on 0 else s) s) f=af->
   m6 s f=af\/∃c∈l,sx .any c=af/\(c.on=f\/m6 (E d c.on 0) f=af):=by
  intro l
  induction l with
  |nil=>intro s a;exact .inl a
  |cons c l m=>
   intro s a
   simp only[JB]at a
   rcases m _ a with a|⟨n,i,p,h2⟩
   .split at a
    .rename_i k;simp only[Nat.testBit_or,xJ,Nat.testBit_two_pow,decide_eq_true_eq]at a;rcases a with(a|a)|a
     .exact .inl a
     .exact .inr ⟨c,ay,k,.inl a⟩
     .exact .inr ⟨c,ay,k,.inr a⟩
    .exact .inl a
   .exact .inr ⟨n,by simp[i],p,h2⟩
 rcases g l 0 a with a|a
 .simp at a
 .exact a
def O'{ops:Array bh}:∀(g:V bh)(a:V Y),ops.toList=h (Z a) ops.toList++g->Z a+Z g=ops.size->
  (∀k(t:k<Z a) c,a[k].testBit c=af->lG ops c k)->Z (oZ g a)=ops.size/\∀k(t:k<Z (oZ g a)) c,(oZ g a)[k].testBit c=af->lG ops c k
 |[],a,_,hl,n=>by simp only[oZ];exact⟨tX,n⟩
 |u::g,a,he,hl,n=>by
  have v:ops[Z a]? =ad u:=by
   rw[<-Cs,he,Ck bX];simp only[fp];have:min (Z a) (Z ops.toList)=Z a:=by simp;simp at hl;omega
   rw[this];simp
  simp only[oZ];refine O' g _ ?_ (by simp at hl⊢;omega) ?_
  .have d:Z a<Z ops.toList:=by simp;simp at hl;omega
   simp only[hP,eB,m7,eF];rw[Jw d];have B:ops.toList[Z a]=u:=by have:=v;rw[<-Cs,cH d]at this;simpa using this
   rw[B,kF];exact he
  .intro k t c p;rcases oV k (Z a)with m|C
   .rw[vu m]at p;exact n k m c p
   .have:k=Z a:=by simp at t;omega
    subst this;simp only[List.getElem_append_right (a7 _),mr,vr]at p;let ⟨e,x,A,i⟩:=agB p;have f:e∈u.after:=by simpa using x
    rcases i with l|l
    .exact .one v f A l
    .rcases oV e.on (Z a)with r|r
     .rw[aV,cH r]at l;exact .more v f A J<|n e.on r c l
     .rw[aV,jQ r]at l;simp at l
def Vy:∀(f:V bh)(i:Y),Ct f i=af->∀k g,f[k]? =ad g->∀d∈g.after,sx .any d=af->d.on<i+k
 |[],_,_,k,g,a=>by simp at a
 |g::f,i,l,0,n,a=>by
  simp only[mn,ar]at a;subst a;simp only[Ct,cr,mq,xJ,Fu,decide_eq_true_eq]at l;intro d m c;have:=l.1 d (by simpa using m);rcases this with a|a
  .rw[a]at c;cases c
  .omega
 |g::f,i,l,k+1,n,a=>by simp only[vo]at a;simp only[Ct,cr]at l;intro d m c;have:=Vy f (i+1) l.2 k n a d m c;omega
def VA{m:Y}{g:Ks}:∀(l:V Ks)(i:Y),zQ m g l i=af->∀k a,l[k]? =ad a->qt a g=af->m6 m (i+k)=af
 |[],_,_,k,a,c=>by simp at c
 |a::l,i,d,0,n,c=>by
  simp only[mn,ar]at c;subst c;simp only[zQ,cr,xJ,Fu]at d;intro f;rcases d.1 with c|c
  .rw[c]at f;cases f
  .simpa using c
 |a::l,i,d,k+1,n,c=>by simp only[vo]at c;simp only[zQ,cr]at d;intro f;have:=VA l (i+1) d.2 k n c f;rw[(G:i+(k+1)=i+1+k)];exact this
def VB:∀(k:V Y)(d done:V Ks),vC k d done=af->∀f m g,k[f]? =ad m->d[f]? =ad g->∀i a,i<done.length+f->(done++d)[i]? =ad a->qt a g=af->m6 m i=af
 |m::k,g::d,done,c,0,p,r,hm,l=>by simp only[mn,ar]at hm l;subst hm l;simp only[vC,cr]at c;intro i a t ha n;rw[Cj G]at ha;have:=VA done 0 c.1 i a ha n;simpa using this
 |m::k,g::d,done,c,f+1,p,r,hm,l=>by simp only[vo]at hm l;simp only[vC,cr]at c;intro i a t ha n;exact VB k d (done++[g]) c.2 f p r hm l i a bX Cu n
 |[],[],_,_,f,m,g,hm,_=>by simp at hm
 |[],_::_,_,c,_,_,_,_,_=>by simp[vC]at c
 |_::_,[],_,c,_,_,_,_,_=>by simp[vC]at c
def Cv{a c}{k:Key}(d:k∈a)(f:k∈c):Fs a c=af:=by simp only[Fs,List.any_eq_true];exact⟨k,d,k,f,ay⟩
def VC{c}{p}(r:rJ c.toList p=af):(∀i m f,c[i]? =ad m->f∈m.after->sx .any f=af->f.on<i)/\
  ∀i d a n,i<d->d<c.size->p[i]? =ad a->p[d]? =ad n->qt a n=af->lG c i d:=by
 simp only[rJ,cr]at r
 refine⟨λi m f x A t=>?_,λi d a n u B ha t C=>?_⟩
 .have:=Vy c.toList 0 r.1 i m (by rw[Cs];exact x) f A t;omega
 .have v:=O' (ops:=c) c.toList [] ay ay (λk F=>by simp at F);have g:d<Z (oZ c.toList []):=by rw[v.1];exact B
  have l:=VB _ _ [] r.2 d _ n (cH g) t i a (by simpa using u) Cu C;exact v.2 d g i l
def rK(a:Kn)(c:V (V (Key×Info)×V (Key×aw Info))):Kn:=c.foldl (λa d=>bH a d.2) a
def VD(a:V (V (Key×Info)×V (Key×aw Info)))(c:V Ks):Prop:=
 Z c=Z a/\∀j(h:j<Z a)(d:j<Z c),(∀k∈dx a[j].1,k∈c[j].1)/\∀k∈fJ a[j].2,k∈c[j].2
def RG(P:bZ)(n:Y)(a:Array bh)(f:Bool)(k i:Y)(l:V bh)(m:St)(r:V Ks)(Q:St->Prop):Prop:=
 az i a.toList=l->∃(c:V (V (Key×Info)×V (Key×aw Info)))(d:St),Z c=Z l/\
  (∀j(t:j<Z c),vn P n a (i+j) c[j].1 c[j].2 (rz (λi=>1000000*k+1000*i)<|i+j))/\
  (∀j(t:j<Z c),∀p∈c[j].1,rK m.kn (h j c) p.1=ad p.2)/\
  d.kn=rK m.kn c/\d.nx=k+1/\a.size<=1000/\(f=af->∃g,VD c g/\rJ a.toList (r++g)=af)/\Q d
def Pa{n}{c}{a}{d i}{f}{mem}{m}{p}{l}{Q:St->Prop}(g:Q ⟨f,mem,d+1,[]⟩)(r:(!a||rJ c.toList l)=af:=by kernel_rfl)(k:eJ c.size 1000=af:=by rfl):
  RG P n c a d i [] ⟨f,mem,m,p⟩ l Q:=by
 intro _
 refine⟨[],⟨f,mem,d+1,[]⟩,J,ay,ay,J,J,dc k,λt=>⟨[],⟨J,λj g=>by simp at g⟩,?_⟩,g⟩
 subst t
 simpa using r
def mu{n}{a}{g}{m i}{u}{v}{W p}{ks}{k}{Q:St->Prop}
  (hs:a[i]? =ad u->kI P n a i W p (1000000*m+1000*i) k) (cF:RG P n a g m (i+1) v p (ks++[k]) Q):RG P n a g m i (u::v) W ks Q:=by
 intro c
 have b:a[i]? =ad u:=by have:=a8 (λl=>l[0]?) c;simpa[vz]using this
 have d:az (i+1) a.toList=v:=by rw[<-qu,c];rfl
 let ⟨rd,wr,x,A,r,B,C⟩:=hs b
 let ⟨ds,F,hl,e,h2,q,s,H,w,y⟩:=cF d
 refine⟨(rd,wr)::ds,F,by simp[hl],?_,?_,?_,s,H,?_,y⟩
 .intro j hj;cases j with
  |zero=>simpa using x.OD (new:=rz (λi=>1000000*m+1000*i) i) ⟨a7 _,(G:1000000*m+1000*i<1000000*m+1000*(i+1))⟩
  |succ j=>
   have:=e j sH
   rw[(G:i+(j+1)=i+1+j)]
   simpa using this
 .intro j hj X f;cases j with
  |zero=>simp only[vr]at f;simpa[rK]using A X f
  |succ j=>
   simp only[Cb]at f
   have:=h2 j sH X f
   rw[r]at this
   simpa[rK]using this
 .rw[q,r];simp[rK]
 .intro z;let ⟨K,⟨L,M⟩,t⟩:=w z;refine⟨k::K,⟨by simp[L],λj hj S=>?_⟩,by simpa using t⟩;cases j with
  |zero=>exact⟨B,C⟩
  |succ j=>exact M j sH (by simpa using S)
def agC{n}{c}{k i}{l}{m}{p d}{Q:St->Prop}(r:RG P n c ah k i l m d Q):RG P n c ah k i l m p Q:=by intro a;let ⟨ds,f,hl,t,h2,u,v,g,_,x⟩:=r a;exact⟨ds,f,hl,t,h2,u,v,g,ay,x⟩
def agD{n}{c}{a}{f i}{l}{m}{r d}{t}{k}{p}{Q:St->Prop}(g:cd P tt=af)
  (u:JI tt n (1000000*f+1000*i) c.toList l r=ad (d,p,k)) (v:p) (x:RG P n c a f (i+1) m d (t++[k]) Q):RG P n c a f i (l::m) r t Q:=
 mu (λA=>agA g A u v) x
def gJ(a:Bool)(c:V Ks)(k:Ks):V Ks:=match a with
 |true=>c++[k]
 |false=>[]
def mz{n}{c}{a}{d i}{f}{g}{l}{k}{Q:St->Prop}(m:RG P n c a d i f g (gJ a l k) Q):RG P n c a d i f g (l++[k]) Q:=by
 cases a with
 |true=>exact m
 |false=>exact agC m
def runs(tt:TT)(n g:Y)(a:Bool)(c:V bh):V bh->Y->St->Pr->V Ks->V bh×Y×St×Pr×V Ks
 |[],i,st,p,d=>([],i,st,p,d)
 |l::os,i,st,p,d=>match JI tt n (1000000*g+1000*i) c l st with
  |some (f,m,k)=>runs tt n g a c os (i+1) f (.an p m)<|gJ a d k
  |none=>(l::os,i,st,p,d)
def VE{n:Y}{l:Array bh}{a:Bool}{B:Y}{Q:St->Prop}(m:cd P tt=af):∀(t:V bh)(i:Y)(u:St)(p:Pr)(r:V Ks){c:V bh}{v:Y}{d:St}{x:Pr}{f:V Ks},
  runs tt n B a l.toList t i u p r=(c,v,d,x,f)->x.h->(RG P n l a B v c d f Q)->p.h/\RG P n l a B i t u r Q
 |[],i,u,p,r,c,v,d,x,f,g,hp,A=>by simp only[runs,bK]at g;obtain⟨rfl,rfl,rfl,rfl,rfl⟩:=g;exact⟨hp,A⟩
 |o::t,i,u,p,r,c,v,d,x,f,g,hp,A=>by
  simp only[runs]at g;split at g
  .rename_i C q k H;let ⟨F,K⟩:=VE m t (i+1) C (.an p q) (gJ a r k) g hp A;let ⟨L,h2⟩:=Pr.E0 F;exact⟨L,agD m H h2<|mz K⟩
  .simp only[bK]at g;obtain⟨rfl,rfl,rfl,rfl,rfl⟩:=g;exact⟨hp,A⟩
def lj{n}{c}{a}{k i}{l}{m}{p}{Q:St->Prop}{d}{u}{f}{v}{g}(r:cd P tt=af)
  (x:runs tt n k a c.toList l i m .t p=(d,u,f,v,g)) (A:v) (B:RG P n c a k u d f g Q):RG P n c a k i l m p Q:=
 (VE r l i m .t p x A B).2
def zR{c:Type} ds(d:c) a(f:a<Z ds):E ds a d=ds[a]:=by rw[aV,cH f];rfl
def JJ ds(c:Kn):∀a,a<=Z ds->fold (λi=>(E ds i ([],[])).2) c (cc a)=rK c (h a ds):=by
 intro a;induction a with
 |zero=>intro _;rfl
 |succ a d=>
  intro f
  rw[zz,Ox,d G,Jw G]
  simp only[rK,List.foldl_append,JB,List.foldl_nil]
  rw[zR ds _ a G]
def kb(a:St):Y->Prop:=λc=>c<1000000*a.nx
def agE{d}{p}{l}{Q:St->Prop}{F}{id}{nJ:Exit->Act->cD->Prop}(H:F.rd=none)(jV:P.follows .mixedOrders=af)(cF:RG P F.n d p l.nx 0 d.toList l [] Q)
  (hQ:∀r,Q r->∀g W a,bw F (kb r) r.kn g W a->nJ .normal a W) {g}{W}{a}(h0:bw F (kb l) l.kn g W a):(Code.region id d p).wp P nJ a W:=by
 refine(U9 H).1 ?_
 have K:zy F.rd d:=by rw[H];exact afQ
 let ⟨ds,r,hl,N,h2,O,T,U,V,Y⟩:=cF ay
 have hl':Z ds=d.size:=tX
 have y:∀i,i<d.size->vn P F.n d i ((E ds i ([],[])).1) ((E ds i ([],[])).2) (rz (λi=>1000000*l.nx+1000*i) i):=by intro i o;have:=N i G;rw[zR ds _ i G];simpa using this
 have z:∀i,i<d.size->∀e∈(E ds i ([],[])).1,fold (λi=>(E ds i ([],[])).2) l.kn (cc i) e.1=ad e.2:=by intro i o e L;rw[JJ ds l.kn i G];rw[zR ds _ i G]at L;exact h2 i G e L
 have A:∀g W a,bw F (·<1000000*l.nx+1000*d.size) (fold (λi=>(E ds i ([],[])).2) l.kn<|cc d.size) g W a->nJ .normal a W:=by intro g W a D;refine hQ r Y g W a ?_;rw[O];rw[JJ ds l.kn d.size G,iK G]at D;exact D.weaken (λid eD=>by simp only[kb,T];omega)
 cases p with
 |false=>exact U' (c:=λi=>1000000*l.nx+1000*i) (λi=>(G:1000000*l.nx+1000*i<=1000000*l.nx+1000*(i+1))) h0 y z A K
 |true=>
  let ⟨M,⟨rA,q⟩,S⟩:=V J
  have I:=VC S
  have t:∀i j,i<j->j<d.size->∀a b:Ks,(M[i]? =ad a->M[j]? =ad b->qt a b=af->lG d i j):=by intro i j m x a b ha hb hc;exact I.2 i j a b m x Cu vD hc
  have f:∀i(o:i<d.size),∃a,M[i]? =ad a/\(∀k∈dx (E ds i ([],[])).1,k∈a.1)/\∀k∈fJ (E ds i ([],[])).2,k∈a.2:=by intro i o;have X:i<Z M:=G;refine⟨M[i],cH X,?_⟩;rw[zR ds _ i G];exact q i G X
  refine Va (c:=λi=>1000000*l.nx+1000*i) (λi=>(G:1000000*l.nx+1000*i<=1000000*l.nx+1000*(i+1))) jV I.1 h0 y z ?_ ?_ ?_ A K
  .intro i j m x k u v;let ⟨a,ha,_,B⟩:=f i G;let ⟨b,hb,_,C⟩:=f j x;exact t i j m x a b ha hb (by simp only[qt,Cv (B k u)<|C k v,JK])
  .intro i j m x k u v;let ⟨a,ha,_,B⟩:=f i G;let ⟨b,hb,s,_⟩:=f j x;exact t i j m x a b ha hb (by simp only[qt,Cv (B k u)<|s k v,JK,JL])
  .intro i j m x k u v;let ⟨a,ha,w,_⟩:=f i G;let ⟨b,hb,_,C⟩:=f j x;exact t i j m x a b ha hb (by simp only[qt,Cv (w k u)<|C k v,JL])
end
def jv:Y->a4:=λ_=>undef
def ff(g:Gh):V AV->V a4->Prop
 |[],vs=>vs=[]
 |x::xs,vs=>∃v r,vs=v::r/\bG g x v/\ff g xs r
def cY:V AV->V Y
 |[]=>[]
 |x::xs=>x.ak++cY xs
def bG.iC{g}{x}{v}(a:bG g x v)(c:x.ak=[]){H}(d:cK g.H H)(γ:Y->a4):bG ⟨H,γ⟩ x v:=
 bG.mono (known:=λ_=>False) ⟨d,λ_ a=>a.elim⟩ (by simp[c]) a
def ff.iC{g:Gh}{γ:Y->a4}:∀{xs:V AV}{vs:V a4},ff g xs vs->cY xs=[]->ff ⟨g.H,γ⟩ xs vs
 |[],_,a,_=>a
 |x::xs,_,a,hm=>by simp only[cY,OX]at hm;obtain⟨v,r,rfl,c,d⟩:=a;exact⟨v,r,J,c.iC hm.1 (cK.refl _) γ,d.iC hm.2⟩
def VF(W:cD)(H:FH)(r:AV)(d:Ending)(c:cD):Prop:=
 ∃v a,d= .returned v/\bG ⟨a,jv⟩ r v/\cK H a/\(∀b o,b<W.heap.size->a b o=H b o)/\Sub a c/\Below W.heap.size W c
def ob(P:bZ)(f:FuncId):Bool:=match P.funcs[f]? with
 |some fn=>fn.name != "runtime.NumGoroutine" &&fn.body.isSome
 |none=>ah
structure al(P:bZ)(f:FuncId)(args:V AV)(r:AV):Prop where
 call:ob P f=af
 iC:r.ak=[]
 spec:∀H W vs,Sub H W->ff ⟨H,jv⟩ args vs->Calls P f vs.toArray W (VF W H r)
section
variable{P:bZ}{tt:TT}
def jw(a:St):V dQ->aw (V AV)
 |[]=>ad []
 |x::xs=>match a.ev x,jw a xs with
  |some v,ad vs=>ad<|v::vs
  |_,_=>none
def Cw{F:eP}{c:Y->Prop}{l:Kn}{g:Gh}{W:cD}{a:Act}(m:bw F c l g W a)(f:St):∀(xs:V dQ)(vs:V AV),jw f xs=ad vs->
  (∀d∈xs.flatMap (cE f),l d.1=ad d.2)->ff g vs (xs.map a.eval)
 |[],vs,he,_=>by simp only[jw,ar]at he;subst he;rfl
 |x::xs,vs,he,n=>by
  simp only[jw]at he;split at he
  .rename_i v i p k;simp only[ar]at he;subst he;refine⟨_,_,J,dr m f x v p<|λd b8=>n d dP,Cw m f xs i k<|λd b8=>n d ?_⟩;simp only[kH,bg];exact .inr b8
  .simp at he
def VG{n B}{ops}{i}{L:bh}(ho:ops[i]? =ad L)(hg:L.guard=none){d:Y}(hd:L.dst=ad d)(di:d<n){f}{args}{jZ}(bV:L.op= .call ⟨.value<|.func f,args,jZ⟩)
 {m}{vs}{r:AV} (hv:jw m args.toList=ad vs) (hm:cY vs=[]) (hf:al P f vs r):kI P n ops i m (m.put d r) B (bF args.toList,[.s d]):=by
 refine⟨args.toList.flatMap<|cE m,[(.s d,ad<|.v r)],?_,?_,oa m d r,eo m _,λk hk=>je⟩
 .intro F kE Q j σ g W a K C aW q O;have p:=(Cw aW m _ _ hv q).iC (γ:=jv) hm;have R:=hf.spec g.H W _ aW.sub p;unfold wpOp;simp only[ho,gH,hg,b9];refine .inl ?_;unfold m0;have w:(execOp a.eval L).run P W= .ok (.enter f<|args.map a.eval) W:=by
   have c:=hf.call;unfold ob at c;rw[execOp,bV];cases A:P.funcs[f]? with
   |none=>rw[A]at c;simp at c
   |some fn=>
    rw[A]at c
    simp only[cr,bne_iff_ne,ne_eq]at c
    have T:fn.body≠none:=by intro U;rw[U]at c;simp at c
    simp[resolve,Act.eval,Deferred.ofValue,invoke,callFunc,A,c.1,T]
  rw[w];simp only[m5];have M:(args.map a.eval)=(args.toList.map a.eval).toArray:=zS;rw[M];refine R.mono ?_;rintro e V ⟨v,N,rfl,S,hle,z,X,l⟩;simp only[hd];have D:d<a.tmps.size:=mj;refine O ⟨N,g.γ⟩ V _<|aW.step (chg:=λ_=>False) (g':=⟨N,g.γ⟩) ⟨⟨hle,λ_ _=>rfl⟩,z,X,l.size,λk hk _=>l.block k hk,l.os,l.tape,l.output⟩ _ B C mm aW.defers ?_ (λ_ h=>h.elim) ?_ ?_ ?_ ?_
  .intro t ht;have E:d≠t:=qo;simp[gM,k7 E]
  .intro t u ht;simp only[aE]at ht;split at ht
   .rename_i e;simp only[Key.s.injEq]at e;simp only[ar,Info.v.injEq]at ht;subst e;subst ht;have:=S.iC hf.iC (cK.refl _) g.γ;simpa[gM,D]using this
   .simp at ht
  .intro G b ht;simp[aE]at ht
  .intro k y ht;simp only[aE]at ht;split at ht
   .simp only[ar]at ht;subst ht;intro G I;have:G∈r.ak:=I;rw[hf.iC]at this;cases this
   .simp at ht
  .intro G y ht;simp[aE]at ht
 .intro Z J;let ⟨x,_,h⟩:=iP.1 J;exact eG m x Z h
def agF{n}{c}{a}{u i}{d f:Y}{args}{g}{A}{pos}{k}{v}{l}{mem}{m}{p}{x}{Q:St->Prop}{vs}{r}
  (B:jw ⟨l,mem,m,p⟩ args.toList=ad vs) (F:al P f vs r) (H:RG P n c a u (i+1) v ⟨(d,r)::l,mem,m,p⟩ (gJ a x (bF args.toList,[.s d])) Q) (L:cY vs=[]:=by rfl) (t:dk d n=af:=by rfl):
  RG P n c a u i (⟨ad d,.call ⟨.value<|.func f,args,g⟩,A,pos,k,none⟩::v) ⟨l,mem,m,p⟩ x Q:=
 mu (λC=>VG C J J (dc t) J B L F) (mz H)
def agG{n}{k}{a}{F i}{d f:Y}{args}{l}{H}{pos}{m}{L t}{g M}{S}{p}{mem}{u}{v}{W}{Q:St->Prop}{vs}{r}
  (hj:nH k.toList L=ad t) (hb:o t p=ad (.c<|.B M)) (x:M=g)
  (hv:jw ⟨p,mem,u,v⟩ args.toList=ad vs) (hf:al P f vs r) (cF:RG P n k a F (i+1) S ⟨(d,r)::p,mem,u,v⟩ (gJ a W (.s t::bF args.toList,[.s d])) Q) (hm:cY vs=[]:=by rfl) (A:dk d n=af:=by rfl):
  RG P n k a F i (⟨ad d,.call ⟨.value<|.func f,args,l⟩,H,pos,m,ad (L,g)⟩::S) ⟨p,mem,u,v⟩ W Q:=
 mu (λC=>O9 C J hj hb x<|VG (ops:= #[⟨ad d,.call ⟨.value<|.func f,args,l⟩,H,pos,m,none⟩]) (i:=0) J J J (dc A) J hv hm hf) (mz cF)
def agH{n}{d}{a}{x i}t{l}{A}{g}{mem}{p}{u}{F}{Q:St->Prop}(H:o t g=ad (.c<|.B l))
  (L:l=af->RG P n d a x i A ⟨(t,.c<|.B af)::g,mem,p,(t,af)::u⟩ F Q)
  (M:l=ah->RG P n d a x i A ⟨(t,.c<|.B ah)::g,mem,p,(t,ah)::u⟩ F Q):RG P n d a x i A ⟨g,mem,p,u⟩ F Q:=by
 have v:∀c:Bool,l=c->(⟨(t,.c<|.B c)::g,mem,p,(t,c)::u⟩:St).kn=(⟨g,mem,p,u⟩:St).kn:=by
  intro c e;subst e;funext k;cases k with
  |s K=>
   by_cases e:t=K
   .subst e;simp[St.kn,o,H]
   .simp[St.kn,o,e]
  |m id=>rfl
 cases l with
 |true=>
  intro C
  let ⟨ds,f,r⟩:=L J C
  rw[v af J]at r
  exact⟨ds,f,r⟩
 |false=>
  intro C
  let ⟨ds,f,r⟩:=M J C
  rw[v ah J]at r
  exact⟨ds,f,r⟩
structure eP.pl(F:eP)(n:Y):Prop where
 n:F.n=n
 k0:F.k0<=1
 rd:F.rd=none
 ds:F.ds=[]
abbrev lH:=eP->Exit->Act->cD->Prop
def TR(P:bZ)(n:Y)(c:Code)(d:St)(Q:lH):Prop:=∀F:eP,F.pl n->∀g W a,bw F (kb d) d.kn g W a->c.wp P (Q F) a W
def e9(n:Y)(d:Exit)(c:St)(Q:lH):Prop:=∀F:eP,F.pl n->∀g W a,bw F (kb c) c.kn g W a->Q F d a W
def sI(P:bZ)(c:Code)(Q:lH):lH:=λF=>Exit.then (λa W=>c.wp P (Q F) a W)<|Q F
def vE(a:Y)(Q:lH):lH:=λF=>Cx a<|Q F
def Fv{d:Type}(c:d->St)(k:d->Prop)(i:d->Y)(x:d)(Q:lH):lH:=λF=>Exit.then (λa W=>∃f g,k f/\i f<i x/\bw F (kb<|c f) (c f).kn g W a)<|Q F
variable{n:Y}{Q:lH}{st:St}
def Pb{x c}(d:TR P n x st (sI P c Q)):TR P n (.seq x c) st Q:=λF f g W a i=>wp_seq<|d F f g W a i
def cZ(c:e9 n .normal st Q):TR P n .skip st Q:=λF d g W a f=>wp_skip<|c F d g W a f
def kJ{c}(d:e9 n (.exit c) st Q):TR P n (.exit c) st Q:=λF f g W a i=>wp_exit<|d F f g W a i
def bI(c:e9 n .ret st Q):TR P n .ret st Q:=λF d g W a f=>wp_ret<|c F d g W a f
def asM{d}{c}(f:TR P n c st (vE d Q)):TR P n (.block d c) st Q:=λF i g W a k=>wp_block<|f F i g W a k
def Cy{c}{x i}{d}(l:st.ev c=ad (.c<|.B d))(m:d=af->TR P n x st Q)(p:d=ah->TR P n i st Q):TR P n (.cond c x i) st Q:=by intro F k g W a f;have r:bG g (.c<|.B d) (a.eval c):=dr f st c _ l<|eG st c;exact wp_cond_split r (λe=>m e F k g W a f)<|λe=>p e F k g W a f
def JM{m}{d}{c}(i:P.follows .mixedOrders=af)(p:RG P n d c st.nx 0 d.toList st [] (λf=>e9 n .normal f Q)):TR P n (.region m d c) st Q:=by intro F k g W a r;have t:=k.n;subst t;exact agE k.rd i p (λf u g W a l=>u F k g W a l) r
def aO{a}(c:TR P n a st Q):e9 n .normal st (sI P a Q):=c
def m8{c}{a}(d:e9 n (.exit a) st Q):e9 n (.exit a) st (sI P c Q):=d
def cA{a}(c:e9 n .ret st Q):e9 n .ret st (sI P a Q):=c
def eH{a}(c:e9 n .normal st Q):e9 n .normal st (vE a Q):=c
def jJ{a}(c:e9 n .ret st Q):e9 n .ret st (vE a Q):=c
def kK{c}(d:e9 n .normal st Q):e9 n (.exit c) st (vE c Q):=λF f g W a i=>by simp only[vE,Cx,b9];exact d F f g W a i
def JN{f c}(i:e9 n (.exit c) st Q)(d:c≠f:=by decide):e9 n (.exit c) st (vE f Q):=λF k g W a l=>by simp only[vE,Cx,d,bN];exact i F k g W a l
def nK{a:Type}{c:a->St}{f:a->Prop}{g:a->Y}{x}{d}(i:e9 n (.exit d) st Q):e9 n (.exit d) st (Fv c f g x Q):=i
def kd{a:Type}{c:a->St}{d:a->Prop}{f:a->Y}{x}(g:e9 n .ret st Q):e9 n .ret st (Fv c d f x Q):=g
def Wk(st c:St):Prop:=∀F:eP,F.k0<=1->∀g W a,bw F (kb st) st.kn g W a->∃d,bw F (kb c) c.kn d W a
def aG{f:Type}{c:f->St}{k:f->Prop}{i:f->Y}{x}d(l:k d)(m:i d<i x)(p:Wk st (c d)):e9 n .normal st (Fv c k i x Q):=by intro F r g W a t;let ⟨u,v⟩:=p F r.k0 g W a t;exact⟨d,u,l,m,v⟩
def agI{c}{α:Type}(L:α->Act->cD->Prop)(M:α->Y){Q:Exit->Act->cD->Prop} x{a}{i}(A:L x a i)
  (round:∀x a i,L x a i->c.wp P (Exit.then (λu v=>∃B,L B u v/\M B<M x) Q) a i):(Code.loop c).wp P Q a i:=by
 intro b k K
 have S:∀n x a i,M x=n->L x a i->
   ∃e u v,Q e u v/\Arrives P (lone (b.at a<|.code c:: .inLoop c::k) K i) b k K e u v:=by
  intro n
  induction n using Nat.strongRecOn with
  |_ n X=>
   intro x a i h j
   let ⟨e,f,g,p,d⟩:=round x a i j b (.inLoop c::k) K
   cases e with
   |normal=>
    let ⟨B,r,W⟩:=p
    let ⟨C,F,H,t,m⟩:=X (M B) (h▸W) B f g J r
    exact⟨C,F,H,t,.of_steps (Steps.trans d<|.one step_inLoop) m⟩
   |exit id=>exact⟨_,f,g,p,.pass (x:= .inLoop c) J (λ_ _=> .inl ay) d⟩
   |goto l=>exact⟨_,f,g,p,.pass (x:= .inLoop c) J (λ_ _=> .inl ay) d⟩
   |ret=>exact⟨_,f,g,p,.pass (x:= .inLoop c) J (λ_ _=> .inl ay) d⟩
   |panic ch=>exact⟨_,f,g,p,.pass (x:= .inLoop c) J (λ_ _=> .inl ay) d⟩
   |outgrown=>exact⟨_,f,g,p,.pass (x:= .inLoop c) J (λ_ _=> .inl ay) d⟩
 let ⟨e,u,v,p,d⟩:=S _ x a i J A
 exact⟨e,u,v,p,.of_steps (.one step_loop) d⟩
def aY{α:Type}(d:α->St)(f:α->Prop)(m:α->Y) i{c}(t:f i)(u:Wk st (d i))(round:∀x,f x->TR P n c (d x) (Fv d f m x Q)):TR P n (.loop c) st Q:=by
 intro F p g W a v;let ⟨A,B⟩:=u F p.k0 g W a v;refine agI (λx a W=>f x/\∃g,bw F (kb<|d x) (d x).kn g W a) m i ⟨t,A,B⟩ ?_;rintro x a W ⟨k,g,hg⟩;refine wp_mono (round x k F p g W a hg) ?_;intro e L M r;cases e with
 |normal=>
  let ⟨C,l,H,h2,K⟩:=r
  exact⟨C,⟨H,l,K⟩,h2⟩
 |_=>exact r
end
section
variable{P:bZ}{tt:TT}{n:Y}{Q:lH}{st:St}
def bf(v a:AV):Prop:=(∀g x,bG g v x->bG g a x)/\∀c∈a.ak,c∈v.ak
def bf.refl v:bf v v:=⟨λ_ _ h=>h,λ_ h=>h⟩
def bf.of_eq{v a}(c:v=a):bf v a:=c▸bf.refl v
def bf.nil a:bf (.c<|.V<|.slice none 0 0) (.c<|.S a []):=⟨λg x h=>by have d:x= .slice none 0 0:=h;subst d;exact⟨none,0,J,a7 _,ay,.inl J⟩,qj⟩
def kL(c d:aN):Prop:=(∀N g W a,ik N g W a c->ik N g W a d)/\∀a∈d.ak,a∈c.ak
def kL.refl a:kL a a:=⟨λ_ _ _ _ h=>h,λ_ h=>h⟩
def kL.of_eq{a c}(d:a=c):kL a c:=d▸kL.refl a
def Cz(l:V (Y×AV)):V (Y×AV)->Prop
 |[]=>True
 | (t,a)::r=>(∃v,o t l=ad v/\bf v a)/\Cz l r
def CA(l:V (Y×aN)):V (Y×aN)->Prop
 |[]=>True
 | (t,a)::r=>(∃v,o t l=ad v/\kL v a)/\CA l r
def Cz.get{l:V (Y×AV)}:∀{m:V (Y×AV)},Cz l m->∀{t c},o t m=ad c->∃v,o t l=ad v/\bf v c
 |[],_,_,_,a=>by simp[o]at a
 | (k,x)::m,hw,t,c,a=>by
  simp only[o]at a;split at a
  .rename_i d;subst d;cases a;exact hw.1
  .exact Cz.get hw.2 a
def CA.get{l:V (Y×aN)}:∀{m:V (Y×aN)},CA l m->∀{t c},o t m=ad c->∃v,o t l=ad v/\kL v c
 |[],_,_,_,a=>by simp[o]at a
 | (k,x)::m,hw,t,c,a=>by
  simp only[o]at a;split at a
  .rename_i d;subst d;cases a;exact hw.1
  .exact CA.get hw.2 a
def xK(a:Y):V Y->Bool
 |[]=>af
 |id::r=>dk id a&&xK a r
def Fw(a:Y):V (Y×AV)->Bool
 |[]=>af
 | (_,v)::r=>xK a v.ak&&Fw a r
def vF(a:Y):V (Y×aN)->Bool
 |[]=>af
 | (id,v)::r=>dk id a&&xK a v.ak&&vF a r
def JO{f:Y}:∀{l:V Y},xK f l=af->∀c∈l,c<f
 |[],_,_,a=>by simp at a
 |g::r,d,c,a=>by
  simp only[xK,cr]at d;rcases bY.1 a with rfl|a
  .exact dc d.1
  .exact JO d.2 c a
def VH{d:Y}:∀{l:V (Y×AV)},Fw d l=af->∀t v,o t l=ad v->∀f∈v.ak,f<d
 |[],_,_,_,a=>by simp[o]at a
 | (k,x)::r,c,t,v,a=>by
  simp only[Fw,cr]at c;simp only[o]at a;split at a
  .cases a;exact JO c.1
  .exact VH c.2 t v a
def JP{d:Y}:∀{l:V (Y×aN)},vF d l=af->∀t v,o t l=ad v->t<d/\∀f∈v.ak,f<d
 |[],_,_,_,a=>by simp[o]at a
 | (k,x)::r,c,t,v,a=>by
  simp only[vF,cr]at c;simp only[o]at a;split at a
  .rename_i g;subst g;cases a;exact⟨dc c.1.1,JO c.1.2⟩
  .exact JP c.2 t v a
def wk{st st'}(M:Cz st.sl st'.sl)(S:CA st.mem st'.mem)(p:(Fw (1000000*st'.nx) st'.sl&&vF (1000000*st'.nx) st'.mem&&(eJ 1 st'.nx||eJ st.nx 0))=af:=by rfl):Wk st st':=by
 intro F X g W a h;simp only[cr,xJ]at p;let ⟨p,A⟩:=p;have B:∀d,d<F.k0->kb st' d/\g.γ d=F.γ0 d:=by
  intro d l;let ⟨K,h2⟩:=h.gW d l;refine⟨?_,h2⟩;have K:d<1000000*st.nx:=K;show d<1000000*st'.nx;rcases A with e|e
  .have:=dc e;omega
  .have:=dc e;omega
 have L:∀t f,st'.kn (.s t)=ad (.v f)->(∃v,st.kn (.s t)=ad (.v v)/\bf v f)/\∀d∈f.ak,d<1000000*st'.nx:=by intro t f e;simp only[St.kn,cL]at e;let ⟨x,hx,he⟩:=e;cases he;let ⟨v,hv,hle⟩:=M.get hx;exact⟨⟨v,zT,hle⟩,VH p.1 t f hx⟩
 have r:∀d i,st'.kn (.m d)=ad (.b i)->(∃b,st.kn (.m d)=ad (.b b)/\kL b i)/\d<1000000*st'.nx/\∀j∈i.ak,j<1000000*st'.nx:=by intro t f e;simp only[St.kn,cL]at e;let ⟨x,hx,he⟩:=e;cases he;let ⟨v,hv,hle⟩:=S.get hx;exact⟨⟨v,zT,hle⟩,JP p.2 t f hx⟩
 refine⟨g,h.size,h.defers,?_,?_,?_,?_,?_,h.sub,h.below,h.le,h.fresh,B⟩
 .intro t f e;let ⟨⟨v,hv,hle⟩,_⟩:=L t f e;exact hle.1 _ _<|h.eC t v hv
 .intro d i e;let ⟨⟨b,o,hle⟩,_⟩:=r d i e;exact hle.1 _ _ _ _<|h.c8 d b o
 .intro d u b i k e q w C;let ⟨⟨c,hc,_⟩,_⟩:=r d b e;let ⟨⟨y,H,_⟩,_⟩:=r u i q;exact h.inj d u c y k hc H w C
 .intro k x e d l;cases k with
  |s t=>
   cases x with
   |v f=>exact(L t f e).2 d l
   |b i=>simp only[St.kn,cL]at e;let ⟨_,_,he⟩:=e;cases he
  |m j=>
   cases x with
   |v f=>simp only[St.kn,cL]at e;let ⟨_,_,he⟩:=e;cases he
   |b i=>exact(r j i e).2.2 d l
 .intro d x e;cases x with
  |v f=>simp only[St.kn,cL]at e;let ⟨_,_,he⟩:=e;cases he
  |b i=>exact(r d i e).2.1
def dU{c}{st'}(f:Wk st st')(i:TR P n c st' Q):TR P n c st Q:=by intro F d g W a k;let ⟨l,m⟩:=f F d.k0 g W a k;exact i F d l W a m
def Pc{c}{st'}(f:Wk st st')(i:e9 n c st' Q):e9 n c st Q:=by intro F d g W a k;let ⟨l,m⟩:=f F d.k0 g W a k;exact i F d l W a m
def zW(P:bZ)(c:Func)(r:AV):lH:=λF e a W=>(∀b,¬F.own b)->bodyPost P c (VF F.w0 F.H0 r) e a W
def oc(tt:TT)(st:St):JQ->aw AV
 | .tmp t=>o t st.sl
 | .cell t ty=>(match o t st.sl with
  |some (.c<|.P id off)=>(match o id st.mem,oY tt ty with
   |some (.box _ _ cs),ad (sz,a)=>mY cs off sz a
   |_,_=>none)
  |_=>none)
def qv:AV->aw (Bool×V C)
 | .c x=>ad (ah,[x])
 | .a cs=>ad (af,cs)
 | .t _=>none
def oe(tt:TT)(st:St):V JQ->aw (V<|Bool×V C)
 |[]=>ad []
 |x::xs=>(match oc tt st x with
  |some v=>(match qv v,oe tt st xs with
   |some a,ad r=>ad<|a::r
   |_,_=>none)
  |none=>none)
def lI(tt:TT)(st:St):V JQ->aw AV
 |[x]=>oc tt st x
 |xs=>(oe tt st xs).map .t
def zX(a:Array a4):JQ->Go.Sem a4
 | .tmp t=>pure<|a.getD t undef
 | .cell c t=>do loadVar t (<-asAddr (a.getD c undef))
def VI(k:cd P tt=af){F}{i:Y->Prop}{g}{W}{a}(l:bw F i st.kn g W a){x}{v}(hv:oc tt st x=ad v):
  ∃u,(zX a.tmps x).run P W= .ok u W/\bG g v u:=by
 cases x with
 |tmp t=>
  simp only[oc]at hv
  exact⟨_,by simp[zX,pure],l.eC t v zT⟩
 |cell b t=>
  simp only[oc]at hv
  split at hv
  .rename_i A m hl;split at hv
   .rename_i E B C sz X H p;let ⟨K,vs,rest,r,hh,L,_,_⟩:=l.c8 A (.box E B C) (by simp[St.kn,H]);let ⟨M,d,hp⟩:=l.eC b (.c<|.P A m) zY;rw[r]at d;simp only[ar]at d;subst d;let ⟨u,f,hu⟩:=Fb (W:=W) k p L hv K 0 (λj S=>by have:=tY hh j bX;rw[vu S]at this;simpa using this);refine⟨u,?_,hu⟩;simp only[eF]at f;simp only[zX,hp,asAddr];simpa[Instr.loadAt,B6]using f
   .simp at hv
  .simp at hv
def Pe{g}{v}{f}(d:qv v=ad f){u}(i:bG g v u):zm g f u:=by
 cases v with
 |c x=>simp only[qv,ar]at d;subst d;exact i
 |a cs=>simp only[qv,ar]at d;subst d;exact i
 |t _=>simp[qv]at d
def CB(t:cd P tt=af){F}{k:Y->Prop}{g}{W}{a}(B:bw F k st.kn g W a){fn}{rs}(H:fn.results=rs.toArray){v}(i:lI tt st rs=ad v):
  ∃u,(results fn a.tmps).run P W= .ok u W/\bG g v u:=by
 have L:∀(rs:V JQ)(p:V (Bool×V C)),oe tt st rs=ad p->∃f:V a4,(rs.mapM<|zX a.tmps).run P W= .ok f W/\fX g p f/\Z f=Z rs:=by
  intro rs;induction rs with
  |nil=>intro p c;simp only[oe,ar]at c;subst c;exact⟨[],by simp[pure],J,J⟩
  |cons x xs M=>
   intro p c
   simp only[oe]at c
   split at c
   .rename_i j K;split at c
    .rename_i s r S X;simp only[ar]at c;subst c;let ⟨u,hu,d⟩:=VI t B K;let ⟨f,l,m,hlen⟩:=M r X;refine⟨u::f,?_,⟨u,f,J,Pe S d,m⟩,by simp[hlen]⟩;rw[Fp];simp only[c9,hu,df,l];simp[pure]
    .simp at c
   .simp at c
 have e:results fn a.tmps=(do let vs <-rs.toArray.mapM (zX a.tmps);pure (if B:vs.size=1 then vs[0]else .tuple vs)):=by unfold results;rw[H];rfl
 have A:Array.mapM (zX a.tmps) rs.toArray=Functor.map List.toArray (rs.mapM<|zX a.tmps):=ay
 rw[e,A]
 match rs,i with
 |[],i=>
  simp only[lI,oe,ud,ar]at i
  subst i
  exact⟨.tuple #[],by simp[jH,pure],[],J,J⟩
 |[x],i=>
  let ⟨u,hu,d⟩:=VI t B i
  refine⟨u,?_,d⟩
  simp[hu,jH,pure]
 |x::y::r,i=>
  simp only[lI,cL]at i
  obtain⟨p,c,rfl⟩:=i
  let ⟨f,l,m,hlen⟩:=L _ p c
  refine⟨.tuple f.toArray,?_,f,J,m⟩
  have b:f.toArray.size≠1:=by simp[hlen]
  simp only[map_eq_pure_bind,bind_assoc,pure_bind,c9,l,df]
  rw[dif_neg b]
  rfl
def gZ(f:cd P tt=af){m}{p}{t r}(v:lI tt st p=ad t)(i:bf t r)(l:m.results=p.toArray:=by rfl)(x:r.ak=[]:=by rfl):e9 n .ret st (zW P m r):=by intro F A g W a h c;let ⟨u,hu,d⟩:=CB f h l v;refine⟨h.defers.trans A.ds,u,hu,u,g.H,J,?_,h.le,λb o B=>h.fresh b o B<|c b,h.sub,⟨h.below.os,h.below.tape,h.below.output,h.below.size,λk C=>h.below.block k C<|c k⟩⟩;exact(i.1 _ _ d).iC x (cK.refl _) jv
def dv:Y->V AV->V (Y×AV)
 |_,[]=>[]
 |i,v::vs=>(i,v)::dv (i+1) vs
def nL{g:Gh}:∀(vs:V AV)(f:V a4)(i:Y),ff g vs f->∀t v,o t (dv i vs)=ad v->i<=t/\∃u,f[t-i]? =ad u/\bG g v u/\∀d∈v.ak,d∈cY vs
 |[],_,i,_,t,v,c=>by simp[dv,o]at c
 |x::vs,_,i,k,t,v,c=>by
  obtain⟨u,r,rfl,l,m⟩:=k;simp only[dv,o]at c;split at c
  .rename_i e;subst e;cases c;exact⟨a7 _,u,ay,l,λd a=>by simp[cY,a]⟩
  .let ⟨F,p,A,B,C⟩:=nL vs r (i+1) m t v c;refine⟨G,p,?_,B,λd a=>by simp[cY,C d a]⟩;rw[(G:t-i=(t-(i+1))+1)];simpa using A
def xL{g:Gh}:∀{vs:V AV}{c:V a4},ff g vs c->Z c=Z vs
 |[],_,a=>by simp only[ff]at a;subst a;rfl
 |_::vs,_,a=>by obtain⟨u,r,rfl,_,d⟩:=a;simp[xL d]
def CC{f}{g}{c}{args}{r}(hf:P.funcs[f]? =ad g)(hb:g.body=ad c)(S:g.ntmps=n)(i:eJ args.length n=af)(F:cY args=[])(L:r.ak=[])(uf:(g.name != "runtime.NumGoroutine")=af)
  (l:TR P n c ⟨dv 0 args,[],0,[]⟩ (zW P g r)):al P f args r:=by
 refine⟨CE,L,?_⟩
 intro H W vs p d
 refine calls_of_wp hf hb ?_
 have K:=xL d
 have i:=dc i
 refine wp_mono (l {w0:=W,H0:=H,n:=n} ⟨J,be _,J,J⟩ ⟨H,jv⟩ W _ ⟨?_,J,?_,?_,?_,?_,?_,p,⟨J,J,J,a7 _,λ_ _ _=>rfl⟩,cK.refl _,λ_ _ _ _=>rfl,λ_ l=>absurd l<|CF _⟩)<|λe a E X=>X<|λ_ l=>l
 .simp[S];omega
 .intro t v M;simp only[St.kn,cL]at M;let ⟨x,hx,he⟩:=M;cases he;let ⟨_,u,hu,q,_⟩:=nL args vs 0 d t v hx;have A:vs[t]? =ad u:=xM;have iN:t<Z vs:=(sB.1 A).1;have:(vs.toArray++Array.replicate (g.ntmps-vs.toArray.size) undef).getD t undef=u:=by rw[nI,zZ CG];simp[A]
  rw[this];exact q
 .intro B b e;simp[St.kn,o]at e
 .intro B w b G k e;simp[St.kn,o]at e
 .intro k x e B C;cases k with
  |m j=>simp[St.kn,o]at e
  |s t=>
   simp only[St.kn,cL]at e
   let ⟨y,z,he⟩:=e
   subst he
   let ⟨_,u,_,_,D⟩:=nL args vs 0 d t y z
   have:=D B C
   rw[F]at this
   cases this
 .intro B x e;simp[St.kn,o]at e
end
def sR{l:V (Y×AV)}{t:Y}{v:AV}(a:o t l=ad v):∃x,o t l=ad x/\bf x v:=⟨v,a,bf.refl v⟩
def bR{l:V (Y×aN)}{t:Y}{v:aN}(a:o t l=ad v):∃x,o t l=ad x/\kL x v:=⟨v,a,kL.refl v⟩
def sE{l:V (Y×AV)}{t:Y}{a v:AV}(c:o t l=ad a)(d:a=v):∃x,o t l=ad x/\bf x v:=⟨a,c,bf.of_eq d⟩
def bE{l:V (Y×aN)}{t:Y}{a v:aN}(c:o t l=ad a)(d:a=v):∃x,o t l=ad x/\kL x v:=⟨a,c,kL.of_eq d⟩
def bJ{c:V (Y×AV)}:∀{l:V (Y×AV)},l.map (λa=>o a.1 c)=l.map (λa=>ad a.2)->Cz c l
 |[],_=>trivial
 | (t,v)::l,d=>⟨⟨v,(JR d).1,bf.refl v⟩,bJ (JR d).2⟩
def vG{c:V (Y×aN)}:∀{l:V (Y×aN)},l.map (λa=>o a.1 c)=l.map (λa=>ad a.2)->CA c l
 |[],_=>trivial
 | (t,v)::l,d=>⟨⟨v,(JR d).1,kL.refl v⟩,vG (JR d).2⟩
def aH{d a:St}(f:a.sl.map (λc=>o c.1 d.sl)=a.sl.map (λc=>ad c.2):=by rfl)(g:a.mem.map (λc=>o c.1 d.mem)=a.mem.map (λc=>ad c.2):=by rfl)(i:(Fw (1000000*a.nx) a.sl&&vF (1000000*a.nx) a.mem&&(eJ 1 a.nx||eJ d.nx 0))=af:=by rfl):Wk d a:=wk (bJ f) (vG g) i
def ll{p:Prop}(a:p:=by first|trivial| (simp only[Pr.an,Pr.h,num,fR,true_and,and_true];first|done|omega)| (simp[Pr.an,Pr.h,num,fR];done)| (simp[Pr.an,Pr.h,num,fR];omega)):p:=a
def agJ{p:Prop}(a:p:=by first|trivial| (simp only[Pr.an,Pr.h,num,fR,true_and,and_true];first|done|omega)):p:=a
def bL{a d:Int}(f:a=d):AV.c (C.I .u64 a)=AV.c (C.I .u64 d):=by rw[f]
def im{a d:Int}(f:a=d):AV.c (C.I .i64 a)=AV.c (C.I .i64 d):=by rw[f]
def CH{a d:Int}(f:a=d):AV.c (C.I .u32 a)=AV.c (C.I .u32 d):=by rw[f]
section
variable{P:bZ}{tt:TT}
def VJ{c:Type}(a:V c) n i(f:i<n):h (Z a) (az (i*Z a)<|(bp n a).flatten)=a:=by
 induction n generalizing i with
 |zero=>omega
 |succ n d=>
  rw[xx,JS]
  cases i with
  |zero=>simp
  |succ i=>
   rw[(E7:(i+1)*Z a=Z a+i*Z a),<-qu,List.drop_left]
   exact d i G
def VK{c:Type}(a:V c) n:(bp n a).flatten.length=n*Z a:=ay
def JT(a:V a4) n(g:a≠[]):(VL<|n*Z a).map (λi=>a.toArray[i%a.toArray.size]!)=((bp n a).flatten).toArray:=by
 apply Array.ext
 .simp
 .intro i f h2;simp at f;have k:0<Z a:=cQ.2 g;have d:i%Z a<Z a:=fb _ k;simp only[Array.getElem_map,Array.getElem_range,List.size_toArray,agK];rw[getElem!_pos _ _ (by simpa using d),agK];have l:i/Z a<n:=xN (by rw[gN];exact f);have m:=VJ a n (i/Z a) l;have p:i=i/Z a*Z a+i%Z a:=by rw[gN];exact(qx i<|Z a).symm
  have c:(h (Z a)<|(bp n a).flatten.drop<|i/Z a*Z a)[i%Z a]? =a[i%Z a]? :=by rw[m]
  rw[EU d,vz,<-p]at c;rw[cH o0,cH d]at c;simp only[ar]at c;exact c.symm
def VM{ops}{i}{r:bh}{d:Y}(ho:ops[i]? =ad r)(hg:r.guard=none)(hd:r.dst=ad d){n}(di:d<n){L}{bx}{M}{xs}new(hlen:Z xs*M.n<=140737488355328)
  (cF:∀(F:eP)(f:Y->Prop)(σ:Kn)(g:Gh)(W:cD)(a:Act),bw F f σ g W a->(∀kx∈nF L r.op,σ kx.1=ad kx.2)->
   ∃(vs:V a4)(l:Y)(W1:cD),(execOp a.eval r).run P W= .ok (.value<|.slice (ad ⟨W.heap.size,0,none⟩) (Z xs) l) {W1 with heap:=W.heap.push<|.cells vs.toArray bx (0,0)}/\W1.os=W.os/\W1.tape=W.tape/\W1.output=W.output/\Z vs=l*M.n/\Z xs<=l/\
    ∀i(cF:i<Z xs),cV g.H M xs[i] ((az (i*M.n) vs).take M.n)):
  kI P n ops i L ((L.pm new<|.vec bx M xs).put d<|.c<|.X new) new (bF r.op.operands.toList,[.s d,.m new]):=by
 refine⟨nF L r.op,[(.s d,ad<|.v<|.c<|.X new),(.m new,ad<|.b<|.vec bx M xs)],?_,qq L _,Cn L d new _ _,eo L _,λk hk=>je⟩
 intro F kE Q f σ g W a K A aW D O
 let ⟨vs,l,W1,j,R,U,e3,G,hle,q⟩:=cF F f σ g W a aW D
 unfold wpOp
 simp only[ho,gH,hg,b9]
 refine .inl ?_
 unfold m0
 rw[j]
 simp only[m5,hd]
 have I:d<a.tmps.size:=mj
 let S:Gh:=⟨g.H,λB=>if B=new then .slice (ad ⟨W.heap.size,0,none⟩) (Z xs) l else g.γ B⟩
 have w:fY f g S:=⟨cK.refl _,λB p=>by
  have:B≠new:=λe=>A<|e▸p
  simp[S,this]⟩
 have x:∀r,g.H W.heap.size r=none:=by
  intro r;cases hv:g.H W.heap.size r with
  |none=>rfl
  |some v=>
   have:=Ch W _<|aW.sub _ _ _ hv
   simp at this
 have z:Sub g.H {W1 with heap:=W.heap.push<|.cells vs.toArray bx (0,0)}:=by have:=zK aW.sub<|.cells vs.toArray bx (0,0);exact this
 refine O S _ _<|aW.step (chg:=λ_=>False) (g':=S) ⟨w,λ_ _ _=>rfl,z,ay,λk hk _=>Cf W _ k hk,R,U,e3⟩ _ new A mm aW.defers ?_ (λ_ cF=>cF.elim) ?_ ?_ ?_ ?_
 .intro t ht;have N:d≠t:=qo;simp[gM,k7 N]
 .intro t u ht;simp only[aE]at ht;split at ht
  .rename_i e;simp only[Key.s.injEq]at e;simp only[ar,Info.v.injEq]at ht;subst e;subst ht;simp[gM,I,bG,da,S]
  .split at ht
   .simp at ht
   .simp at ht
 .intro B b ht;simp only[aE,reduceCtorEq,bN]at ht;split at ht
  .rename_i e;simp only[Key.m.injEq]at e;subst e;simp only[ar,Info.b.injEq]at ht;subst ht;refine⟨.inr ⟨W.heap.size,l,vs,by simp[S],ay,G,hle,hlen,q,.inl aW.below.size,x⟩,.inr ⟨J,λk hk=> .inl ?_⟩⟩;simp only[S,b9,cy,ar]at hk;omega
  .simp at ht
 .intro k y ht;simp only[aE]at ht;split at ht
  .simp only[ar]at ht;subst ht;intro B p;simp[Info.ak,AV.ak,C.ak]at p;exact .inr p
  .split at ht
   .simp only[ar]at ht;subst ht;intro B p;simp[Info.ak,aN.ak]at p
   .simp at ht
 .intro B y ht;simp only[aE,reduceCtorEq,bN]at ht;split at ht
  .rename_i e;simp only[Key.m.injEq]at e;exact .inr e.symm
  .simp at ht
def VN{ops}{i}{f:bh}{d:Y}(ho:ops[i]? =ad f)(hg:f.guard=none)(hd:f.dst=ad d){n}(di:d<n){M}{bx}{p}{xs}new(hlen:Z xs*p.n<=140737488355328)
  (cF:∀(F:eP)(m:Y->Prop)(σ:Kn)(g:Gh)(W:cD)(a:Act),bw F m σ g W a->(∀kx∈nF M f.op,σ kx.1=ad kx.2)->
   ∃(vs:V a4)(l:Y)(W1:cD),(execOp a.eval f).run P W= .ok (.value<|.slice (ad ⟨W.heap.size,0,none⟩) (Z xs) l) {W1 with heap:=W.heap.push<|.cells vs.toArray bx (0,0)}/\W1.os=W.os/\W1.tape=W.tape/\W1.output=W.output/\Z vs=l*p.n/\Z xs<=l/\
    ∀i(cF:i<Z xs),cV g.H p xs[i] ((az (i*p.n) vs).take p.n)):
  kI P n ops i M (M.put d<|.c<|.S p xs) new (bF f.op.operands.toList,[.s d]):=by
 refine⟨nF M f.op,[(.s d,ad<|.v<|.c<|.S p xs)],?_,qq M _,oa M d _,eo M _,λk hk=>je⟩
 intro F kE Q m σ g W a K X aW D hK
 let ⟨vs,l,W1,q,e1,e2,e3,qy,hle,B⟩:=cF F m σ g W a aW D
 unfold wpOp
 simp only[ho,gH,hg,b9]
 refine .inl ?_
 unfold m0
 rw[q]
 simp only[m5,hd]
 have I:d<a.tmps.size:=mj
 let x:Gh:=⟨λb f=>if b=W.heap.size then vs[f]? else g.H b f,g.γ⟩
 have A:∀f,g.H W.heap.size f=none:=by
  intro f;cases r:g.H W.heap.size f with
  |none=>rfl
  |some v=>
   have:=Ch W _<|aW.sub _ _ _ r
   simp at this
 have L:cK g.H x.H:=by
  intro b f v r;by_cases e:b=W.heap.size
  .subst e;rw[A]at r;cases r
  .simp[x,e,r]
 have w:Sub x.H {W1 with heap:=W.heap.push<|.cells vs.toArray bx (0,0)}:=by
  intro b f v r;by_cases e:b=W.heap.size
  .subst e;simp only[x,b9]at r;simp[Ce,r]
  .simp only[x,e,bN]at r;exact zK aW.sub (.cells vs.toArray bx (0,0)) b f v r
 refine hK x _ _<|aW.step (chg:=λ_=>False) (g':=x) ⟨⟨L,λ_ _=>rfl⟩,?_,w,ay,λk hk _=>Cf W _ k hk,e1,e2,e3⟩ _ new X mm aW.defers ?_ (λ_ cF=>cF.elim) ?_ ?_ ?_ ?_
 .intro b f hb;have:b≠W.heap.size:=G;simp[x,this]
 .intro t ht;have N:d≠t:=qo;simp[gM,k7 N]
 .intro t u ht;simp only[aE]at ht;split at ht
  .rename_i e;simp only[Key.s.injEq]at e;simp only[ar,Info.v.injEq]at ht;subst e;subst ht;have z:(a.put (ad d)<|.slice (ad ⟨W.heap.size,0,none⟩) (Z xs) l).tmps.getD d undef= .slice (ad ⟨W.heap.size,0,none⟩) (Z xs) l:=by simp[gM,I]
   rw[z];refine⟨_,l,J,hle,hlen,?_⟩;by_cases hx:xs=[]
   .exact .inl hx
   .refine .inr ⟨W.heap.size,0,J,λk hk=>⟨(az (k*p.n) vs).take p.n,cV.length p _ _<|B k hk,cV.mono L p _ _<|B k hk,λj hj=>?_⟩⟩;have O:(k+1)*p.n<=l*p.n:=dT _ G;rw[fD,hO]at O;simp only[fp,CI]at hj;simp only[x,b9,eF,qm,sC];exact cH G
  .simp at ht
 .intro U b ht;simp[aE]at ht
 .intro k y ht;simp only[aE]at ht;split at ht
  .simp only[ar]at ht;subst ht;intro U R;simp[Info.ak,AV.ak,C.ak]at R
  .simp at ht
 .intro U y ht;simp[aE]at ht
def agL(A:cd P tt=af){B}{i}{H:bh}{d:Y}(ho:B[i]? =ad H)(hg:H.guard=none)(hd:H.dst=ad d){n}(di:d<n){t}{x}(bV:H.op= .makeSlice t x x)
 {st}{m:Y} {k}(hx:st.ev x=ad (.c<|.I k (m:Int))) {bx}{ti p:TI} (mZ:o t tt=ad ti) (hk:ti.kind= .sl bx) (mA:o bx tt=ad p) (l:ET) (rG:p.size=l.n)
  (hz:∀g:Gh,bc g (av l l.aD) (p.zero.map ZV.eE)) (hb:m*p.bytes<=281474976710656) (lJ:m*l.n<=140737488355328) (r:Y):
  kI P n B i st ((st.pm r<|.vec bx l<|bp m l.aD).put d<|.c<|.X r) r (bF H.op.operands.toList,[.s d,.m r]):=by
 refine VM ho hg hd di r (by simpa using lJ) ?_
 intro F b U g W a C h
 have N:a.eval x= .int k (m:Int):=dr C st x _ hx<|λO b8=>h O Pf
 have y:=(dW A mZ).kind
 rw[hk]at y
 let ⟨inf,K,L,M,z,q,vA⟩:=(dW A mA).info
 have f:Z (p.zero.map ZV.eE)=l.n:=cV.length l _ _<|zo l _ _<|hz g
 have Q:z.cells=(p.zero.map ZV.eE).toArray:=Cm
 have S:(p.zero.map ZV.eE)≠[]:=by intro e;rw[e]at f;have:=l.zl;simp at f;omega
 have R:m*1<=m*l.n:=jh m l.zl
 have w:(inf.bytes:Int)*(m:Int)<=281474976710656:=by
  rw[M];have:(p.bytes:Int)*(m:Int)=((m*p.bytes:Y):Int):=by rw[gN];simp
  rw[this];omega
 have u:=run_make (P:=P) W t bx inf z y K q k k m m G G w G
 refine⟨(bp m<|p.zero.map ZV.eE).flatten,m,W,?_,J,J,J,?_,ay,?_⟩
 .rw[execOp,bV];have v:madeCells z.cells (m*inf.size)=((bp m<|p.zero.map ZV.eE).flatten).toArray:=by rw[L,rG,Q,<-f,<-JT _ m S];rfl
  simp only[bW]at u;rw[v]at u;simp only[N,c9,u,df,fE];rfl
 .rw[VK,f]
 .intro j D;simp only[fE]at D;have:=VJ (p.zero.map ZV.eE) m j D;rw[f]at this;rw[this,List.getElem_replicate];exact zo l _ _<|hz g
end
section
variable{P:bZ}{tt:TT}{n:Y}{Q:lH}{st:St}
def xO(d:Y)(f:ET)(xs:V f.den):C->C
 | .X a=>if a=d then .S f xs else .X a
 | .Y a m i off=>if a=d then .any else .Y a m i off
 |c=>c
def z0(d:Y)(a:ET)(xs:V a.den):V C->V C
 |[]=>[]
 |c::r=>xO d a xs c::z0 d a xs r
def Fy(c:Y)(a:ET)(xs:V a.den):V (Bool×V C)->V (Bool×V C)
 |[]=>[]
 | (d,cs)::r=>(d,z0 c a xs cs)::Fy c a xs r
def Fz(f:Y)(d:ET)(xs:V d.den):AV->AV
 | .c x=> .c<|xO f d xs x
 | .a cs=> .a<|z0 f d xs cs
 | .t g=> .t<|Fy f d xs g
def vH(c:Y)(a:ET)(xs:V a.den):V (Y×AV)->V (Y×AV)
 |[]=>[]
 | (t,v)::r=>(t,Fz c a xs v)::vH c a xs r
def Pg(c:Y)(a:ET)(xs:V a.den):aN->aN
 | .box d f cs=> .box d f<|z0 c a xs cs
 |g=>g
def sJ(a:Y)(c:ET)(xs:V c.den):V (Y×aN)->V (Y×aN)
 |[]=>[]
 | (d,f)::r=>if d=a then sJ a c xs r else(d,Pg a c xs f)::sJ a c xs r
def VO(c:Y)(a:ET)(xs:V a.den)(t:Y):∀l,o t (vH c a xs l)=(o t l).map (Fz c a xs)
 |[]=>rfl
 | (k,v)::r=>by
  simp only[vH,o];split
  .rfl
  .exact VO c a xs t r
def Ph(d:Y)(a:ET)(xs:V a.den)(t:Y):∀l,o t (sJ d a xs l)=if t=d then none else(o t l).map (Pg d a xs)
 |[]=>by simp[sJ,o]
 | (k,v)::r=>by
  simp only[sJ,o];split
  .rename_i c;subst c;rw[Ph k a xs t r];split
   .rfl
   .rename_i f;rw[b (λc=>f c.symm)]
  .rename_i c;simp only[o];split
   .rename_i g;subst g;rw[b c];rfl
   .exact Ph d a xs t r
def VP id f xs c:∀d∈(xO id f xs c).ak,d∈c.ak:=by
 intro d a;cases c with
 |X k=>simp only[xO]at a;split at a;simp[C.ak]at a;exact a
 |Y k m i off=>simp only[xO]at a;split at a;simp[C.ak]at a;exact a
 |_=>exact a
def JU(i:Y)(d:ET)(xs:V d.den):∀(f:V C),∀a∈b7 (z0 i d xs f),a∈b7 f
 |[],a,g=>g
 |c::f,a,g=>by simp only[z0,b7,bg]at g⊢;exact g.imp (VP i d xs c a)<|JU i d xs f a
def VQ(i:Y)(d:ET)(xs:V d.den):∀(f:V (Bool×V C)),∀a∈fP (Fy i d xs f),a∈fP f
 |[],a,g=>g
 | (k,c)::f,a,g=>by simp only[Fy,fP,bg]at g⊢;exact g.imp (JU i d xs c a)<|VQ i d xs f a
def agM id d xs v:∀f∈(Fz id d xs v).ak,f∈v.ak:=by
 cases v with
 |c x=>exact VP id d xs x
 |a cs=>exact JU id d xs cs
 |t g=>exact VQ id d xs g
section
variable{id:Y}{T:ET}{xs:V T.den}{known:Y->Prop}{g g':Gh}
def Pj(a:fY known g g')(f:kZ (cV g'.H T) T.n g'.H xs (g.γ id)):∀{c:C}{v:a4},(∀l∈c.ak,known l)->da g c v->da g' (xO id T xs c) v:=by
 intro c v d h;cases c with
 |X k=>
  simp only[xO]
  split
  .rename_i e;subst e;simp only[da]at h;subst h;exact f
  .exact da.mono a d h
 |Y k m i off=>
  simp only[xO]
  split
  .trivial
  .exact da.mono a d h
 |_=>exact da.mono a d h
def JV(i:fY known g g')(k:kZ (cV g'.H T) T.n g'.H xs (g.γ id)):∀{c:V C}{vs:V a4},(∀a∈b7 c,known a)->bc g c vs->bc g' (z0 id T xs c) vs
 |[],_,_,d=>d
 |_::_,_,l,d=>by let ⟨v,r,m,p,h2⟩:=d;exact⟨v,r,m,Pj i k (λa f=>l a<|by simp[b7,f]) p,JV i k (λa f=>l a<|by simp[b7,f]) h2⟩
def VR(l:fY known g g')(m:kZ (cV g'.H T) T.n g'.H xs (g.γ id)):∀{p:V (Bool×V C)}{vs:V a4},(∀a∈fP p,known a)->fX g p vs->fX g' (Fy id T xs p) vs
 |[],_,_,d=>d
 | (x,c)::_,_,u,d=>by
  let ⟨v,r,t,f,h2⟩:=d;refine⟨v,r,t,?_,VR l m (λa i=>u a<|by simp[fP,i]) h2⟩;have k:∀a∈b7 c,known a:=λa i=>u a (by simp[fP,i])
  match x,c,f with
  |true,c,f=>let ⟨vs,t,d⟩:=f;exact⟨vs,t,JV l m k d⟩
  |false,[c],f=>exact Pj l m (λa i=>k a<|by simp[b7,i]) f
def agN(f:fY known g g')(i:kZ (cV g'.H T) T.n g'.H xs (g.γ id)){x}{v}(k:∀l∈x.ak,known l)(d:bG g x v):bG g' (Fz id T xs x) v:=by
 cases x with
 |c y=>exact Pj f i k d
 |a cs=>let ⟨vs,e,d⟩:=d;exact⟨vs,e,JV f i k d⟩
 |t m=>let ⟨vs,e,d⟩:=d;exact⟨vs,e,VR f i k d⟩
end
def FA p{bx}{l}{xs}{sl}{mem}{nx}{gd}(hl:o p mem=ad (.vec bx l xs)):Wk ⟨sl,mem,nx,gd⟩ ⟨vH p l xs sl,sJ p l xs mem,nx,gd⟩:=by
 intro F FB g W a h;have L:St.kn ⟨sl,mem,nx,gd⟩ (.m p)=ad (.b<|.vec bx l xs):=zY;have V:=h.c8 p _ L;have main:∀B:Gh,fY (kb ⟨sl,mem,nx,gd⟩) g B->kZ (cV B.H l) l.n B.H xs (g.γ p)->Sub B.H W->(∀b d,b<F.w0.heap.size->¬F.own b->B.H b d=F.H0 b d)->(∀b d,cy (g.γ p)≠ad b->B.H b d=g.H b d)->B.γ=g.γ->
   bw F (kb ⟨vH p l xs sl,sJ p l xs mem,nx,gd⟩) (St.kn ⟨vH p l xs sl,sJ p l xs mem,nx,gd⟩) B W a:=by
  intro B A hX Y xP hH hγ
  have hS:∀t X,St.kn ⟨vH p l xs sl,sJ p l xs mem,nx,gd⟩ (.s t)=ad (.v X)->∃v,St.kn ⟨sl,mem,nx,gd⟩ (.s t)=ad (.v v)/\X=Fz p l xs v:=by intro t X e;simp only[St.kn,VO,Option.map_map,cL]at e;let ⟨v,hv,he⟩:=e;cases he;exact⟨v,zT,J⟩
  have hM:∀j r,St.kn ⟨vH p l xs sl,sJ p l xs mem,nx,gd⟩ (.m j)=ad (.b r)->∃b,St.kn ⟨sl,mem,nx,gd⟩ (.m j)=ad (.b b)/\r=Pg p l xs b/\j≠p:=by
   intro j r e;simp only[St.kn,Ph]at e;split at e
   .simp at e
   .rename_i O;simp only[Option.map_map,cL]at e;let ⟨b,C,he⟩:=e;cases he;exact⟨b,by simp[St.kn,C],J,O⟩
  refine⟨h.size,h.defers,?_,?_,?_,?_,?_,Y,h.below,h.le.trans A.H,xP,λp L=>⟨(h.gW p L).1,by rw[hγ];exact(h.gW p L).2⟩⟩
  .intro t X e;obtain⟨v,hv,rfl⟩:=hS t X e;exact agN A hX (λj M=>h.ak _ _ hv j M)<|h.eC t v hv
  .intro j r e;obtain⟨b,C,rfl,O⟩:=hM j r e;have q:=h.c8 j b C;have u:∀k,cy (g.γ j)=ad k->cy (g.γ p)≠ad k:=λk R w=>O (h.inj j p b _ k C L R w)
   cases b with
   |box E' bz cs=>
    let ⟨k,vs,rest,e1,K,y,z,D,e6⟩:=q
    exact⟨k,vs,rest,o4,K,JV A hX (λi S=>h.ak _ _ C i S) y,z,λd=>by rw[hH k d (u k e1)];exact D d,by rw[hγ];exact e6⟩
   |vec E' T' ys=>
    rcases q with⟨e1,K⟩|⟨k,I,vs,e1,K,y,z,JW,D,e6,e7⟩
    .exact .inl ⟨o4,K⟩
    .exact .inr ⟨k,I,vs,o4,K,y,z,JW,λi S=>cV.mono A.H _ _ _<|D i S,e6,λd=>by rw[hH k d (u k<|by rw[e1];rfl)];exact e7 d⟩
   |jG f first z1=>
    let ⟨us,ws,e1,K,y⟩:=q
    exact⟨us,ws,o4,fX.mono A (λi S=>h.ak _ _ C i<|eh _ S) K,fX.mono A (λi S=>h.ak _ _ C i<|fZ _ S) y⟩
   |fz E' cs=>
    let ⟨k,vs,rest,e1,K,y,z,D⟩:=q
    exact⟨k,vs,rest,o4,K,bc.mono A (λi S=>h.ak _ _ C i S) y,z,λd=>by rw[hH k d (u k e1)];exact D d⟩
   |mp ka va ys=>
    let ⟨k,es,e1,K,y,z,D⟩:=q
    exact⟨k,es,o4,K,iM.mono A (λi S=>h.ak _ _ C i S) y,z,λd=>by rw[hH k d (u k<|by rw[e1];rfl)];exact D d⟩
   |it m n seen=>
    let ⟨k,b,e1,e0,K,z,D⟩:=q
    exact⟨k,b,o4,by rw[hγ];exact e0,K,z,λd=>by rw[hH k d (u k<|by rw[e1];rfl)];exact D d⟩
  .intro i j b r k e e' R w;let ⟨c,hc,_⟩:=hM i b e;let ⟨c',JX,_⟩:=hM j r e';rw[hγ]at R w;exact h.inj i j c c' k hc JX R w
  .intro k x e j M;cases k with
   |s t=>
    cases x with
    |v X=>obtain⟨v,hv,rfl⟩:=hS t X e;exact h.ak _ _ hv j<|agM p l xs v j M
    |b r=>simp only[St.kn,cL]at e;let ⟨_,_,he⟩:=e;cases he
   |m i=>
    cases x with
    |v X=>simp only[St.kn,cL]at e;let ⟨_,_,he⟩:=e;cases he
    |b r=>
     obtain⟨b,C,rfl,_⟩:=hM i r e
     refine h.ak _ _ C j ?_
     cases b with
     |box E' bz cs=>exact JU p l xs cs j M
     |vec E' T' ys=>exact M
     |jG f first z1=>exact M
     |fz E' cs=>exact M
     |mp ka va ys=>exact M
     |it m n seen=>exact M
  .intro i x e;cases x with
   |v X=>simp only[St.kn,cL]at e;let ⟨_,_,he⟩:=e;cases he
   |b r=>let ⟨b,C,_⟩:=hM i r e;exact h.dO _ _ C
 rcases V with⟨hγ,hx⟩|⟨b,I,vs,hγ,hh,qy,A,hlen,q,hN,hz⟩
 .refine⟨g,main g ⟨cK.refl _,λ_ _=>rfl⟩ ?_ h.sub h.fresh (λ_ _ _=>rfl) J⟩;subst hx;exact⟨none,0,hγ,ay,ay,.inl J⟩
 .let B:Gh:=⟨λr d=>if r=b then(if d<Z xs*l.n then vs[d]? else none)else g.H r d,g.γ⟩;have N:cK g.H B.H:=by
   intro r d v hv;by_cases e:r=b
   .subst e;rw[hz]at hv;cases hv
   .simp[B,e,hv]
  refine⟨B,main B ⟨N,λ_ _=>rfl⟩ ?_ ?_ ?_ ?_ J⟩
  .refine⟨ad ⟨b,0,none⟩,I,hγ,A,hlen,?_⟩;by_cases hx:xs=[]
   .exact .inl hx
   .refine .inr ⟨b,0,J,λk R=>⟨(az (k*l.n) vs).take l.n,cV.length l _ _<|q k R,cV.mono N l _ _<|q k R,λj M=>?_⟩⟩;have FC:(k+1)*l.n<=I*l.n:=dT _ G;have JY:(k+1)*l.n<=Z xs*l.n:=dT _ G;rw[fD,hO]at FC JY;simp only[fp,CI]at M;have iN:k*l.n+j<Z xs*l.n:=G;simp only[B,b9,eF,qm,sC,iN];exact cH G
  .intro r d v hv;by_cases e:r=b
   .subst e;simp only[B,b9]at hv;split at hv
    .simp[Ce,hh,hv]
    .cases hv
   .simp only[B,e,bN]at hv;exact h.sub r d v hv
  .intro r d U rL;have:r≠b:=by
    intro e;subst e;rcases hN with h1|h1
    .omega
    .exact rL h1
   simp only[B,this,bN];exact h.fresh r d U rL
  .intro r d U;have:r≠b:=λe=>U (by rw[hγ,e];rfl)
   simp[B,this]
def c6 id{l}{f}{xs}{c}{g}{mem}{i}{k}(m:o id mem=ad (.vec l f xs)){d}{a}(p:vH id f xs g=d)(r:sJ id f xs mem=a)
  (t:TR P n c ⟨d,a,i,k⟩ Q):TR P n c ⟨g,mem,i,k⟩ Q:=by
 subst p r
 exact dU (FA id m) t
def ug t{d}{xs}{c}{f}{mem}{i}{k}(hl:o t f=ad (.c<|.S d xs))(m:Z xs*d.n<=140737488355328->TR P n c ⟨f,mem,i,k⟩ Q):TR P n c ⟨f,mem,i,k⟩ Q:=by intro F p g W a l;have r:da g (.S d xs) (a.tmps.getD t undef):=l.eC t (.c<|.S d xs) zY;let ⟨_,_,_,_,h2,_⟩:=r;exact m h2 F p g W a l
def agO{l}{a}{p i}{d t}{x}{ty}{pos}{u}{os}{A}{mem}{B}{F}{ks}{Q:St->Prop}(H:cd P tt=af)
 f (m:Y) {k}{v}(hx:St.ev ⟨A,mem,B,F⟩ x=ad (.c<|.I k v)) (hv:v=(m:Int)) {L}{ti r}(M:o t tt=ad ti) (hk:ti.kind= .sl L) (S:o L tt=ad r) (W:r.size=f.n)
  (hz:∀g:Gh,bc g (av f f.aD) (r.zero.map ZV.eE)) (hb:m*r.bytes<=281474976710656) (lJ:m*f.n<=140737488355328)
  (cF:RG P n l a p (i+1) os ⟨(d,.c<|.X<|1000000*p+1000*i)::A,(1000000*p+1000*i,.vec L f<|bp m f.aD)::mem,B,F⟩ (gJ a ks (bF [x,x],[.s d,.m<|1000000*p+1000*i])) Q) (di:dk d n=af:=by rfl):
  RG P n l a p i (⟨ad d,.makeSlice t x x,ty,pos,u,none⟩::os) ⟨A,mem,B,F⟩ ks Q:=by
 subst hv
 exact mu (λC=>agL H C J J (dc di) J hx M hk S f W hz hb lJ _)<|mz cF
def agP{r}{a}{L i}{t}{x p}{ty}{pos}{v}{M}{d}{mem}{f}{g}{S}{Q:St->Prop}(A:cd P tt=af)
 {l m k}{W}{u}{xs}{vy}(hx:St.ev ⟨d,mem,f,g⟩ x=ad (.c<|.Y l m k 0)) (hl:o l mem=ad (.vec W u xs)) (hy:St.ev ⟨d,mem,f,g⟩ p=ad vy) (hm:u.n=m) {ag}(B:oY tt t=ad (m,ag)) (cz:u.den) (F:jX vy=ad (av u cz)) (hk:k<Z xs)
  (h:RG P n r a L (i+1) M ⟨d,(l,.vec W u<|xs.set k cz)::mem,f,g⟩ (gJ a S (bF [x,p]++cX [l],[.m l])) Q):
  RG P n r a L i (⟨none,.store t x p,ty,pos,v,none⟩::M) ⟨d,mem,f,g⟩ S Q:=by
 refine mu (λK=>⟨_,_,Vw A K J J J hx hy hl hm B F hk _,?_,O7 ⟨d,mem,f,g⟩ l _,?_,λk hk=>je⟩)<|mz h
 .intro C H;rcases bg.1 H with h|h
  .rcases bg.1 h with h|h
   .exact eG _ x C h
   .exact eG _ p C h
  .exact k9 _ [l] C h
 .intro k hk;simp only[dx,fe,bg]at hk;rcases hk with(h|h)|h
  .exact eh _<|eo ⟨d,mem,f,g⟩ [x,p] k uc
  .exact eh _<|eo ⟨d,mem,f,g⟩ [x,p] k vB
  .exact fZ _<|jY ⟨d,mem,f,g⟩ [l] k h
end
section
variable{P:bZ}{tt:TT}{n:Y}
def JZ:∀(a:ET)(x:a.den),Z (av a x)=a.n
 | .int _,_=>rfl
 | .bool,_=>rfl
 | .z,_=>rfl
 | .q,_=>rfl
 | .sl _,_=>rfl
 | .pr A B,x=>by simp[av,JZ A,JZ B]
def VS{g:Gh}(c:ET):∀(xs:V c.den)(vs:V a4),bc g (xs.flatMap<|av c) vs->∀i(h:i<Z xs),cV g.H c xs[i] ((az (i*c.n) vs).take c.n)
 |[],_,_,i,h=>by simp at h
 |x::xs,vs,d,i,h=>by
  rw[kH]at d;obtain⟨a,k,rfl,f,l⟩:=EP d;have m:Z a=c.n:=by rw[f.length,JZ]
  cases i with
  |zero=>
   simp only[rM,o5,vr]
   rw[vw G,iK G]
   exact zo c x a f
  |succ i=>
   simp only[Cb]
   rw[show(i+1)*c.n=Z a+i*c.n by rw[fD,hO];omega,<-qu,List.drop_left]
   exact VS c xs k l i dH
def uh(sz:Y):Y->Y->V (Y×Y)
 |_,0=>[]
 |k,m+1=>(k*sz,sz)::uh sz (k+1) m
def J0(sz:Y):∀(m k i:Y)(x:Y×Y),(uh sz k m)[i]? =ad x->x=((k+i)*sz,sz)
 |0,_,_,_,a=>by simp[uh]at a
 |m+1,k,0,x,a=>by simp[uh]at a;simp[<-a]
 |m+1,k,i+1,x,a=>by simp only[uh,vo]at a;have:=J0 sz m (k+1) i x a;rw[this,(G:k+1+i=k+(i+1))]
def CJ(l:V C):Y->V C
 |0=>[]
 |m+1=>l++CJ l m
def J1{g:Gh}{l:V C}{vs:V a4}(a:bc g l vs):∀m,bc g (CJ l m) ((bp m vs).flatten)
 |0=>rfl
 |m+1=>by rw[xx,JS];exact bc.append a<|J1 a m
def VT{l:V C}(d:b7 l=[]):∀m,b7 (CJ l m)=[]
 |0=>rfl
 |m+1=>by
  have:=VT d m;apply Pk.2;intro f c;rcases Cd _ _ f c with a|a
  .rw[d]at a;cases a
  .rw[this]at a;cases a
def sK(tt:TT)(f:St)(t c:Y)(a:V (Y×dQ)):aw (Y×TI×V C):=match o t tt with
 |some g=>(match g.kind with
  | .sl E=>(match o E tt with
   |some d=>(match zN (uh d.size 0 c) f (CJ (d.zero.map ZV.oX) c) a with
    |some cs=>ad (E,d,cs)
    |none=>none)
   |none=>none)
  |_=>none)
 |none=>none
def Pl(cp:cd P tt=af){F}{v:Y->Prop}{σ}{g}{W}{a}(M:bw F v σ g W a){st}{aI}{t c}{d}(bV:aI.op= .buildSlice t c d){bx}{ei}{l}{xs}(hT:ei.size=l.n)(Q:Z xs=c)(xQ:c*l.n<=16777216)
  (m:sK tt st t c d.toList=ad (bx,ei,xs.flatMap<|av l)) (fA:∀kx∈nF st aI.op,σ kx.1=ad kx.2):
  ∃(vs:V a4)(A:Y)(W1:cD),(execOp a.eval aI).run P W= .ok (.value<|.slice (ad ⟨W.heap.size,0,none⟩) (Z xs) A) {W1 with heap:=W.heap.push<|.cells vs.toArray bx (0,0)}/\W1.os=W.os/\W1.tape=W.tape/\W1.output=W.output/\Z vs=A*l.n/\Z xs<=A/\
    ∀i(S:i<Z xs),cV g.H l xs[i] ((az (i*l.n) vs).take l.n):=by
 unfold sK at m
 split at m
 .rename_i ti G;split at m
  .rename_i E' hk;split at m
   .rename_i k mA;split at m
    .rename_i cs I;simp only[ar,bK]at m;obtain⟨rfl,rfl,rfl⟩:=m;have hu:=(dW cp G).kind;rw[hk]at hu;let ⟨inf,ua,X,_,z,hz,vA⟩:=(dW cp mA).info;have j:z.cells=(k.zero.map ZV.eE).toArray:=Cm;let ⟨us,q,ij,hu3,hu4⟩:=Fo M st (uh k.size 0 c) (λi=>ad (i*k.size,k.size)) (λi x S=>by rw[J0 _ _ _ _ _ S];simp) d.toList _ _ _ I (J1 (xI g k.zero) c) (λp hp kx N=>fA kx<|by rw[bV];refine iP.2 ⟨p.2,?_,N⟩;simp only[Op.operands,jW];exact⟨p,hp,J⟩) Pm;have B:=ij.length;have O:∀s:V l.den,Z (s.flatMap<|av l)=Z s*l.n:=by
      intro s;induction s with
      |nil=>simp
      |cons y s ih=>simp[JZ,ih,fD,J2]
     rw[O]at B;refine⟨us,Z xs,W,?_,J,J,J,B,a7 _,VS l xs us ij⟩;have C:execOp a.eval aI=(do pure (.value<|<-FD t c (d.map λ(i,x)=>(i,a.eval x)))):=tZ;have w:(d.map λ(i,x)=>(i,a.eval x)).toList=d.toList.map λp=>(p.1,a.eval p.2):=ay
     have K:Z (k.zero.map ZV.eE)=k.size:=Pn;have FE:0<k.size:=by rw[hT];exact l.zl
     have R:(zeroValue E').run P W= .ok z W:=O6;have r:((VL<|c*k.size).map<|λi=>(k.zero.map ZV.eE).toArray[i%(k.zero.map ZV.eE).toArray.size]!)=((bp c<|k.zero.map ZV.eE).flatten).toArray:=by have:=JT (k.zero.map ZV.eE) c (by intro e;rw[e]at K;simp at K;omega);rw[K]at this;exact this
     have hb:(FD t c<|d.map λ(i,x)=>(i,a.eval x)).run P W= .ok (.slice (ad ⟨W.heap.size,0,none⟩) c c) {W with heap:=W.heap.push<|.cells us.toArray E' (0,0)}:=by
      unfold FD;rw[c9,run_underlying hu];simp only[df];rw[c9,run_sizeOf ua];simp only[df,X];rw[b (by rw[hT];omega)];by_cases D:c*k.size=0
      .have L:c=0:=by
        rcases Nat.mul_eq_zero.1 D with S|S
        .exact S
        .omega
       subst L;have U:us=[]:=fB (by rw[B,Q];simp);subst U;have u:=q;simp only[CK,List.flatten_nil]at u;have CL:∀f:Y->a4,(VL 0).map f= #[]:=λf=>by simp
       simp only[rM,b9,pure_bind,CL,w,u];rfl
      .rw[b D];simp only[pure_bind,c9,R,df,j,r,w,q];rfl
     rw[C,c9,hb,Q];rfl
    .simp at m
   .simp at m
  .simp at m
 .simp at m
def agQ{k}{f}{F i}{d t g}{a}{W}{pos}{p}{H}{r}{mem}{u}{v}{L}{Q:St->Prop}(x:cd P tt=af)
 m xs {bx}{M}(hv:sK tt ⟨r,mem,u,v⟩ t g a.toList=ad (bx,M,xs.flatMap<|av m)) (hT:M.size=m.n) (CM:Z xs=g) (xQ:eJ (g*m.n) 16777216=af)
  (cF:RG P n k f F (i+1) H ⟨(d,.c<|.S m xs)::r,mem,u,v⟩ (gJ f L (bF (Op.buildSlice t g a).operands.toList,[.s d])) Q) (A:dk d n=af:=by rfl):
  RG P n k f F i (⟨ad d,.buildSlice t g a,W,pos,p,none⟩::H) ⟨r,mem,u,v⟩ L Q:=
 mu (λC=>VN C J J (dc A) _ Po<|λ_ _ _ _ _ _ l B=>Pl x l J hT CM (dc xQ) hv B) (mz cF)
def agR{k}{f}{l i}{d t g}{a}{W}{pos}{u}{H}{v}{mem}{x}{A}{L}{Q:St->Prop}(B:cd P tt=af)
 r xs {M}{S}(hv:sK tt ⟨v,mem,x,A⟩ t g a.toList=ad (M,S,xs.flatMap<|av r)) (hT:S.size=r.n) (CM:Z xs=g) (xQ:eJ (g*r.n) 16777216=af)
  (cF:RG P n k f l (i+1) H ⟨(d,.c<|.X<|1000000*l+1000*i)::v,(1000000*l+1000*i,.vec M r xs)::mem,x,A⟩ (gJ f L (bF (Op.buildSlice t g a).operands.toList,[.s d,.m<|1000000*l+1000*i])) Q) (F:dk d n=af:=by rfl):
  RG P n k f l i (⟨ad d,.buildSlice t g a,W,pos,u,none⟩::H) ⟨v,mem,x,A⟩ L Q:=
 mu (λK=>VM K J J (dc F) _ Po<|λ_ _ _ _ _ _ p C=>Pl B p J hT CM (dc xQ) hv C) (mz cF)
end
end Go.El
