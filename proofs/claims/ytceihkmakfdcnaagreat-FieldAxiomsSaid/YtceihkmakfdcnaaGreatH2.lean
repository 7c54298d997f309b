/- The engine, part 11: stores into boxes and new boxes, as steps. Own work; no condition. -/
import Derived.KernelRfl
import Derived.Deep.DeepAppendWide
import Derived.Test.YtceihkmakfdcnaaGreatH1
set_option linter.all false
set_option maxHeartbeats 16000000
set_option maxRecDepth 100000
open Array renaming range->Vd
open Bool renaming true->ae,false->ah
open Go renaming Program->bS,World->cE,Oper->aX,Operand->dS,Value->aO,ResultVar->Jd
open Go.Act renaming put->gT
open Go.El renaming jt->S
open Go.Exit renaming inBlock->Cc
open Go.Instr renaming storeAt->Og,sureAddr->BT,indexAt->zz,build->EZ,buildSlice->Ff
open Go.Oper renaming wp->mO,upon->mP
open Go.Region renaming wanted->hZ,binds->so
open Go.Result renaming andThen->de
open Go.Sem renaming run_bind->cZ,run_pure->xG,run->jG
open Go.World renaming cell?->B0,block_lt_of_cell?->B2
open Int renaming toNat->af
open List renaming length->Z,take->h,drop->az,getD->E,range->cd,replicate->bg,getElem_toArray->agb
open Nat renaming testBit->mQ,ble->dT,blt->dj
open Option renaming some->ad
open _root_ renaming Nat->Y,Option->ar,List->V
namespace Go.El
open Go Go.RowKit
section
variable{P:bS}{tt:TT}
def ER(tt:TT)(a:St)(t:Y)(x v:AV):ar (Y×aE):=match oK tt t,x,jU v with
 |some (sz,_),.c (.P id off),ad us=>(match S id a.mem with
  |some (.box E d cs)=>if Z us=sz/\off+sz<=Z cs/\us.all jH=ae then ad (id,.box E d<|cM cs us off)else none
  |_=>none)
 |_,_,_=>none
def ES cs us off:∀a∈bP (cM cs us off),a∈bP cs\/a∈bP us:=by
 intro a d;unfold cM at d;rcases BZ _ _ a d with h|h
 .rcases BZ _ _ a h with h|h
  .exact .inl<|BS _ _ a h
  .exact .inr h
 .exact .inl<|EF _ _ a h
def zD{H}{W}(g:Sub H W){a}{vs}{i}(k:∀o,H a o=none):Sub H (iH W a vs i):=by
 intro f o v d;have l:=g f o v d;by_cases e:a=f
 .subst e;rw[k o]at d;cases d
 .simp only[B0,xE e];exact l
def Oe{d:Type}(vs rest a:V d) off(e:off+Z a<=Z vs):cM (vs++rest) a off=cM vs a off++rest:=by unfold cM;rw[vG O,zE O];simp[lD]
def UX(bW:b8 P tt=ae){ops}{i}{o}(ho:ops[i]? =ad o)(hg:o.guard=none)(hd:o.dst=none){n}{t:TypeId}{x cp}(bU:o.op= .store t x cp)
 {B}{vx vy}{id}{bk:aE} (hx:B.ev x=ad vx) (hy:B.ev cp=ad vy) (H:ER tt B t vx vy=ad (id,bk)) (new:Y):
  g6 P n ops i (cC B x++cC B cp++ff B [id]) [(.m id,ad<|.b bk)] new:=by
 intro F kC Q M σ g W a K A d C hK
 have N:=du d B x vx hx<|λD bZ=>C D dR
 have R:=du d B cp vy hy<|λD bZ=>C D dR
 have S:=rh d B cp vy hy<|λD bZ=>C D dR
 unfold ER at H
 split at H
 .rename_i _ sz ag u l us T p;split at H
  .rename_i E bz cs hl;split at H
   .rename_i X;let ⟨h1,h2,h3⟩:=X;simp only[au,bG]at H;obtain⟨rfl,rfl⟩:=H;have s:σ (.m u)=ad (.b<|.box E bz cs):=C (.m u,.b<|.box E bz cs) pY;let ⟨b,vs,rest,r,hh,hr,hN,hz,V⟩:=d.cL u _ s;let ⟨b',v,hv⟩:=N;rw[r]at v;simp only[au]at v;subst v;have U:∀c∈us,jH c=ae:=λc hc=>l6.1 h3 c hc
    let ⟨ws,Z,w⟩:=IT p R U;let ⟨_,⟨ti,mN,afO⟩,_⟩:=IS bW T;have ar2:=w.length;have ar3:=hr.length;have G:(Og t (a.eval x)<|a.eval cp).run P W= .ok () (iH W b (cM (vs++rest) ws l) E):=by rw[hv];simp only[Og,BT,storeVar,cZ,xG,de,run_sizeOf mN,Z];have:¬(ws.toArray.size≠ti.size):=bV;simp only[this,bL];have:=zC (P:=P) b ws W (vs++rest) l 0 hh bV<|w.one U;simp only[iR]at this;simpa using this
    unfold wpOp;simp only[ho,hZ,hg,b7];refine .inl ?_;unfold mO;have hex:(execOp a.eval o).run P W= .ok .skip (iH W b (cM (vs++rest) ws l) E):=by rw[execOp,bU];simp[G,jG,pure]
    rw[hex];simp only[mP,hd,gT];have hb:b<W.heap.size:=(fT.1 hh).1;refine hK g _ a<|d.step (chg:=λj=>j=u) (g':=g) ⟨⟨cD.refl _,λ_ _=>rfl⟩,λ_ _ _=>rfl,zD d.sub hz,zF,?_,J,J,J⟩ _ new A J d.defers (λ_ _=>rfl) ?_ ?_ ?_ ?_ ?_
    .intro k hk fe;have:b≠k:=λe=>fe u J (by rw[r,e])
     exact xE this
    .intro j L;subst L;exact⟨xH,_,s⟩
    .intro t' v' ht;simp[aC]at ht
    .intro j bk L;simp only[aC]at L;split at L
     .rename_i e;simp only[Key.m.injEq]at e;subst e;simp only[au,Info.b.injEq]at L;subst L;have I:cM (vs++rest) ws l=cM vs ws l++rest:=Oe vs rest ws l O;exact⟨⟨b,cM vs ws l,rest,r,by rw[xD hb,I],hr.cM w l,hN,hz,λh0=>by let ⟨c,e1,e2⟩:=V h0;refine⟨c,e1,?_⟩;rw[<-I,xF _ _ _ bV];exact e2⟩,.inl ⟨d.dQ _ _ s,_,s⟩⟩
     .simp at L
    .intro k z f;simp only[aC]at f;split at f
     .simp only[au]at f;subst f;intro j L;rcases ES _ _ _ j L with h|h
      .exact .inl<|d.ak _ _ s j h
      .refine .inl<|S j ?_;cases vy with
       |c q=>simp only[jU,au]at p;subst p;simpa[bP,AV.ak]using h
       |a q=>simp only[jU,au]at p;subst p;exact h
       |t q=>simp[jU]at p
     .simp at f
    .intro j z f;simp only[aC]at f;split at f
     .rename_i e;simp only[Key.m.injEq]at e;subst e;exact .inl<|d.dQ _ _ s
     .simp at f
   .simp at H
  .simp at H
 .simp at H
def B1(W:cE)(o:Obj) k(a:k<W.heap.size):(W.heap.push o)[k]? =W.heap[k]? :=by rw[Array.getElem?_push,w O]
def zG{H}{W}(e:Sub H W)(o:Obj):Sub H {W with heap:=W.heap.push o}:=by intro b a v f;have d:=e b a v f;have g:=B2 W _ d;simp only[B0]at d⊢;rw[B1 W o b g];exact d
def UY{L}{i}{o:aX}{d:Y}(ho:L[i]? =ad o)(hg:o.guard=none)(hd:o.dst=ad d){n}(di:d<n){be}rd cs new
  (cq:∀(F:eK)(f:Y->Prop)(σ:Kn)(g:Gh)(W:cE)(a:Act),br F f σ g W a->(∀kx∈rd,σ kx.1=ad kx.2)->
   (∀p∈bP cs,f p)/\∃vs,aR g cs vs/\(execOp a.eval o).run P W= .ok (.value<|.pointer<|ad ⟨W.heap.size,0,none⟩) {W with heap:=W.heap.push<|.cells vs.toArray be (0,0)}):
  g6 P n L i rd [(.s d,ad<|.v<|.c<|.P new 0),(.m new,ad<|.b<|.box be 0 cs)] new:=by
 intro F kC Q f σ g W a K x aN j A
 let ⟨hm,vs,D,U⟩:=cq F f σ g W a aN j
 unfold wpOp
 simp only[ho,hZ,hg,b7]
 refine .inl ?_
 unfold mO
 rw[U]
 simp only[mP,hd]
 have r:d<a.tmps.size:=l0
 let B:Gh:=⟨g.H,λp=>if p=new then .pointer (ad ⟨W.heap.size,0,none⟩)else g.γ p⟩
 have X:fP f g B:=⟨cD.refl _,λp l=>by
  have:p≠new:=λe=>x<|e▸l
  simp[B,this]⟩
 have q:∀o,g.H W.heap.size o=none:=by
  intro o;cases G:g.H W.heap.size o with
  |none=>rfl
  |some v=>
   have:=B2 W _<|aN.sub _ _ _ G
   simp at this
 refine A B _ _<|aN.step (chg:=λ_=>False) (g':=B) ⟨X,λ_ _ _=>rfl,zG aN.sub _,ax,λk w _=>B1 W _ k w,J,J,J⟩ _ new x mL aN.defers ?_ (λ_ cq=>cq.elim) ?_ ?_ ?_ ?_
 .intro t ht;have z:d≠t:=rq;simp[gT,lC z]
 .intro t u ht;simp only[aC]at ht;split at ht
  .rename_i e;simp only[Key.s.injEq]at e;simp only[au,Info.v.injEq]at ht;subst e;subst ht;refine⟨W.heap.size,by simp[B,cz],?_⟩;simp[gT,r]
  .split at ht
   .simp at ht
   .simp at ht
 .intro p b ht;simp only[aC,reduceCtorEq,bL]at ht;split at ht
  .rename_i e;simp only[Key.m.injEq]at e;subst e;simp only[au,Info.b.injEq]at ht;subst ht;refine⟨⟨W.heap.size,vs,[],by simp[B,cz],ax,aR.mono X hm D,.inl aN.below.size,q,ax⟩,.inr ⟨J,λk w=> .inl ?_⟩⟩;simp only[B,b7,cz,au]at w;omega
  .simp at ht
 .intro k y ht;simp only[aC]at ht;split at ht
  .simp only[au]at ht;subst ht;intro p l;simp[Info.ak,AV.ak,C.ak]at l;exact .inr l
  .split at ht
   .simp only[au]at ht;subst ht;exact λp l=> .inl<|hm p l
   .simp at ht
 .intro p y ht;simp only[aC,reduceCtorEq,bL]at ht;split at ht
  .rename_i e;simp only[Key.m.injEq]at e;exact .inr e.symm
  .simp at ht
def afP{l}{i}{o:aX}{d:Y}(ho:l[i]? =ad o)(hg:o.guard=none)(hd:o.dst=ad d){n}(L:d<n){be}{x}(Q:o.op= .box be x)
 {B}{v}{H}(hx:B.ev x=ad v) (e:jU v=ad H) (U:H.all jH=ae) (f:Y):
  g6 P n l i (cC B x) [(.s d,ad<|.v<|.c<|.P f 0),(.m f,ad<|.b<|.box be 0 H)] f:=by
 refine UY ho hg hd L _ H f ?_
 intro F C y g W a k p
 have h:=du k B x v hx p
 have j:=rh k B x v hx p
 let ⟨vs,K,X⟩:=IT e h<|λc r=>l6.1 U c r
 refine⟨λw u=>j w ?_,vs,X,?_⟩
 .cases v with
  |c q=>simp only[jU,au]at e;subst e;simpa[bP,AV.ak]using u
  |a q=>simp only[jU,au]at e;subst e;exact u
  |t q=>simp[jU]at e
 .rw[execOp,Q];simp[Instr.box,newVar,newRow,newObj,K,jG,pure]
def xI(g:Gh):∀a:V ZV,aR g (a.map ZV.oJ) (a.map ZV.eG)
 |[]=>rfl
 |d::a=>⟨_,_,J,by cases d<;>rfl,xI g a⟩
def afQ(q:b8 P tt=ae){e}{i}{o:aX}{d:Y}(L:e[i]? =ad o)(Q:o.guard=none)(U:o.dst=ad d){n}(t:d<n){u}(x:o.op= .alloc u)
 {l}(B:S u tt=ad l) new:
  g6 P n e i [] [(.s d,ad<|.v<|.c<|.P new 0),(.m new,ad<|.b<|.box u 0<|l.zero.map ZV.oJ)] new:=by
 refine UY L Q U t _ _ new ?_
 intro F C w g W a K X
 let ⟨y,h,_,_,z,j,H⟩:=(dZ q B).info
 refine⟨?_,l.zero.map ZV.eG,xI g _,?_⟩
 .intro A f;exfalso;have:∀p:V ZV,bP (p.map ZV.oJ)=[]:=by
   intro p;induction p with
   |nil=>rfl
   |cons z p r=>simp only[gR,bP,r];cases z<;>rfl
  rw[this]at f;cases f
 .have k:z.cells=(l.zero.map ZV.eG).toArray:=by rw[<-IU];simpa using H
  rw[execOp,x];simp[Instr.alloc,zeroValue,typeInfo,h,j,newVar,newRow,newObj,k,jG,pure]
end
section
variable{P:bS}{tt:TT}
def Oh(tt:TT)(d:St)(t a:Y)(i:AV):ar (AV×Pr):=match S a d.mem,i with
 |some (.vec _ T xs),.c (.I _ k)=>if vD tt t T.n then ad (.c<|.Y a T.n (af k) 0,.and (.le 0 k)<|.lt k<|Z xs)else none
 |_,_=>none
def afR(bW:b8 P tt=ae){Q}{i}{o:aX}{d:Y}(ho:Q[i]? =ad o)(hg:o.guard=none)(hd:o.dst=ad d){n}(di:d<n){t}{x L}(bU:o.op= .indexAddr t x L)
 {l}{u}{vy v}{p:Pr} (hx:l.ev x=ad (.c<|.X u)) (hy:l.ev L=ad vy) (B:Oh tt l t u vy=ad (v,p)) (hp:p) (U:Y):
  g6 P n Q i (cC l x++cC l L++ff l [u]) [(.s d,ad<|.v v)] U:=by
 refine ri ho hg hd di _ v U ?_
 intro F A R g W a f q
 have D:a.eval x=g.γ u:=du f l x _ hx<|λr bZ=>q r dR
 have G:=du f l L vy hy<|λr bZ=>q r dR
 have I:=rh f l x _ hx<|λr bZ=>q r dR
 unfold Oh at B
 split at B
 .rename_i E T xs S k hl;split at B
  .rename_i J;simp only[au,bG]at B;obtain⟨rfl,rfl⟩:=B;have M:R (.m u)=ad (.b<|.vec E T xs):=q (.m u,.b<|.vec E T xs) pY;let ⟨e,i',N,V,hs⟩:=BU bW J;have w:a.eval L= .int S k:=G;rcases f.cL u _ M with⟨_,h0⟩|⟨b,O,vs,z,_⟩
   .subst h0;simp[Pr.h]at hp;omega
   .refine⟨λj hj=>I j Oi,.pointer (ad ⟨b,af k*T.n,none⟩),?_,b,Z xs,O,z,ax⟩;have H:execOp a.eval o=(do pure (.value<|<-zz t (a.eval x) (a.eval L))):=ua;rw[H,D,z,w];have K:(0<=k/\k<(Z xs:Int)):=hp;simp only[zz,asIntOf,cZ,run_underlying N,de];simp[K,run_sizeOf V,hs,k4]
  .simp at B
 .simp at B
def Oj(tt:TT)(f:St)(t e a d:Y)(i:AV):ar (AV×Pr):=match S e f.mem,i with
 |some (.vec _ T _),.c (.I _ k)=>if T.n=1/\vD tt t 1=ae then ad (.c<|.Y e 1 (a+af k) 0,.and (.le 0 k)<|.lt k d)else none
 |_,_=>none
def afS(bW:b8 P tt=ae){ops}{i}{o:aX}{d:Y}(ho:ops[i]? =ad o)(hg:o.guard=none)(hd:o.dst=ad d){n}(di:d<n){t}{x cp}(bU:o.op= .indexAddr t x cp)
 {q}{id H L}{vy v}{p:Pr} (hx:q.ev x=ad (.c<|.W id H L)) (hy:q.ev cp=ad vy) (Q:Oj tt q t id H L vy=ad (v,p)) (hp:p) (new:Y):
  g6 P n ops i (cC q x++cC q cp++ff q [id]) [(.s d,ad<|.v v)] new:=by
 refine ri ho hg hd di _ v new ?_
 intro F r M g W a f u
 let ⟨S,c0,l,w,_⟩:=du f q x _ hx<|λX bZ=>u X dR
 have z:=du f q cp vy hy<|λX bZ=>u X dR
 have A:=rh f q x _ hx<|λX bZ=>u X dR
 unfold Oj at Q
 split at Q
 .rename_i E T xs N k hl;split at Q
  .rename_i D;simp only[au,bG]at Q;obtain⟨rfl,rfl⟩:=Q;have G:M (.m id)=ad (.b<|.vec E T xs):=u (.m id,.b<|.vec E T xs) pY;let ⟨e,V,I,O,R⟩:=BU bW D.2;have h:a.eval cp= .int N k:=z;rcases f.cL id _ G with⟨B,_⟩|⟨b,J,vs,B,_⟩
   .rw[B]at l;simp[cz]at l
   .rw[B]at l;simp only[cz,au]at l;subst l;refine⟨λj hj=>A j Oi,.pointer (ad ⟨b,H+af k,none⟩),?_,b,Z xs,J,B,ax⟩;have K:execOp a.eval o=(do pure (.value<|<-zz t (a.eval x) (a.eval cp))):=ua;rw[K,w,h];have U:(0<=k/\k<(L:Int)):=hp;simp only[zz,asIntOf,cZ,run_underlying I,de];simp[U,run_sizeOf O,R,k4]
  .simp at Q
 .simp at Q
def Ok(tt:TT)(a:St)(t d:Y):ar AV:=match S d a.mem,S t tt with
 |some (.vec _ _ xs),ad e=>(match e.kind with| .sl _=>ad (.c<|.I .i64<|Z xs)|_=>none)
 |_,_=>none
def afT(L:b8 P tt=ae){q}{i}{o:aX}{d:Y}(ho:q[i]? =ad o)(hg:o.guard=none)(hd:o.dst=ad d){n}(Q:d<n){t}{x}(U:o.op= .call ⟨.builtin .len,#[x],#[t]⟩)
 {u}{k}{v}(hx:u.ev x=ad (.c<|.X k)) (l:Ok tt u t k=ad v) (B:Y):
  g6 P n q i (cC u x++ff u [k]) [(.s d,ad<|.v v)] B:=by
 refine ri ho hg hd Q _ v B ?_
 intro F h w g W a f H
 have K:a.eval x=g.γ k:=du f u x _ hx<|λy bZ=>H y dR
 unfold Ok at l
 split at l
 .rename_i E T xs I hl z;split at l
  .rename_i e A;simp only[au]at l;subst l;have j:w (.m k)=ad (.b<|.vec E T xs):=H (.m k,.b<|.vec E T xs) pY;have r:=(dZ L z).kind;rw[A]at r;refine⟨pV,.int .i64<|Z xs,?_,J⟩;rw[execOp,U];rcases f.cL k _ j with⟨p,D⟩|⟨b,G,vs,p,_⟩
   .subst D;simp[resolve,invoke,builtin,Builtin.len_,K,p,run_underlying r,goInt,jG,pure]
   .simp[resolve,invoke,builtin,Builtin.len_,K,p,run_underlying r,goInt,jG,pure]
  .simp at l
 .simp at l
def EU(d:ET):V C->ar d.den:=match d with
 | .int k=>λa=>(match a with|[.I e n]=>if k=e then ad n else none|_=>none)
 | .bool=>λa=>(match a with|[.B b]=>ad b|_=>none)
 |_=>λ_=>none
def afU{d}{f}{x:d.den}(a:EU d f=ad x):f=av d x:=by
 cases d with
 |int k=>
  simp only[EU]at a
  split at a
  .split at a
   .rename_i e;subst e;simp at a;subst a;rfl
   .simp at a
  .simp at a
 |bool=>
  simp only[EU]at a
  split at a
  .simp at a;subst a;rfl
  .simp at a
 |_=>simp[EU]at a
def B3:∀(e:ET)(x:e.den),∀d∈av e x,jH d=ae
 | .int _,_,d,a=>by simp[av]at a;subst a;rfl
 | .bool,_,d,a=>by simp[av]at a;subst a;rfl
 | .z,_,d,a=>by simp[av]at a;rcases a with rfl|rfl<;>rfl
 | .q,_,d,a=>by simp[av]at a;rcases a with rfl|rfl|rfl|rfl<;>rfl
 | .sl _,_,d,a=>by simp[av]at a;subst a;rfl
 | .pr f B,x,d,a=>by
  simp only[av,aY]at a;rcases a with a|a
  .exact B3 f _ d a
  .exact B3 B _ d a
def afV{g:Type}(vs e:V g) n i a(o:Z e=n)(l:(i+1)*n<=Z vs)(m:i≠a):h n ((cM vs e<|i*n).drop<|a*n)=(az (a*n) vs).take n:=by
 have p:(i+1)*n=i*n+n:=EV;apply List.ext_getElem?;intro k;rw[EW,EW];split
 .rename_i q;rw[uc,uc];unfold cM;rcases oH a i with d|d
  .have f:(a+1)*n<=i*n:=ef _ d;rw[gk,iT]at f;rw[lD,B4 bV,Ew O]
  .have f:(i+1)*n<=a*n:=ef _ O;rw[B5 bV,uc];simp only[ix,fQ];congr 1;omega
 .rfl
def afW{d:Type}(vs a:V d) n i(f:Z a=n)(e:(i+1)*n<=Z vs):h n ((cM vs a<|i*n).drop<|i*n)=a:=by have g:(i+1)*n=i*n+n:=EV;unfold cM;have:(h (i*n) vs).length=i*n:=bV;rw[lD,zE O,sB O,sA,vG O,iO O]
def UZ(bW:b8 P tt=ae){ops}{i}{o}(ho:ops[i]? =ad o)(hg:o.guard=none)(hd:o.dst=none){n}{t:TypeId}{x cp}(bU:o.op= .store t x cp)
 {B}{u m k}{be}{f:ET} {xs:V f.den} {vy:AV} (hx:B.ev x=ad (.c<|.Y u m k 0)) (hy:B.ev cp=ad vy) (hl:S u B.mem=ad (.vec be f xs)) (hm:f.n=m) {ag:Bool} (IV:oK tt t=ad (m,ag)) {e:f.den} (Ol:jU vy=ad (av f e)) (hk:k<Z xs) (new:Y):
  g6 P n ops i (cC B x++cC B cp++ff B [u]) [(.m u,ad<|.b<|.vec be f<|xs.set k e)] new:=by
 intro F kC Q I σ g W a K X d L hK
 have M:=du d B x _ hx<|λN bZ=>L N dR
 have R:=du d B cp vy hy<|λN bZ=>L N dR
 have q:σ (.m u)=ad (.b<|.vec be f xs):=L (.m u,.b<|.vec be f xs) pY
 let ⟨b',l',c',s,hv⟩:=M
 rcases d.cL u _ q with⟨_,h0⟩|⟨b,cap,vs,U,hh,h,hle,r,hr,hN,hz⟩
 .subst h0;simp at hk
 rw[U]at s
 simp only[Value.slice.injEq,au,Addr.mk.injEq,and_true]at s
 obtain⟨rfl,_,_⟩:=s
 let ⟨ws,IW,w⟩:=IT Ol R<|B3 f e
 have A:cV g.H f e ws:=zk f e ws w
 have D:Z ws=f.n:=cV.length f _ _ A
 let ⟨_,⟨ti,mN,afO⟩,_⟩:=IS bW IV
 have C:(k+1)*f.n<=Z vs:=by rw[h];exact ef _ O
 have hk1:(k+1)*f.n=k*f.n+f.n:=EV
 subst hm
 have G:(Og t (a.eval x)<|a.eval cp).run P W= .ok () (iH W b (cM vs ws<|k*f.n) be):=by rw[hv];simp only[Og,BT,storeVar,cZ,xG,de,run_sizeOf mN,IW,iR];have:¬(ws.toArray.size≠ti.size):=bV;simp only[this,bL];have:=zC (P:=P) b ws W vs (k*f.n) 0 hh O<|w.one<|B3 f e;simp only[iR]at this;simpa using this
 unfold wpOp
 simp only[ho,hZ,hg,b7]
 refine .inl ?_
 unfold mO
 have hex:(execOp a.eval o).run P W= .ok .skip (iH W b (cM vs ws<|k*f.n) be):=by rw[execOp,bU];simp[G,jG,pure]
 rw[hex]
 simp only[mP,hd,gT]
 have hb:b<W.heap.size:=(fT.1 hh).1
 refine hK g _ a<|d.step (chg:=λj=>j=u) (g':=g) ⟨⟨cD.refl _,λ_ _=>rfl⟩,λ_ _ _=>rfl,zD d.sub hz,zF,?_,J,J,J⟩ _ new X J d.defers (λ_ _=>rfl) ?_ ?_ ?_ ?_ ?_
 .intro k' xJ fe;have:b≠k':=λe=>fe u J (by rw[U,e];rfl)
  exact xE this
 .intro j p;subst p;exact⟨xH,_,q⟩
 .intro t' v' ht;simp[aC]at ht
 .intro j bk p;simp only[aC]at p;split at p
  .rename_i v;simp only[Key.m.injEq]at v;subst v;simp only[au,Info.b.injEq]at p;subst p;refine⟨.inr ⟨b,cap,cM vs ws<|k*f.n,by simpa using U,xD hb,?_,by simpa using hle,by simpa using r,λj p=>?_,hN,hz⟩,.inl ⟨d.dQ _ _ q,_,q⟩⟩
   .rw[xF _ _ _ O];exact h
   .simp only[ru]at p;rw[List.getElem_set];split
    .rename_i v;subst v;rw[afW vs ws f.n k D C];exact A
    .rename_i v;rw[afV vs ws f.n k j D C v];exact hr j p
  .simp at p
 .intro k' z l;simp only[aC]at l;split at l
  .simp only[au]at l;subst l;intro j p;simp[Info.ak,aE.ak]at p
  .simp at l
 .intro j z l;simp only[aC]at l;split at l
  .rename_i v;simp only[Key.m.injEq]at v;subst v;exact .inl<|d.dQ _ _ q
  .simp at l
end
section
variable{P:bS}{tt:TT}{n:Y}
def zH(a:V (Y×Y))(d:St):V C->V (Y×dS)->ar (V C)
 |cs,[]=>ad cs
 |cs,(i,x)::e=>(match a[i]?,d.ev x with
  |some (off,sz),ad v=>(match jU v with
   |some us=>if Z us=sz/\off+sz<=Z cs/\us.all jH=ae then zH a d (cM cs us off) e else none
   |none=>none)
  |_,_=>none)
def afX us:∀(vs:V aO)(a k:Y),a+k+Z us<=Z vs->(us.zipIdx k).foldl (λ(d:Array aO)(p:aO×Y)=>d.setIfInBounds (a+p.2) p.1) vs.toArray=(cM vs us<|a+k).toArray:=by
 induction us with
 |nil=>intro vs a k _;simp[cM]
 |cons u us e=>
  intro vs a k h
  simp only[gQ]at h
  simp only[List.zipIdx_cons,IX]
  have:vs.toArray.setIfInBounds (a+k) u=(vs.set (a+k) u).toArray:=ax
  rw[this,e (vs.set (a+k) u) a (k+1) bV]
  rw[(O:a+(k+1)=a+k+1),UW _ _ _ _ O]
def EX{F:eK}{f:Y->Prop}{σ:Kn}{g:Gh}{W:cE}{a:Act}(H:br F f σ g W a)(st:St)(pl:V (Y×Y))(l:Y->ar (Y×Y))(IZ:∀i x,pl[i]? =ad x->l i=ad x):
  ∀(d:V (Y×dS))(u m:V C)(vs:V aO),zH pl st u d=ad m->aR g u vs->(∀p∈d,∀kx∈cC st p.2,σ kx.1=ad kx.2)->(∀B∈bP u,f B)->
   ∃U:V aO,Instr.fill l vs.toArray (d.map λp=>(p.1,a.eval p.2))=ad U.toArray/\aR g m U/\Z U=Z vs/\∀B∈bP m,f B
 |[],u,m,vs,s,hr,_,hm=>by simp only[zH,au]at s;subst s;exact⟨vs,J,hr,J,hm⟩
 | (i,x)::d,u,m,vs,s,hr,L,hm=>by
  simp only[zH]at s;split at s
  .rename_i k sz v hp hv;split at s
   .rename_i U o;split at s
    .rename_i Q;let ⟨h1,h2,h3⟩:=Q;have X:=du H st x v hv<|L (i,x) ax;have b:=rh H st x v hv<|L (i,x) ax;let ⟨ws,r,j⟩:=IT o X<|λc y=>l6.1 h3 c y;have I:=hr.length;have M:=j.length;have K:∀B∈bP (cM u U k),f B:=by
      intro B z;rcases ES _ _ _ B z with H|H
      .exact hm B H
      .refine b B ?_;cases v with
       |c q=>simp only[jU,au]at o;subst o;simpa[bP,AV.ak]using H
       |a q=>simp only[jU,au]at o;subst o;exact H
       |t q=>simp[jU]at o
     let ⟨N,A,D,E,G⟩:=EX H st pl l IZ d (cM u U k) m (cM vs ws k) s (hr.cM j k) (λp hp=>L p<|by simp[hp]) K;refine⟨N,?_,D,by rw[E,xF _ _ _ O],G⟩;simp only[gR,Instr.fill,IZ i _ hp,r];have y:¬((ws.toArray.size≠sz||decide (k+ws.toArray.size>vs.toArray.size))=ae):=by simp;omega
     rw[w (by simpa using y)];have:=afX ws vs k 0 O;simp only[iR]at this;have e:ws.toArray.zipIdx.foldl (λ(u:Array aO)(p:aO×Y)=>u.setIfInBounds (k+p.2) p.1) vs.toArray=(cM vs ws k).toArray:=by rw[<-this];simp
     rw[<-A];congr 1
    .simp at s
   .simp at s
  .simp at s
def I1(a:TI):V (Y×Y):=a.fields.map λf=>(f.1,f.2.1)
def Om(tt:TT)(f:St)(t:Y)(d:V (Y×dS)):ar AV:=match S t tt with
 |some e=>(match e.kind with
  | .st=>(match zH (I1 e) f (e.zero.map ZV.oJ) d with|some cs=>ad (.a cs)|none=>none)
  |_=>none)
 |none=>none
def I2(a:V ZV):bP (a.map ZV.oJ)=[]:=by
 induction a with
 |nil=>rfl
 |cons z a d=>simp only[gR,bP,d];cases z<;>rfl
def afY(o:True){e}{a:Array Field}(g:rf P e.fields a.toList=ae) W:∃gn:Array (Y×Y),(a.mapM λf=>(do pure (f.offset,<-sizeOf f.type):Go.Sem (Y×Y))).run P W= .ok gn W/\∀(i:Y)(x:Y×Y),(I1 e)[i]? =ad x->gn[i]? =ad x:=by
 have m:∀(l:V (Y×Y×Bool))(a:V Field),rf P l a=ae->(a.mapM λf=>(do pure (f.offset,<-sizeOf f.type):Go.Sem (Y×Y))).run P W= .ok (l.map λf=>(f.1,f.2.1)) W:=by
  intro l;induction l with
  |nil=>intro a h;cases a with
   |nil=>simp[pure]
   |cons f a=>simp[rf]at h
  |cons p l q=>
   intro a h
   let ⟨off,sz,B⟩:=p
   cases a with
   |nil=>simp[rf]at h
   |cons f a=>
    let ⟨C,d,s,⟨i,t,u⟩,_⟩:=IE h (k:=0) J
    simp only[l3,au]at d
    subst d
    simp only[rf,cw]at h
    have:=q a h.2
    rw[EY]
    simp only[cZ,run_sizeOf t,de,xG,this,u,s,gR]
 refine⟨(I1 e).toArray,?_,λi x h=>dL⟩;have v:a.mapM (λf=>(do pure (f.offset,<-sizeOf f.type):Go.Sem (Y×Y)))=Functor.map List.toArray (a.toList.mapM<|λf=>(do pure (f.offset,<-sizeOf f.type):Go.Sem (Y×Y))):=by simp[Array.mapM_eq_mapM_toList]
 rw[v];simp only[map_eq_pure_bind,cZ,m e.fields a.toList g,de];rfl
def afZ(l:b8 P tt=ae){m}{i}{o:aX}{d:Y}(ho:m[i]? =ad o)(hg:o.guard=none)(hd:o.dst=ad d){n}(L:d<n){t}{e}(bU:o.op= .build t e)
 {Q}{v}(f:Om tt Q t e.toList=ad v) new:g6 P n m i (nr Q o.op) [(.s d,ad<|.v v)] new:=by
 refine ri ho hg hd L _ v new ?_
 intro F U R g W a q X
 unfold Om at f
 split at f
 .rename_i K u;split at f
  .rename_i E;split at f
   .rename_i G b;simp only[au]at f;subst f;have D:=(dZ l u).kind;rw[E]at D;let ⟨fs,hu,c⟩:=D;let ⟨inf,ud,_,_,z,hz,vH⟩:=(dZ l u).info;let ⟨gn,B,C⟩:=afY (P:=P) A c W;let ⟨us,h,iv,I,j⟩:=EX q Q (I1 K) (gn[·]?) C e.toList (K.zero.map ZV.oJ) G (K.zero.map ZV.eG) b (xI g _) (λp M N r=>X N<|by rw[bU];refine iw.2 ⟨p.2,?_,r⟩;simp only[Op.operands];simp only[je];exact⟨p,M,J⟩) (by rw[I2];simp);refine⟨j,.agg us.toArray,?_,us,J,iv⟩;have H:z.cells=(K.zero.map ZV.eG).toArray:=B6;have k:execOp a.eval o=(do pure (.value<|<-EZ t (e.map λ(i,x)=>(i,a.eval x)))):=ua;have w:(e.map λ(i,x)=>(i,a.eval x)).toList=e.toList.map λp=>(p.1,a.eval p.2):=ax
    have y:(zeroValue t).run P W= .ok z W:=On;have O:(EZ t<|e.map λ(i,x)=>(i,a.eval x)).run P W= .ok (.agg us.toArray) W:=by unfold EZ;rw[cZ,y];simp only[de];rw[cZ,run_underlying hu];simp only[de];rw[cZ,B];simp only[de,w,H,h];rfl
    rw[k,cZ,O];rfl
   .simp at f
  .simp at f
 .simp at f
end
section
variable{P:bS}{tt:TT}
def dV st x:∀a∈cC st x,st.kn a.1=ad a.2:=by
 intro a h;cases x with
 |tmp t=>
  simp only[cC]at h
  split at h
  .rename_i v d;simp only[iU]at h;subst h;simp[St.kn,d]
  .simp at h
 |_=>simp[cC]at h
def jV st ids:∀a∈ff st ids,st.kn a.1=ad a.2:=by
 intro a h;let ⟨id,_,h⟩:=iw.1 h;split at h
 .rename_i b d;simp only[iU]at h;subst h;simp[St.kn,d]
 .simp at h
def pZ st(op:Op):∀a∈nr st op,st.kn a.1=ad a.2:=by intro a h;let ⟨x,_,h⟩:=iw.1 h;exact dV st x a h
def St.put(a:St)(d:Y)(x:AV):St:={a with sl:=(d,x)::a.sl}
def St.pm(a:St)(d:Y)(e:aE):St:={a with mem:=(d,e)::a.mem}
def rv{a:Type}(t:Y):V (Y×a)->V (Y×a)
 |[]=>[]
 | (k,x)::d=>if k=t then rv t d else(k,x)::rv t d
def St.del(a:St)(d:Y):St:={a with sl:=rv d a.sl}
def zI{f:Type}(t k:Y):∀l:V (Y×f),S k (rv t l)=if t=k then none else S k l
 |[]=>by simp[rv,S]
 | (g,x)::d=>by
  simp only[rv];split
  .rename_i e;subst e;rw[zI g k d];split
   .rfl
   .rename_i a;simp[S,a]
  .rename_i e;simp only[S];split
   .rename_i i;subst i;rw[w (λa=>e a.symm)]
   .exact zI t k d
def oL(a:St) d x:(a.put d x).kn=bq a.kn [(.s d,ad<|.v x)]:=by
 funext k;cases k with
 |s t=>
  by_cases e:d=t
  .simp[St.kn,St.put,S,bq,aC,e]
  .simp[St.kn,St.put,S,bq,aC,e]
 |m id=>simp[St.kn,St.put,bq,aC]
def Oo(a:St) d x:(a.pm d x).kn=bq a.kn [(.m d,ad<|.b x)]:=by
 funext k;cases k with
 |s t=>simp[St.kn,St.pm,bq,aC]
 |m id=>
  by_cases e:d=id
  .simp[St.kn,St.pm,S,bq,aC,e]
  .simp[St.kn,St.pm,S,bq,aC,e]
def B7(a:St) d id x f:((a.pm id f).put d x).kn=bq a.kn [(.s d,ad<|.v x),(.m id,ad<|.b f)]:=by
 funext k;cases k with
 |s t=>
  by_cases e:d=t
  .simp[St.kn,St.put,St.pm,S,bq,aC,e]
  .simp[St.kn,St.put,St.pm,S,bq,aC,e]
 |m j=>
  by_cases e:id=j
  .simp[St.kn,St.put,St.pm,S,bq,aC,e]
  .simp[St.kn,St.put,St.pm,S,bq,aC,e]
def U0(a:St) d:(a.del d).kn=bq a.kn [(.s d,none)]:=by
 funext k;cases k with
 |s t=>
  by_cases e:d=t
  .simp[St.kn,St.del,zI,bq,aC,e]
  .simp[St.kn,St.del,zI,bq,aC,e]
 |m id=>simp[St.kn,St.del,bq,aC]
abbrev Ks:=V Key×V Key
def bD:V dS->V Key
 |[]=>[]
 | .tmp t::a=> .s t::bD a
 |_::a=>bD a
def cX:V Y->V Key
 |[]=>[]
 |id::a=> .m id::cX a
def ew(d:St):∀(xs:V dS),∀k∈dq (xs.flatMap<|cC d),k∈bD xs
 |[],k,a=>by simp[dq]at a
 |x::xs,k,a=>by
  simp only[dq,kD,fo,aY]at a;rcases a with a|a
  .cases x with
   |tmp t=>
    simp only[cC]at a
    split at a
    .simp at a;subst a;simp[bD]
    .simp at a
   |_=>simp[cC]at a
  .have:=ew d xs k a;cases x<;>simp[bD,this]
def jW(e:St):∀(d:V Y),∀k∈dq (ff e d),k∈cX d
 |[],k,a=>by simp[dq,ff]at a
 |id::d,k,a=>by
  simp only[dq,ff,kD,fo,aY]at a;rcases a with a|a
  .split at a
   .simp at a;subst a;simp[cX]
   .simp at a
  .have:=jW e d k a;simp[cX,this]
def B8(tt:TT)(n a:Y)(l:ar Y)(op:Op):St->ar (St×Pr×Ks)
 |⟨sl,mem,nx,gd⟩=>match l,op with
 |some d,.load t x=>if d<n then(match St.ev ⟨sl,mem,nx,gd⟩ x with
   |some v=>(match EN tt ⟨sl,mem,nx,gd⟩ t v with
    |some (f,p,ids)=>ad (⟨(d,f)::sl,mem,nx,gd⟩,p,(bD [x]++cX ids,[.s d]))
    |none=>none)
   |none=>none)else none
 |none,.store t x f=>(match St.ev ⟨sl,mem,nx,gd⟩ x,St.ev ⟨sl,mem,nx,gd⟩ f with
   |some (.c<|.Y id m k 0),ad g=>(match S id mem,oK tt t,jU g with
    |some (.vec i o xs),ad (sz,_),ad cs=>if o.n=m/\sz=m then(match EU o cs with
     |some e=>ad (⟨sl,(id,.vec i o<|xs.set k e)::mem,nx,gd⟩,.zw k<|Z xs,(bD [x,f]++cX [id],[.m id]))
     |none=>none)else none
    |_,_,_=>none)
   |some B,ad g=>(match ER tt ⟨sl,mem,nx,gd⟩ t B g with
    |some (id,F)=>ad (⟨sl,(id,F)::mem,nx,gd⟩,.t,(bD [x,f]++cX [id],[.m id]))
    |none=>none)
   |_,_=>none)
 |some d,.indexAddr t x f=>if d<n then(match St.ev ⟨sl,mem,nx,gd⟩ x,St.ev ⟨sl,mem,nx,gd⟩ f with
   |some (.c<|.X id),ad g=>(match Oh tt ⟨sl,mem,nx,gd⟩ t id g with
    |some (v,p)=>ad (⟨(d,v)::sl,mem,nx,gd⟩,p,(bD [x,f]++cX [id],[.s d]))
    |none=>none)
   |some (.c<|.W id off len),ad g=>(match Oj tt ⟨sl,mem,nx,gd⟩ t id off len g with
    |some (v,p)=>ad (⟨(d,v)::sl,mem,nx,gd⟩,p,(bD [x,f]++cX [id],[.s d]))
    |none=>none)
   |some _,ad _=>(match sr tt ⟨sl,mem,nx,gd⟩ (.indexAddr t x f)with
    |some (v,p)=>ad (⟨(d,v)::sl,mem,nx,gd⟩,p,(bD [x,f],[.s d]))
    |none=>none)
   |_,_=>none)else none
 |some d,.build t parts=>if d<n then(match Om tt ⟨sl,mem,nx,gd⟩ t parts.toList with
   |some v=>ad (⟨(d,v)::sl,mem,nx,gd⟩,.t,(bD (Op.build t parts).operands.toList,[.s d]))
   |none=>none)else none
 |some d,.call ⟨.builtin .len,args,q⟩=>if d<n then(match args.toList,q.toList with
   |[x],[t]=>(match St.ev ⟨sl,mem,nx,gd⟩ x with
    |some (.c<|.X id)=>(match Ok tt ⟨sl,mem,nx,gd⟩ t id with
     |some v=>ad (⟨(d,v)::sl,mem,nx,gd⟩,.t,(bD [x]++cX [id],[.s d]))
     |none=>none)
    |some v=>(match EG tt t v with
     |some u=>ad (⟨(d,u)::sl,mem,nx,gd⟩,.t,(bD [x],[.s d]))
     |none=>none)
    |none=>none)
   |_,_=>none)else none
 |some d,.box i x=>if d<n then(match St.ev ⟨sl,mem,nx,gd⟩ x with
   |some v=>(match jU v with
    |some cs=>if cs.all jH=ae then ad (⟨(d,.c<|.P a 0)::sl,(a,.box i 0 cs)::mem,nx,gd⟩,.t,(bD [x],[.s d,.m a]))else none
    |none=>none)
   |none=>none)else none
 |some d,.alloc i=>if d<n then(match S i tt with
   |some H=>ad (⟨(d,.c<|.P a 0)::sl,(a,.box i 0<|H.zero.map ZV.oJ)::mem,nx,gd⟩,.t,([],[.s d,.m a]))
   |none=>none)else none
 |some d,op=>if d<n then(match sr tt ⟨sl,mem,nx,gd⟩ op with
   |some (x,p)=>ad (⟨(d,x)::sl,mem,nx,gd⟩,p,(bD op.operands.toList,[.s d]))
   |none=>none)else none
 |none,_=>none
def k5(P:bS)(n:Y)(a:Array aX)(i:Y)(l d:St)(e:Y)(m:Ks):Prop:=
 ∃f g,g6 P n a i f g e/\(∀o∈f,l.kn o.1=ad o.2)/\d.kn=bq l.kn g/\(∀k∈dq f,k∈m.1)/\∀k∈fD g,k∈m.2
def I3(s:b8 P tt=ae){n f}{ops}{i}{o}(L:ops[i]? =ad o)(Q:o.guard=none){st st'}{p}{ks}
  (h:B8 tt n f o.dst o.op st=ad (st',p,ks)) (hp:p):k5 P n ops i st st' f ks:=by
 let ⟨sl,mem,nx,gd⟩:=st
 simp only[B8]at h
 split at h
 .rename_i d t x C a;split at h
  .rename_i g;split at h
   .rename_i v r;split at h
    .rename_i y q w G;simp only[au,bG]at h;obtain⟨rfl,rfl,rfl⟩:=h;refine⟨_,_,US s L Q C g a r G hp f,?_,oL ⟨sl,mem,nx,gd⟩ d y,?_,λk hk=>ju⟩
     .intro B F;rcases aY.1 F with h|h
      .exact dV _ x B h
      .exact jV _ w B h
     .intro k hk;simp only[dq,fo,aY]at hk;rcases hk with h|h
      .exact dY _<|ew ⟨sl,mem,nx,gd⟩ [x] k I4
      .exact fU _<|jW ⟨sl,mem,nx,gd⟩ w k h
    .simp at h
   .simp at h
  .simp at h
 .rename_i t x y C a;have U:∀l k,k∈dq (cC ⟨sl,mem,nx,gd⟩ x++cC ⟨sl,mem,nx,gd⟩ y++ff ⟨sl,mem,nx,gd⟩ [l])->k∈bD [x,y]++cX [l]:=by
   intro l k hk;simp only[dq,fo,aY]at hk;rcases hk with(h|h)|h
   .exact dY _<|ew ⟨sl,mem,nx,gd⟩ [x,y] k uf
   .exact dY _<|ew ⟨sl,mem,nx,gd⟩ [x,y] k vI
   .exact fU _<|jW ⟨sl,mem,nx,gd⟩ [l] k h
  have K:∀l,∀B∈cC ⟨sl,mem,nx,gd⟩ x++cC ⟨sl,mem,nx,gd⟩ y++ff ⟨sl,mem,nx,gd⟩ [l],St.kn ⟨sl,mem,nx,gd⟩ B.1=ad B.2:=by
   intro l B F;rcases aY.1 F with h|h
   .rcases aY.1 h with h|h
    .exact dV _ x B h
    .exact dV _ y B h
   .exact jV _ [l] B h
  split at h
  .rename_i l m k I H W;split at h
   .rename_i E T xs sz ag S G J X;split at h
    .rename_i b;split at h
     .rename_i e c;simp only[au,bG]at h;obtain⟨rfl,rfl,rfl⟩:=h;let ⟨V,h2⟩:=b;subst h2;have z:=afU c;subst z;exact⟨_,_,UZ s L Q C a H W G V J X hp f,K l,Oo ⟨sl,mem,nx,gd⟩ l _,U l,λk hk=>ju⟩
     .simp at h
    .simp at h
   .simp at h
  .rename_i vx I H W;split at h
   .rename_i l Y Z;simp only[au,bG]at h;obtain⟨rfl,rfl,rfl⟩:=h;exact⟨_,_,UX s L Q C a H W Z f,K l,Oo ⟨sl,mem,nx,gd⟩ l Y,U l,λk hk=>ju⟩
   .simp at h
  .simp at h
 .rename_i d t x y C a;split at h
  .rename_i g;split at h
   .rename_i l I H W;split at h
    .rename_i v q c;simp only[au,bG]at h;obtain⟨rfl,rfl,rfl⟩:=h;refine⟨_,_,afR s L Q C g a H W c hp f,?_,oL ⟨sl,mem,nx,gd⟩ d _,?_,λk hk=>ju⟩
     .intro B F;rcases aY.1 F with h|h
      .rcases aY.1 h with h|h
       .exact dV _ x B h
       .exact dV _ y B h
      .exact jV _ [l] B h
     .intro k hk;simp only[dq,fo,aY]at hk;rcases hk with(h|h)|h
      .exact dY _<|ew ⟨sl,mem,nx,gd⟩ [x,y] k uf
      .exact dY _<|ew ⟨sl,mem,nx,gd⟩ [x,y] k vI
      .exact fU _<|jW ⟨sl,mem,nx,gd⟩ [l] k h
    .simp at h
   .rename_i l off len I H W;split at h
    .rename_i v q c;simp only[au,bG]at h;obtain⟨rfl,rfl,rfl⟩:=h;refine⟨_,_,afS s L Q C g a H W c hp f,?_,oL ⟨sl,mem,nx,gd⟩ d _,?_,λk hk=>ju⟩
     .intro B F;rcases aY.1 F with h|h
      .rcases aY.1 h with h|h
       .exact dV _ x B h
       .exact dV _ y B h
      .exact jV _ [l] B h
     .intro k hk;simp only[dq,fo,aY]at hk;rcases hk with(h|h)|h
      .exact dY _<|ew ⟨sl,mem,nx,gd⟩ [x,y] k uf
      .exact dY _<|ew ⟨sl,mem,nx,gd⟩ [x,y] k vI
      .exact fU _<|jW ⟨sl,mem,nx,gd⟩ [l] k h
    .simp at h
   .split at h
    .rename_i v q H;simp only[au,bG]at h;obtain⟨rfl,rfl,rfl⟩:=h;refine⟨_,_,IP s L Q C g (by rw[a];exact H) hp f,pZ _ _,oL ⟨sl,mem,nx,gd⟩ _ _,λk hk=>?_,λk hk=>ju⟩;rw[a]at hk;exact ew ⟨sl,mem,nx,gd⟩ _ k hk
    .simp at h
   .simp at h
  .simp at h
 .rename_i d t M C a;split at h
  .rename_i g;split at h
   .rename_i v r;simp only[au,bG]at h;obtain⟨rfl,rfl,rfl⟩:=h;refine⟨_,_,afZ s L Q C g a r f,pZ _ _,oL ⟨sl,mem,nx,gd⟩ _ _,λk hk=>?_,λk hk=>ju⟩;rw[a]at hk;exact ew ⟨sl,mem,nx,gd⟩ _ k hk
   .simp at h
  .simp at h
 .rename_i d args N C a;split at h
  .rename_i g;split at h
   .rename_i x t ha ht;have j:args= #[x]:=EL;have D:N= #[t]:=Oa;subst j D;split at h
    .rename_i l H;split at h
     .rename_i v c;simp only[au,bG]at h;obtain⟨rfl,rfl,rfl⟩:=h;refine⟨_,_,afT s L Q C g a H c f,?_,oL ⟨sl,mem,nx,gd⟩ d _,?_,λk hk=>ju⟩
      .intro B F;rcases aY.1 F with h|h
       .exact dV _ x B h
       .exact jV _ [l] B h
      .intro k hk;simp only[dq,fo,aY]at hk;rcases hk with h|h
       .exact dY _<|ew ⟨sl,mem,nx,gd⟩ [x] k I4
       .exact fU _<|jW ⟨sl,mem,nx,gd⟩ [l] k h
     .simp at h
    .rename_i v H;split at h
     .rename_i u hu;simp only[au,bG]at h;obtain⟨rfl,rfl,rfl⟩:=h;refine⟨_,_,IP s L Q C g (x:=u) (p:= .t) (st:=⟨sl,mem,nx,gd⟩) (by rw[a];simp[sr,H,hu]) A f,pZ _ _,oL ⟨sl,mem,nx,gd⟩ _ _,λk hk=>?_,λk hk=>ju⟩;rw[a]at hk;exact ew ⟨sl,mem,nx,gd⟩ [x] k hk
     .simp at h
    .simp at h
   .simp at h
  .simp at h
 .rename_i d E x C a;split at h
  .rename_i g;split at h
   .rename_i v r;split at h
    .rename_i S X;split at h
     .rename_i O;simp only[au,bG]at h;obtain⟨rfl,rfl,rfl⟩:=h;exact⟨_,_,afP L Q C g a r X O f,dV _ x,B7 ⟨sl,mem,nx,gd⟩ d f _ _,λk hk=>ew ⟨sl,mem,nx,gd⟩ [x] k (by simpa[dq]using hk),λk hk=>ju⟩
     .simp at h
    .simp at h
   .simp at h
  .simp at h
 .rename_i d E C a;split at h
  .rename_i g;split at h
   .rename_i ti R;simp only[au,bG]at h;obtain⟨rfl,rfl,rfl⟩:=h;exact⟨_,_,afQ s L Q C g a R f,ax,B7 ⟨sl,mem,nx,gd⟩ d f _ _,by simp[dq],λk hk=>ju⟩
   .simp at h
  .simp at h
 .rename_i d _ C _ _ _ _ _ _;split at h
  .rename_i g;split at h
   .rename_i x q H;simp only[au,bG]at h;obtain⟨rfl,rfl,rfl⟩:=h;exact⟨_,_,IP s L Q C g H hp f,pZ _ _,oL ⟨sl,mem,nx,gd⟩ _ x,λk hk=>ew ⟨sl,mem,nx,gd⟩ _ k hk,λk hk=>ju⟩
   .simp at h
  .simp at h
 .simp at h
def p7(a:V aX)(d:Y):ar Y:=match a[d]? with
 |some o=>o.dst
 |none=>none
def E0{d}{k e}(f:p7 d.toList k=ad e){g}{a:Act}{l}(p:bA g (.c<|.B l) (a.tmps.getD e undef)):yielded d a.tmps k=ad l:=by
 have m:a.tmps.getD e undef= .bool l:=p;have:(d[k]?).bind (·.dst)=ad e:=by
  unfold p7 at f;rw[E3]at f;cases o:d[k]? with
  |none=>rw[o]at f;simp at f
  |some q=>rw[o]at f;simpa using f
 unfold yielded;rw[this];rcases oH e a.tmps.size with i|n
 .have:a.tmps[e]? =ad (.bool l):=by rw[Oq i];rw[nQ,Oq i]at m;simpa using m
  simp[this]
 .exfalso;rw[nQ,Array.getElem?_eq_none n]at m;simp[undef]at m
def Ot{n q}{d}{i}{o}(ho:d[i]? =ad o){l7}{e t}(hg:o.guard=ad (l7,e)){p}(hj:p7 d.toList l7=ad p){H u}(hb:S p H.sl=ad (.c<|.B t))(L:t=e){U}
  (l:k5 P n (#[{o with guard:=none}]) 0 H u q U):k5 P n d i H u q (.s p::U.1,U.2):=by
 let ⟨rd,wr,G,C,X,r,w⟩:=l
 refine⟨(.s p,.v<|.c<|.B t)::rd,wr,?_,?_,X,λk D=>?_,w⟩
 .intro F y Q m I g W a K x f E J;have z:=G F y Q m I g W a K x f (λA bZ=>E A dR) J;have M:=f.eE p (.c<|.B t)<|E (.s p,.v<|.c<|.B t) ax;have N:hZ o (yielded d a.tmps)=ae:=by simp only[hZ,hg,E0 hj M,L,beq_self_eq_true]
  unfold wpOp at z⊢;simp only[ho,N,b7];simp only[tW,l3,hZ,b7]at z;exact z
 .intro A bZ;rcases bX.1 bZ with rfl|l
  .simp[St.kn,hb]
  .exact C A l
 .simp only[dq,gR,bX]at D;rcases D with l|l
  .simp[l]
  .exact jF _<|r k l
def af0{n x}{m}{i}{o:aX}(ho:m[i]? =ad o){l7}{l p}(hg:o.guard=ad (l7,l)){q}(hj:p7 m.toList l7=ad q){L}(hb:S q L.sl=ad (.c<|.B p))(U:p= !l)
  {d:Y} (hd:o.dst=ad d):k5 P n m i L (L.del d) x ([.s q],[.s d]):=by
 refine⟨[(.s q,.v<|.c<|.B p)],[(.s d,none)],?_,?_,U0 L d,λk hk=>by simpa[dq]using hk,λk hk=>ju⟩
 .intro F w Q X I g W a K C f z A;have D:=f.eE q (.c<|.B p)<|z (.s q,.v<|.c<|.B p) ax;have E:hZ o (yielded m a.tmps)=ah:=by simp only[hZ,hg,E0 hj D,U];cases l<;>rfl
  unfold wpOp;simp only[ho,E,hY,bL,hd];refine A g W _<|f.step (chg:=λ_=>False) (g':=g) (W':=W) ⟨⟨cD.refl _,λ_ _=>rfl⟩,λ_ _ _=>rfl,f.sub,aW _,λ_ _ _=>rfl,J,J,J⟩ _ x C mL f.defers ?_ (λ_ h=>h.elim) ?_ ?_ ?_ ?_
  .intro t ht;have r:d≠t:=rq;simp[gT,lC r]
  .intro t u ht;simp only[aC]at ht;split at ht<;>simp at ht
  .intro G p ht;simp[aC]at ht
  .intro k y ht;simp only[aC]at ht;split at ht<;>simp at ht
  .intro G y ht;simp[aC]at ht
 .intro M H;simp only[iU]at H;subst H;simp[St.kn,hb]
def af1{n x}{m}{i}{o:aX}(ho:m[i]? =ad o){l7}{l p}(hg:o.guard=ad (l7,l)){q}(hj:p7 m.toList l7=ad q){U}(hb:S q U.sl=ad (.c<|.B p))(hbw:p= !l)
  {d:Y} (hd:o.dst=ad d):k5 P n m i U (U.put d<|.c .any) x ([.s q],[.s d]):=by
 refine⟨[(.s q,.v<|.c<|.B p)],[(.s d,ad<|.v<|.c .any)],?_,?_,oL U d _,λk hk=>by simpa[dq]using hk,λk hk=>ju⟩
 .intro F D Q X N g W a K H f E G;have I:=f.eE q (.c<|.B p)<|E (.s q,.v<|.c<|.B p) ax;have M:hZ o (yielded m a.tmps)=ah:=by simp only[hZ,hg,E0 hj I,hbw];cases l<;>rfl
  unfold wpOp;simp only[ho,M,hY,bL,hd];refine G g W _<|f.step (chg:=λ_=>False) (g':=g) (W':=W) ⟨⟨cD.refl _,λ_ _=>rfl⟩,λ_ _ _=>rfl,f.sub,aW _,λ_ _ _=>rfl,J,J,J⟩ _ x H mL f.defers ?_ (λ_ h=>h.elim) ?_ ?_ ?_ ?_
  .intro t ht;have r:d≠t:=rq;simp[gT,lC r]
  .intro t u ht;simp only[aC]at ht;split at ht
   .simp only[au,Info.v.injEq]at ht;subst ht;exact A
   .simp at ht
  .intro z p ht;simp[aC]at ht
  .intro k y ht;simp only[aC]at ht;split at ht
   .simp only[au]at ht;subst ht;intro z w;simp[Info.ak,AV.ak,C.ak]at w
   .simp at ht
  .intro z y ht;simp[aC]at ht
 .intro O L;simp only[iU]at L;subst L;simp[St.kn,hb]
def I5(tt:TT)(n e:Y)(f:V aX)(o:aX)(a:St):ar (St×Pr×Ks):=match o.guard with
 |none=>B8 tt n e o.dst o.op a
 |some (j,want)=>(match p7 f j with
  |some g=>(match S g a.gd,S g a.sl with
   |some dec,ad (.c<|.B b)=>if dec=want then(match B8 tt n e o.dst o.op a with
     |some (i,p,k)=>ad (i,.an (.sp b want) p,(.s g::k.1,k.2))
     |none=>none)
    else(match o.dst with
     |some d=>ad (⟨(d,.c .any)::a.sl,a.mem,a.nx,a.gd⟩,.sp b<|!want,([.s g],[.s d]))
     |none=>none)
   |_,_=>none)
  |none=>none)
def af3(g:b8 P tt=ae){n k}{e}{i}{o}(s:e[i]? =ad o){t l}{p}{u}
  (a:I5 tt n k e.toList o t=ad (l,p,u)) (f:p):k5 P n e i t l k u:=by
 unfold I5 at a
 split at a
 .rename_i m;exact I3 g s m a f
 .rename_i j v m;split at a
  .rename_i Q x;split at a
   .rename_i F b _ B;split at a
    .split at a
     .rename_i C q H K;simp only[au,bG]at a;obtain⟨rfl,rfl,rfl⟩:=a;have f:=Pr.ED f;exact Ot s m x B f.1<|I3 g (o:={o with guard:=none}) ax J K f.2
     .simp at a
    .split at a
     .rename_i d L;simp only[au,bG]at a;obtain⟨rfl,rfl,rfl⟩:=a;exact af1 s m x B f L
     .simp at a
   .simp at a
  .simp at a
end
section
variable{P:bS}{tt:TT}
def mask(l:V Edge)(a:V Y):Y:=l.foldl (λs e=>if so .any e then s|||2^e.on|||E a e.on 0 else s) 0
def oM:V aX->V Y->V Y
 |[],acc=>acc
 |o::os,acc=>oM os<|acc++[mask o.after.toList acc]
def B9:V aX->Y->Bool
 |[],_=>ae
 |o::os,i=>o.after.toList.all (λe=> !so .any e||decide (e.on<i))&&B9 os (i+1)
def E4(a d:V Key):Bool:=a.any λk=>d.any λe=>k=e
def p8(a d:Ks):Bool:=E4 a.2 d.2||E4 a.2 d.1||E4 a.1 d.2
def zJ(m:Y)(d:Ks):V Ks->Y->Bool
 |[],_=>ae
 |a::l,i=>(!p8 a d||mQ m i)&&zJ m d l (i+1)
def vJ:V Y->V Ks->V Ks->Bool
 |m::ms,a::d,done=>zJ m a done 0&&vJ ms d (done++[a])
 |[],[],_=>ae
 |_,_,_=>ah
def ry(a:V aX)(d:V Ks):Bool:=B9 a 0&&vJ (oM a []) d []
def af4{l}{d}{f}(a:(mask l d).testBit f=ae):∃e∈l,so .any e=ae/\(e.on=f\/mQ (E d e.on 0) f=ae):=by
 unfold mask at a;have g:∀(l:V Edge)(s:Y),mQ (l.foldl (λs e=>if so .any e then s|||2^e.on|||E d e.on 0 else s) s) f=ae->
   mQ s f=ae\/∃e∈l,so .any e=ae/\(e.on=f\/mQ (E d e.on 0) f=ae):=by
  intro l
  induction l with
  |nil=>intro s a;exact .inl a
  |cons e l m=>
   intro s a
   simp only[IX]at a
   rcases m _ a with a|⟨n,i,o,h2⟩
   .split at a
    .rename_i k;simp only[Nat.testBit_or,xK,Nat.testBit_two_pow,decide_eq_true_eq]at a;rcases a with(a|a)|a
     .exact .inl a
     .exact .inr ⟨e,ax,k,.inl a⟩
     .exact .inr ⟨e,ax,k,.inr a⟩
    .exact .inl a
   .exact .inr ⟨n,by simp[i],o,h2⟩
 rcases g l 0 a with a|a
 .simp at a
 .exact a
def Ou{ops:Array aX}:∀(i:V aX)(a:V Y),ops.toList=h (Z a) ops.toList++i->Z a+Z i=ops.size->
  (∀k(t:k<Z a) d,a[k].testBit d=ae->lB ops d k)->Z (oM i a)=ops.size/\∀k(t:k<Z (oM i a)) d,(oM i a)[k].testBit d=ae->lB ops d k
 |[],a,_,hl,p=>by simp only[oM];exact⟨tY,p⟩
 |o::i,a,he,hl,p=>by
  have u:ops[Z a]? =ad o:=by
   rw[<-E3,he,B5 bV];simp only[fQ];have:min (Z a) (Z ops.toList)=Z a:=by simp;simp at hl;omega
   rw[this];simp
  simp only[oM];refine Ou i _ ?_ (by simp at hl⊢;omega) ?_
  .have f:Z a<Z ops.toList:=by simp;simp at hl;omega
   simp only[ix,gQ,rz,eH];rw[Od f];have B:ops.toList[Z a]=o:=by have:=u;rw[<-E3,cK f]at this;simpa using this
   rw[B,lD];exact he
  .intro k t d q;rcases oH k (Z a)with n|C
   .rw[vF n]at q;exact p k n d q
   .have:k=Z a:=by simp at t;omega
    subst this;simp only[List.getElem_append_right (aW _),ma,tX]at q;let ⟨e,v,x,l⟩:=af4 q;have g:e∈o.after:=by simpa using v
    rcases l with m|m
    .exact .one u g x m
    .rcases oH e.on (Z a)with s|s
     .rw[aM,cK s]at m;exact .more u g x J<|p e.on s d m
     .rw[aM,jP s]at m;simp at m
def U1:∀(f:V aX)(i:Y),B9 f i=ae->∀k o,f[k]? =ad o->∀e∈o.after,so .any e=ae->e.on<i+k
 |[],_,_,k,o,a=>by simp at a
 |o::f,i,g,0,m,a=>by
  simp only[l3,au]at a;subst a;simp only[B9,cw,l6,xK,E5,decide_eq_true_eq]at g;intro e l d;have:=g.1 e (by simpa using l);rcases this with a|a
  .rw[a]at d;cases d
  .omega
 |o::f,i,g,k+1,m,a=>by simp only[vC]at a;simp only[B9,cw]at g;intro e l d;have:=U1 f (i+1) g.2 k m a e l d;omega
def U2{m:Y}{g:Ks}:∀(l:V Ks)(i:Y),zJ m g l i=ae->∀k a,l[k]? =ad a->p8 a g=ae->mQ m (i+k)=ae
 |[],_,_,k,a,d=>by simp at d
 |a::l,i,e,0,n,d=>by
  simp only[l3,au]at d;subst d;simp only[zJ,cw,xK,E5]at e;intro f;rcases e.1 with d|d
  .rw[d]at f;cases f
  .simpa using d
 |a::l,i,e,k+1,n,d=>by simp only[vC]at d;simp only[zJ,cw]at e;intro f;have:=U2 l (i+1) e.2 k n d f;rw[(O:i+(k+1)=i+1+k)];exact this
def U3:∀(k:V Y)(e done:V Ks),vJ k e done=ae->∀f m g,k[f]? =ad m->e[f]? =ad g->∀i a,i<done.length+f->(done++e)[i]? =ad a->p8 a g=ae->mQ m i=ae
 |m::k,g::e,done,d,0,o,p,hm,l=>by simp only[l3,au]at hm l;subst hm l;simp only[vJ,cw]at d;intro i a q ha n;rw[B4 O]at ha;have:=U2 done 0 d.1 i a ha n;simpa using this
 |m::k,g::e,done,d,f+1,o,p,hm,l=>by simp only[vC]at hm l;simp only[vJ,cw]at d;intro i a q ha n;exact U3 k e (done++[g]) d.2 f o p hm l i a bV xL n
 |[],[],_,_,f,m,g,hm,_=>by simp at hm
 |[],_::_,_,d,_,_,_,_,_=>by simp[vJ]at d
 |_::_,[],_,d,_,_,_,_,_=>by simp[vJ]at d
def Ca{a d}{k:Key}(e:k∈a)(f:k∈d):E4 a d=ae:=by simp only[E4,List.any_eq_true];exact⟨k,e,k,f,ax⟩
def U4{d}{n}(p:ry d.toList n=ae):(∀i o e,d[i]? =ad o->e∈o.after->so .any e=ae->e.on<i)/\
  ∀i f a m,i<f->f<d.size->n[i]? =ad a->n[f]? =ad m->p8 a m=ae->lB d i f:=by
 simp only[ry,cw]at p
 refine⟨λi o e u v q=>?_,λi f a m s x ha q B=>?_⟩
 .have:=U1 d.toList 0 p.1 i o (by rw[E3];exact u) e v q;omega
 .have t:=Ou (ops:=d) d.toList [] ax ax (λk C=>by simp at C);have g:f<Z (oM d.toList []):=by rw[t.1];exact x
  have l:=U3 _ _ [] p.2 f _ m (cK g) q i a (by simpa using s) xL B;exact t.2 f g i l
def nR(a:Kn)(e:V (V (Key×Info)×V (Key×ar Info))):Kn:=e.foldl (λa d=>bq a d.2) a
def U5(a:V (V (Key×Info)×V (Key×ar Info)))(d:V Ks):Prop:=
 Z d=Z a/\∀j(h:j<Z a)(e:j<Z d),(∀k∈dq a[j].1,k∈d[j].1)/\∀k∈fD a[j].2,k∈d[j].2
def RG(P:bS)(n:Y)(a:Array aX)(f:Bool)(k i:Y)(l:V aX)(m:St)(p:V Ks)(Q:St->Prop):Prop:=
 az i a.toList=l->∃(d:V (V (Key×Info)×V (Key×ar Info)))(e:St),Z d=Z l/\
  (∀j(q:j<Z d),tT P n a (i+j) d[j].1 d[j].2 (pU (λi=>1000000*k+1000*i)<|i+j))/\
  (∀j(q:j<Z d),∀o∈d[j].1,nR m.kn (h j d) o.1=ad o.2)/\
  e.kn=nR m.kn d/\e.nx=k+1/\a.size<=1000/\(f=ae->∃g,U5 d g/\ry a.toList (p++g)=ae)/\Q e
def Ov{n}{d}{a}{e i}{f}{mem}{m}{o}{l}{Q:St->Prop}(g:Q ⟨f,mem,e+1,[]⟩)(p:(!a||ry d.toList l)=ae:=by kernel_rfl)(k:dT d.size 1000=ae:=by rfl):
  RG P n d a e i [] ⟨f,mem,m,o⟩ l Q:=by
 intro _
 refine⟨[],⟨f,mem,e+1,[]⟩,J,ax,ax,J,J,c9 k,λq=>⟨[],⟨J,λj g=>by simp at g⟩,?_⟩,g⟩
 subst q
 simpa using p
def mR{n}{a}{g}{m i}{o}{t}{W p}{ks}{k}{Q:St->Prop}
  (hs:a[i]? =ad o->k5 P n a i W p (1000000*m+1000*i) k) (cq:RG P n a g m (i+1) t p (ks++[k]) Q):RG P n a g m i (o::t) W ks Q:=by
 intro d
 have b:a[i]? =ad o:=by have:=a6 (λl=>l[0]?) d;simpa[uc]using this
 have e:az (i+1) a.toList=t:=by rw[<-oN,d];rfl
 let ⟨rd,wr,u,v,q,x,B⟩:=hs b
 let ⟨ds,C,hl,c,h2,r,w,F,y,z⟩:=cq e
 refine⟨(rd,wr)::ds,C,by simp[hl],?_,?_,?_,w,F,?_,z⟩
 .intro j hj;cases j with
  |zero=>simpa using u.Iz (new:=pU (λi=>1000000*m+1000*i) i) ⟨aW _,(O:1000000*m+1000*i<1000000*m+1000*(i+1))⟩
  |succ j=>
   have:=c j nt
   rw[(O:i+(j+1)=i+1+j)]
   simpa using this
 .intro j hj X f;cases j with
  |zero=>simp only[tX]at f;simpa[nR]using v X f
  |succ j=>
   simp only[zB]at f
   have:=h2 j nt X f
   rw[q]at this
   simpa[nR]using this
 .rw[r,q];simp[nR]
 .intro A;let ⟨H,⟨K,L⟩,s⟩:=y A;refine⟨k::H,⟨by simp[K],λj hj U=>?_⟩,by simpa using s⟩;cases j with
  |zero=>exact⟨x,B⟩
  |succ j=>exact L j nt (by simpa using U)
def af5{n}{d}{k i}{l}{m}{o e}{Q:St->Prop}(p:RG P n d ah k i l m e Q):RG P n d ah k i l m o Q:=by intro a;let ⟨ds,f,hl,q,h2,s,t,g,_,u⟩:=p a;exact⟨ds,f,hl,q,h2,s,t,g,ax,u⟩
def af6{n}{d}{a}{f i}{o}{l}{m e}{q}{k}{p}{Q:St->Prop}(g:b8 P tt=ae)
  (s:I5 tt n (1000000*f+1000*i) d.toList o m=ad (e,p,k)) (t:p) (u:RG P n d a f (i+1) l e (q++[k]) Q):RG P n d a f i (o::l) m q Q:=
 mR (λv=>af3 g v s t) u
def gU(a:Bool)(d:V Ks)(k:Ks):V Ks:=match a with
 |true=>d++[k]
 |false=>[]
def mT{n}{d}{a}{e i}{f}{g}{l}{k}{Q:St->Prop}(m:RG P n d a e i f g (gU a l k) Q):RG P n d a e i f g (l++[k]) Q:=by
 cases a with
 |true=>exact m
 |false=>exact af5 m
def runs(tt:TT)(n g:Y)(a:Bool)(d:V aX):V aX->Y->St->Pr->V Ks->V aX×Y×St×Pr×V Ks
 |[],i,st,p,e=>([],i,st,p,e)
 |o::os,i,st,p,e=>match I5 tt n (1000000*g+1000*i) d o st with
  |some (f,q,k)=>runs tt n g a d os (i+1) f (.an p q)<|gU a e k
  |none=>(o::os,i,st,p,e)
def U6{n:Y}{l:Array aX}{a:Bool}{F:Y}{Q:St->Prop}(m:b8 P tt=ae):∀(t:V aX)(i:Y)(u:St)(p:Pr)(s:V Ks){d:V aX}{v:Y}{e:St}{x:Pr}{f:V Ks},
  runs tt n F a l.toList t i u p s=(d,v,e,x,f)->x.h->(RG P n l a F v d e f Q)->p.h/\RG P n l a F i t u s Q
 |[],i,u,p,s,d,v,e,x,f,g,hp,B=>by simp only[runs,bG]at g;obtain⟨rfl,rfl,rfl,rfl,rfl⟩:=g;exact⟨hp,B⟩
 |o::t,i,u,p,s,d,v,e,x,f,g,hp,B=>by
  simp only[runs]at g;split at g
  .rename_i C q k K;let ⟨H,L⟩:=U6 m t (i+1) C (.an p q) (gU a s k) g hp B;let ⟨U,h2⟩:=Pr.ED H;exact⟨U,af6 m K h2<|mT L⟩
  .simp only[bG]at g;obtain⟨rfl,rfl,rfl,rfl,rfl⟩:=g;exact⟨hp,B⟩
def jX{n}{d}{a}{k i}{l}{m}{o}{Q:St->Prop}{e}{q}{f}{s}{g}(p:b8 P tt=ae)
  (u:runs tt n k a d.toList l i m .t o=(e,q,f,s,g)) (v:s) (x:RG P n d a k q e f g Q):RG P n d a k i l m o Q:=
 (U6 p l i m .t o u v x).2
def zK{e:Type} ds(d:e) a(f:a<Z ds):E ds a d=ds[a]:=by rw[aM,cK f];rfl
def I6 ds(d:Kn):∀a,a<=Z ds->fold (λi=>(E ds i ([],[])).2) d (cd a)=nR d (h a ds):=by
 intro a;induction a with
 |zero=>intro _;rfl
 |succ a e=>
  intro f
  rw[zt,NP,e O,Od O]
  simp only[nR,List.foldl_append,IX,List.foldl_nil]
  rw[zK ds _ a O]
def kb(a:St):Y->Prop:=λd=>d<1000000*a.nx
def af7{d}{m}{f}{Q:St->Prop}{F}{id}{p':Exit->Act->cE->Prop}(B:F.rd=none)(jT:P.follows .mixedOrders=ae)(cq:RG P F.n d m f.nx 0 d.toList f [] Q)
  (hQ:∀o,Q o->∀g W a,br F (kb o) o.kn g W a->p' .normal a W) {g}{W}{a}(h0:br F (kb f) f.kn g W a):(Code.region id d m).wp P p' a W:=by
 refine(Uz B).1 ?_
 have C:zs F.rd d:=by rw[B];exact afj
 let ⟨ds,o,hl,M,h2,N,S,T,V,Y⟩:=cq ax
 have Ow:Z ds=d.size:=tY
 have A:∀i,i<d.size->tT P F.n d i ((E ds i ([],[])).1) ((E ds i ([],[])).2) (pU (λi=>1000000*f.nx+1000*i) i):=by intro i r;have:=M i O;rw[zK ds _ i O];simpa using this
 have D:∀i,i<d.size->∀X∈(E ds i ([],[])).1,fold (λi=>(E ds i ([],[])).2) f.kn (cd i) X.1=ad X.2:=by intro i r X H;rw[I6 ds f.kn i O];rw[zK ds _ i O]at H;exact h2 i O X H
 have u:∀g W a,br F (·<1000000*f.nx+1000*d.size) (fold (λi=>(E ds i ([],[])).2) f.kn<|cd d.size) g W a->p' .normal a W:=by intro g W a G;refine hQ o Y g W a ?_;rw[N];rw[I6 ds f.kn d.size O,iO O]at G;exact G.weaken (λid eF=>by simp only[kb,S];omega)
 cases m with
 |false=>exact UA (c:=λi=>1000000*f.nx+1000*i) (λi=>(O:1000000*f.nx+1000*i<=1000000*f.nx+1000*(i+1))) h0 A D u C
 |true=>
  let ⟨K,⟨q9,w⟩,L⟩:=V J
  have I:=U4 L
  have p:∀i j,i<j->j<d.size->∀a b:Ks,(K[i]? =ad a->K[j]? =ad b->p8 a b=ae->lB d i j):=by intro i j l t a b ha hb hc;exact I.2 i j a b l t xL sC hc
  have e:∀i(r:i<d.size),∃a,K[i]? =ad a/\(∀k∈dq (E ds i ([],[])).1,k∈a.1)/\∀k∈fD (E ds i ([],[])).2,k∈a.2:=by intro i r;have U:i<Z K:=O;refine⟨K[i],cK U,?_⟩;rw[zK ds _ i O];exact w i O U
  refine UB (c:=λi=>1000000*f.nx+1000*i) (λi=>(O:1000000*f.nx+1000*i<=1000000*f.nx+1000*(i+1))) jT I.1 h0 A D ?_ ?_ ?_ u C
  .intro i j l t k q s;let ⟨a,ha,_,v⟩:=e i O;let ⟨b,hb,_,x⟩:=e j t;exact p i j l t a b ha hb (by simp only[p8,Ca (v k q)<|x k s,I7])
  .intro i j l t k q s;let ⟨a,ha,_,v⟩:=e i O;let ⟨b,hb,y,_⟩:=e j t;exact p i j l t a b ha hb (by simp only[p8,Ca (v k q)<|y k s,I7,I9])
  .intro i j l t k q s;let ⟨a,ha,z,_⟩:=e i O;let ⟨b,hb,_,x⟩:=e j t;exact p i j l t a b ha hb (by simp only[p8,Ca (z k q)<|x k s,I9])
end
def jI:Y->aO:=λ_=>undef
def eQ(g:Gh):V AV->V aO->Prop
 |[],vs=>vs=[]
 |x::xs,vs=>∃v a,vs=v::a/\bA g x v/\eQ g xs a
def cF:V AV->V Y
 |[]=>[]
 |x::xs=>x.ak++cF xs
def bA.iy{g}{x}{v}(a:bA g x v)(d:x.ak=[]){H}(e:cD g.H H)(γ:Y->aO):bA ⟨H,γ⟩ x v:=
 bA.mono (known:=λ_=>False) ⟨e,λ_ a=>a.elim⟩ (by simp[d]) a
def eQ.iy{g:Gh}{γ:Y->aO}:∀{xs:V AV}{vs:V aO},eQ g xs vs->cF xs=[]->eQ ⟨g.H,γ⟩ xs vs
 |[],_,a,_=>a
 |x::xs,_,a,hm=>by simp only[cF,Oc]at hm;obtain⟨v,d,rfl,e,f⟩:=a;exact⟨v,d,J,e.iy hm.1 (cD.refl _) γ,f.iy hm.2⟩
def U7(W:cE)(H:FH)(f:AV)(e:Ending)(d:cE):Prop:=
 ∃v a,e= .returned v/\bA ⟨a,jI⟩ f v/\cD H a/\(∀b o,b<W.heap.size->a b o=H b o)/\Sub a d/\Below W.heap.size W d
def nS(P:bS)(f:FuncId):Bool:=match P.funcs[f]? with
 |some fn=>fn.name != "runtime.NumGoroutine" &&fn.body.isSome
 |none=>ah
structure vK(P:bS)(f:FuncId)(args:V AV)(r:AV):Prop where
 call:nS P f=ae
 iy:r.ak=[]
 spec:∀H W vs,Sub H W->eQ ⟨H,jI⟩ args vs->Calls P f vs.toArray W (U7 W H r)
section
variable{P:bS}{tt:TT}
def jv(a:St):V dS->ar (V AV)
 |[]=>ad []
 |x::xs=>match a.ev x,jv a xs with
  |some v,ad vs=>ad<|v::vs
  |_,_=>none
def Cb{F:eK}{d:Y->Prop}{l:Kn}{g:Gh}{W:cE}{a:Act}(m:br F d l g W a)(f:St):∀(xs:V dS)(vs:V AV),jv f xs=ad vs->
  (∀e∈xs.flatMap (cC f),l e.1=ad e.2)->eQ g vs (xs.map a.eval)
 |[],vs,he,_=>by simp only[jv,au]at he;subst he;rfl
 |x::xs,vs,he,n=>by
  simp only[jv]at he;split at he
  .rename_i v i o k;simp only[au]at he;subst he;refine⟨_,_,J,du m f x v o<|λe bZ=>n e dR,Cb m f xs i k<|λe bZ=>n e ?_⟩;simp only[kD,aY];exact .inr bZ
  .simp at he
def U9{n L}{ops}{i}{o:aX}(ho:ops[i]? =ad o)(hg:o.guard=none){d:Y}(hd:o.dst=ad d)(di:d<n){f}{args}{k6}(bU:o.op= .call ⟨.value<|.func f,args,k6⟩)
 {p}{vs}{U:AV} (hv:jv p args.toList=ad vs) (hm:cF vs=[]) (hf:vK P f vs U):k5 P n ops i p (p.put d U) L (bD args.toList,[.s d]):=by
 refine⟨args.toList.flatMap<|cC p,[(.s d,ad<|.v U)],?_,?_,oL p d U,ew p _,λk hk=>ju⟩
 .intro F kC Q w σ g W a K C aN z O;have q:=(Cb aN p _ _ hv z).iy (γ:=jI) hm;have R:=hf.spec g.H W _ aN.sub q;unfold wpOp;simp only[ho,hZ,hg,b7];refine .inl ?_;unfold mO;have A:(execOp a.eval o).run P W= .ok (.enter f<|args.map a.eval) W:=by
   have l:=hf.call;unfold nS at l;rw[execOp,bU];cases B:P.funcs[f]? with
   |none=>rw[B]at l;simp at l
   |some fn=>
    rw[B]at l
    simp only[cw,bne_iff_ne,ne_eq]at l
    have S:fn.body≠none:=by intro T;rw[T]at l;simp at l
    simp[resolve,Act.eval,Deferred.ofValue,invoke,callFunc,B,l.1,S]
  rw[A];simp only[mP];have X:(args.map a.eval)=(args.toList.map a.eval).toArray:=zL;rw[X];refine R.mono ?_;rintro e V ⟨v,N,rfl,c,hle,D,j,m⟩;simp only[hd];have E:d<a.tmps.size:=l0;refine O ⟨N,g.γ⟩ V _<|aN.step (chg:=λ_=>False) (g':=⟨N,g.γ⟩) ⟨⟨hle,λ_ _=>rfl⟩,D,j,m.size,λk hk _=>m.block k hk,m.os,m.tape,m.output⟩ _ L C mL aN.defers ?_ (λ_ h=>h.elim) ?_ ?_ ?_ ?_
  .intro t ht;have G:d≠t:=rq;simp[gT,lC G]
  .intro t u ht;simp only[aC]at ht;split at ht
   .rename_i e;simp only[Key.s.injEq]at e;simp only[au,Info.v.injEq]at ht;subst e;subst ht;have:=c.iy hf.iy (cD.refl _) g.γ;simpa[gT,E]using this
   .simp at ht
  .intro I b ht;simp[aC]at ht
  .intro k y ht;simp only[aC]at ht;split at ht
   .simp only[au]at ht;subst ht;intro I J;have:I∈U.ak:=J;rw[hf.iy]at this;cases this
   .simp at ht
  .intro I y ht;simp[aC]at ht
 .intro Z M;let ⟨x,_,h⟩:=iw.1 M;exact dV p x Z h
def af8{n}{e}{a}{q i}{d f:Y}{args}{g}{x}{pos}{k}{t}{l}{mem}{m}{o}{u}{Q:St->Prop}{vs}{v}
  (B:jv ⟨l,mem,m,o⟩ args.toList=ad vs) (F:vK P f vs v) (H:RG P n e a q (i+1) t ⟨(d,v)::l,mem,m,o⟩ (gU a u (bD args.toList,[.s d])) Q) (L:cF vs=[]:=by rfl) (p:dj d n=ae:=by rfl):
  RG P n e a q i (⟨ad d,.call ⟨.value<|.func f,args,g⟩,x,pos,k,none⟩::t) ⟨l,mem,m,o⟩ u Q:=
 mR (λC=>U9 C J J (c9 p) J B L F) (mT H)
def af9{n}{g}{a}{v i}{d f:Y}{args}{k}{x}{pos}{l}{F o}{e H}{L}{m}{mem}{p}{q}{U}{Q:St->Prop}{vs}{W}
  (hj:p7 g.toList F=ad o) (hb:S o m=ad (.c<|.B H)) (t:H=e)
  (hv:jv ⟨m,mem,p,q⟩ args.toList=ad vs) (hf:vK P f vs W) (cq:RG P n g a v (i+1) L ⟨(d,W)::m,mem,p,q⟩ (gU a U (.s o::bD args.toList,[.s d])) Q) (hm:cF vs=[]:=by rfl) (u:dj d n=ae:=by rfl):
  RG P n g a v i (⟨ad d,.call ⟨.value<|.func f,args,k⟩,x,pos,l,ad (F,e)⟩::L) ⟨m,mem,p,q⟩ U Q:=
 mR (λC=>Ot C J hj hb t<|U9 (ops:= #[⟨ad d,.call ⟨.value<|.func f,args,k⟩,x,pos,l,none⟩]) (i:=0) J J J (c9 u) J hv hm hf) (mT cq)
def af'{n}{d}{a}{u i}t{l}{v}{g}{mem}{o}{p}{x}{Q:St->Prop}(F:S t g=ad (.c<|.B l))
  (H:l=ae->RG P n d a u i v ⟨(t,.c<|.B ae)::g,mem,o,(t,ae)::p⟩ x Q)
  (L:l=ah->RG P n d a u i v ⟨(t,.c<|.B ah)::g,mem,o,(t,ah)::p⟩ x Q):RG P n d a u i v ⟨g,mem,o,p⟩ x Q:=by
 have q:∀c:Bool,l=c->(⟨(t,.c<|.B c)::g,mem,o,(t,c)::p⟩:St).kn=(⟨g,mem,o,p⟩:St).kn:=by
  intro c e;subst e;funext k;cases k with
  |s K=>
   by_cases e:t=K
   .subst e;simp[St.kn,S,F]
   .simp[St.kn,S,e]
  |m id=>rfl
 cases l with
 |true=>
  intro C
  let ⟨ds,f,r⟩:=H J C
  rw[q ae J]at r
  exact⟨ds,f,r⟩
 |false=>
  intro C
  let ⟨ds,f,r⟩:=L J C
  rw[q ah J]at r
  exact⟨ds,f,r⟩
structure eK.pl(F:eK)(n:Y):Prop where
 n:F.n=n
 k0:F.k0<=1
 rd:F.rd=none
 ds:F.ds=[]
abbrev k7:=eK->Exit->Act->cE->Prop
def TR(P:bS)(n:Y)(e:Code)(d:St)(Q:k7):Prop:=∀F:eK,F.pl n->∀g W a,br F (kb d) d.kn g W a->e.wp P (Q F) a W
def eR(n:Y)(e:Exit)(d:St)(Q:k7):Prop:=∀F:eK,F.pl n->∀g W a,br F (kb d) d.kn g W a->Q F e a W
def sD(P:bS)(d:Code)(Q:k7):k7:=λF=>Exit.then (λa W=>d.wp P (Q F) a W)<|Q F
def vL(a:Y)(Q:k7):k7:=λF=>Cc a<|Q F
def E6{e:Type}(d:e->St)(k:e->Prop)(i:e->Y)(x:e)(Q:k7):k7:=λF=>Exit.then (λa W=>∃f g,k f/\i f<i x/\br F (kb<|d f) (d f).kn g W a)<|Q F
variable{n:Y}{Q:k7}{st:St}
def jg{x d}(e:TR P n x st (sD P d Q)):TR P n (.seq x d) st Q:=λF f g W a i=>wp_seq<|e F f g W a i
def c7(d:eR n .normal st Q):TR P n .skip st Q:=λF e g W a f=>wp_skip<|d F e g W a f
def mU{d}(e:eR n (.exit d) st Q):TR P n (.exit d) st Q:=λF f g W a i=>wp_exit<|e F f g W a i
def bI(d:eR n .ret st Q):TR P n .ret st Q:=λF e g W a f=>wp_ret<|d F e g W a f
def ay{d}{e}(f:TR P n e st (vL d Q)):TR P n (.block d e) st Q:=λF i g W a k=>wp_block<|f F i g W a k
def ar5{d}{x k}{f}(m:st.ev d=ad (.c<|.B f))(o:f=ae->TR P n x st Q)(p:f=ah->TR P n k st Q):TR P n (.cond d x k) st Q:=by intro F l g W a i;have q:bA g (.c<|.B f) (a.eval d):=du i st d _ m<|dV st d;exact wp_cond_split q (λe=>o e F l g W a i)<|λe=>p e F l g W a i
def I'{m}{e}{d}(i:P.follows .mixedOrders=ae)(o:RG P n e d st.nx 0 e.toList st [] (λf=>eR n .normal f Q)):TR P n (.region m e d) st Q:=by intro F k g W a p;have q:=k.n;subst q;exact af7 k.rd i o (λf s g W a l=>s F k g W a l) p
def aI{a}(d:TR P n a st Q):eR n .normal st (sD P a Q):=d
def qe{d}{a}(e:eR n (.exit a) st Q):eR n (.exit a) st (sD P d Q):=e
def cG{a}(d:eR n .ret st Q):eR n .ret st (sD P a Q):=d
def eL{a}(d:eR n .normal st Q):eR n .normal st (vL a Q):=d
def kE{a}(d:eR n .ret st Q):eR n .ret st (vL a Q):=d
def mV{d}(e:eR n .normal st Q):eR n (.exit d) st (vL d Q):=λF f g W a i=>by simp only[vL,Cc,b7];exact e F f g W a i
def Ja{f d}(i:eR n (.exit d) st Q)(e:d≠f:=by decide):eR n (.exit d) st (vL f Q):=λF k g W a l=>by simp only[vL,Cc,e,bL];exact i F k g W a l
def nv{a:Type}{d:a->St}{f:a->Prop}{g:a->Y}{x}{e}(i:eR n (.exit e) st Q):eR n (.exit e) st (E6 d f g x Q):=i
def k8{a:Type}{d:a->St}{e:a->Prop}{f:a->Y}{x}(g:eR n .ret st Q):eR n .ret st (E6 d e f x Q):=g
def Wk(st d:St):Prop:=∀F:eK,F.k0<=1->∀g W a,br F (kb st) st.kn g W a->∃e,br F (kb d) d.kn e W a
def aS{f:Type}{d:f->St}{k:f->Prop}{i:f->Y}{x}e(l:k e)(m:i e<i x)(o:Wk st (d e)):eR n .normal st (E6 d k i x Q):=by intro F p g W a q;let ⟨s,t⟩:=o F p.k0 g W a q;exact⟨e,s,l,m,t⟩
def aga{o}{α:Type}(L:α->Act->cE->Prop)(U:α->Y){Q:Exit->Act->cE->Prop} x{a}{i}(v:L x a i)
  (round:∀x a i,L x a i->o.wp P (Exit.then (λt u=>∃B,L B t u/\U B<U x) Q) a i):(Code.loop o).wp P Q a i:=by
 intro b k K
 have W:∀n x a i,U x=n->L x a i->
   ∃e t u,Q e t u/\Arrives P (lone (b.at a<|.code o:: .inLoop o::k) K i) b k K e t u:=by
  intro n
  induction n using Nat.strongRecOn with
  |_ n h=>
   intro x a i j r
   let ⟨e,f,g,p,d⟩:=round x a i r b (.inLoop o::k) K
   cases e with
   |normal=>
    let ⟨B,q,X⟩:=p
    let ⟨C,F,H,s,m⟩:=h (U B) (j▸X) B f g J q
    exact⟨C,F,H,s,.of_steps (Steps.trans d<|.one step_inLoop) m⟩
   |exit id=>exact⟨_,f,g,p,.pass (x:= .inLoop o) J (λ_ _=> .inl ax) d⟩
   |goto l=>exact⟨_,f,g,p,.pass (x:= .inLoop o) J (λ_ _=> .inl ax) d⟩
   |ret=>exact⟨_,f,g,p,.pass (x:= .inLoop o) J (λ_ _=> .inl ax) d⟩
   |panic ch=>exact⟨_,f,g,p,.pass (x:= .inLoop o) J (λ_ _=> .inl ax) d⟩
   |outgrown=>exact⟨_,f,g,p,.pass (x:= .inLoop o) J (λ_ _=> .inl ax) d⟩
 let ⟨e,t,u,p,d⟩:=W _ x a i J v
 exact⟨e,t,u,p,.of_steps (.one step_loop) d⟩
def bf{α:Type}(d:α->St)(f:α->Prop)(m:α->Y) i{o}(s:f i)(t:Wk st (d i))(round:∀x,f x->TR P n o (d x) (E6 d f m x Q)):TR P n (.loop o) st Q:=by
 intro F p g W a u;let ⟨v,B⟩:=t F p.k0 g W a u;refine aga (λx a W=>f x/\∃g,br F (kb<|d x) (d x).kn g W a) m i ⟨s,v,B⟩ ?_;rintro x a W ⟨k,g,hg⟩;refine wp_mono (round x k F p g W a hg) ?_;intro e L U q;cases e with
 |normal=>
  let ⟨C,l,H,h2,K⟩:=q
  exact⟨C,⟨H,l,K⟩,h2⟩
 |_=>exact q
end
section
variable{P:bS}{tt:TT}{n:Y}{Q:k7}{st:St}
def bm(v a:AV):Prop:=(∀g x,bA g v x->bA g a x)/\∀d∈a.ak,d∈v.ak
def bm.refl v:bm v v:=⟨λ_ _ h=>h,λ_ h=>h⟩
def bm.of_eq{v a}(d:v=a):bm v a:=d▸bm.refl v
def bm.nil a:bm (.c<|.V<|.slice none 0 0) (.c<|.S a []):=⟨λg x h=>by have d:x= .slice none 0 0:=h;subst d;exact⟨none,0,J,aW _,ax,.inl J⟩,pV⟩
def nw(d e:aE):Prop:=(∀N g W a,fB N g W a d->fB N g W a e)/\∀a∈e.ak,a∈d.ak
def nw.refl a:nw a a:=⟨λ_ _ _ _ h=>h,λ_ h=>h⟩
def nw.of_eq{a d}(e:a=d):nw a d:=e▸nw.refl a
def Cd(l:V (Y×AV)):V (Y×AV)->Prop
 |[]=>True
 | (t,a)::d=>(∃v,S t l=ad v/\bm v a)/\Cd l d
def Ce(l:V (Y×aE)):V (Y×aE)->Prop
 |[]=>True
 | (t,a)::d=>(∃v,S t l=ad v/\nw v a)/\Ce l d
def Cd.get{l:V (Y×AV)}:∀{m:V (Y×AV)},Cd l m->∀{t d},S t m=ad d->∃v,S t l=ad v/\bm v d
 |[],_,_,_,a=>by simp[S]at a
 | (k,x)::m,hw,t,d,a=>by
  simp only[S]at a;split at a
  .rename_i e;subst e;cases a;exact hw.1
  .exact Cd.get hw.2 a
def Ce.get{l:V (Y×aE)}:∀{m:V (Y×aE)},Ce l m->∀{t d},S t m=ad d->∃v,S t l=ad v/\nw v d
 |[],_,_,_,a=>by simp[S]at a
 | (k,x)::m,hw,t,d,a=>by
  simp only[S]at a;split at a
  .rename_i e;subst e;cases a;exact hw.1
  .exact Ce.get hw.2 a
def vM(a:Y):V Y->Bool
 |[]=>ae
 |id::d=>dj id a&&vM a d
def E7(a:Y):V (Y×AV)->Bool
 |[]=>ae
 | (_,v)::d=>vM a v.ak&&E7 a d
def ug(a:Y):V (Y×aE)->Bool
 |[]=>ae
 | (id,v)::d=>dj id a&&vM a v.ak&&ug a d
def Jb{f:Y}:∀{l:V Y},vM f l=ae->∀d∈l,d<f
 |[],_,_,a=>by simp at a
 |g::i,e,d,a=>by
  simp only[vM,cw]at e;rcases bX.1 a with rfl|a
  .exact c9 e.1
  .exact Jb e.2 d a
def U'{e:Y}:∀{l:V (Y×AV)},E7 e l=ae->∀t v,S t l=ad v->∀f∈v.ak,f<e
 |[],_,_,_,a=>by simp[S]at a
 | (k,x)::g,d,t,v,a=>by
  simp only[E7,cw]at d;simp only[S]at a;split at a
  .cases a;exact Jb d.1
  .exact U' d.2 t v a
def Jc{f:Y}:∀{l:V (Y×aE)},ug f l=ae->∀t v,S t l=ad v->t<f/\∀g∈v.ak,g<f
 |[],_,_,_,a=>by simp[S]at a
 | (k,x)::i,d,t,v,a=>by
  simp only[ug,cw]at d;simp only[S]at a;split at a
  .rename_i e;subst e;cases a;exact⟨c9 d.1.1,Jb d.1.2⟩
  .exact Jc d.2 t v a
def wk{st st'}(U:Cd st.sl st'.sl)(hm:Ce st.mem st'.mem)(o:(E7 (1000000*st'.nx) st'.sl&&ug (1000000*st'.nx) st'.mem&&(dT 1 st'.nx||dT st.nx 0))=ae:=by rfl):Wk st st':=by
 intro F X g W a h;simp only[cw,xK]at o;let ⟨o,u⟩:=o;have B:∀d,d<F.k0->kb st' d/\g.γ d=F.γ0 d:=by
  intro d l;let ⟨K,h2⟩:=h.fS d l;refine⟨?_,h2⟩;have K:d<1000000*st.nx:=K;show d<1000000*st'.nx;rcases u with e|e
  .have:=c9 e;omega
  .have:=c9 e;omega
 have L:∀t f,st'.kn (.s t)=ad (.v f)->(∃v,st.kn (.s t)=ad (.v v)/\bm v f)/\∀d∈f.ak,d<1000000*st'.nx:=by intro t f e;simp only[St.kn,cu]at e;let ⟨x,hx,he⟩:=e;cases he;let ⟨v,hv,hle⟩:=U.get hx;exact⟨⟨v,zM,hle⟩,U' o.1 t f hx⟩
 have p:∀d i,st'.kn (.m d)=ad (.b i)->(∃b,st.kn (.m d)=ad (.b b)/\nw b i)/\d<1000000*st'.nx/\∀j∈i.ak,j<1000000*st'.nx:=by intro t f e;simp only[St.kn,cu]at e;let ⟨x,hx,he⟩:=e;cases he;let ⟨v,hv,hle⟩:=hm.get hx;exact⟨⟨v,zM,hle⟩,Jc o.2 t f hx⟩
 refine⟨g,h.size,h.defers,?_,?_,?_,?_,?_,h.sub,h.below,h.le,h.fresh,B⟩
 .intro t f e;let ⟨⟨v,hv,hle⟩,_⟩:=L t f e;exact hle.1 _ _<|h.eE t v hv
 .intro d i e;let ⟨⟨b,r,hle⟩,_⟩:=p d i e;exact hle.1 _ _ _ _<|h.cL d b r
 .intro d q b i k e w y C;let ⟨⟨c,hc,_⟩,_⟩:=p d b e;let ⟨⟨z,H,_⟩,_⟩:=p q i w;exact h.inj d q c z k hc H y C
 .intro k x e d l;cases k with
  |s t=>
   cases x with
   |v f=>exact(L t f e).2 d l
   |b i=>simp only[St.kn,cu]at e;let ⟨_,_,he⟩:=e;cases he
  |m j=>
   cases x with
   |v f=>simp only[St.kn,cu]at e;let ⟨_,_,he⟩:=e;cases he
   |b i=>exact(p j i e).2.2 d l
 .intro d x e;cases x with
  |v f=>simp only[St.kn,cu]at e;let ⟨_,_,he⟩:=e;cases he
  |b i=>exact(p d i e).2.1
def dW{d}{st'}(f:Wk st st')(i:TR P n d st' Q):TR P n d st Q:=by intro F e g W a k;let ⟨l,m⟩:=f F e.k0 g W a k;exact i F e l W a m
def E8{e}{st'}(f:Wk st st')(i:eR n e st' Q):eR n e st Q:=by intro F d g W a k;let ⟨l,m⟩:=f F d.k0 g W a k;exact i F d l W a m
def zN(P:bS)(d:Func)(f:AV):k7:=λF e a W=>(∀b,¬F.own b)->bodyPost P d (U7 F.w0 F.H0 f) e a W
def nT(tt:TT)(st:St):Jd->ar AV
 | .tmp t=>S t st.sl
 | .cell t ty=>(match S t st.sl with
  |some (.c<|.P id off)=>(match S id st.mem,oK tt ty with
   |some (.box _ _ cs),ad (sz,a)=>mM cs off sz a
   |_,_=>none)
  |_=>none)
def qf:AV->ar (Bool×V C)
 | .c x=>ad (ah,[x])
 | .a cs=>ad (ae,cs)
 | .t _=>none
def nU(tt:TT)(st:St):V Jd->ar (V<|Bool×V C)
 |[]=>ad []
 |x::xs=>(match nT tt st x with
  |some v=>(match qf v,nU tt st xs with
   |some s,ad a=>ad<|s::a
   |_,_=>none)
  |none=>none)
def kF(tt:TT)(st:St):V Jd->ar AV
 |[x]=>nT tt st x
 |xs=>(nU tt st xs).map .t
def zO(a:Array aO):Jd->Go.Sem aO
 | .tmp t=>pure<|a.getD t undef
 | .cell d t=>do loadVar t (<-asAddr (a.getD d undef))
def Va(i:b8 P tt=ae){F}{f:Y->Prop}{g}{W}{a}(k:br F f st.kn g W a){x}{v}(hv:nT tt st x=ad v):
  ∃u,(zO a.tmps x).run P W= .ok u W/\bA g v u:=by
 cases x with
 |tmp t=>
  simp only[nT]at hv
  exact⟨_,by simp[zO,pure],k.eE t v zM⟩
 |cell b t=>
  simp only[nT]at hv
  split at hv
  .rename_i p l hl;split at hv
   .rename_i E q s sz U B m;let ⟨C,vs,rest,o,hh,H,_,_⟩:=k.cL p (.box E q s) (by simp[St.kn,B]);let ⟨K,d,hp⟩:=k.eE b (.c<|.P p l) zQ;rw[o]at d;simp only[au]at d;subst d;let ⟨u,e,hu⟩:=EM (W:=W) i m H hv C 0 (λj L=>by have:=tZ hh j bV;rw[vF L]at this;simpa using this);refine⟨u,?_,hu⟩;simp only[eH]at e;simp only[zO,hp,asAddr];simpa[Instr.loadAt,BT]using e
   .simp at hv
  .simp at hv
def Ox{g}{v}{s}(d:qf v=ad s){u}(e:bA g v u):zi g s u:=by
 cases v with
 |c x=>simp only[qf,au]at d;subst d;exact e
 |a cs=>simp only[qf,au]at d;subst d;exact e
 |t _=>simp[qf]at d
def zR(q:b8 P tt=ae){F}{l:Y->Prop}{g}{W}{a}(B:br F l st.kn g W a){fn}{rs}(H:fn.results=rs.toArray){v}(k:kF tt st rs=ad v):
  ∃u,(results fn a.tmps).run P W= .ok u W/\bA g v u:=by
 have L:∀(rs:V Jd)(p:V (Bool×V C)),nU tt st rs=ad p->∃i:V aO,(rs.mapM<|zO a.tmps).run P W= .ok i W/\fa g p i/\Z i=Z rs:=by
  intro rs;induction rs with
  |nil=>intro p d;simp only[nU,au]at d;subst d;exact⟨[],by simp[pure],J,J⟩
  |cons x xs U=>
   intro p d
   simp only[nU]at d
   split at d
   .rename_i j K;split at d
    .rename_i s r X b;simp only[au]at d;subst d;let ⟨u,hu,f⟩:=Va q B K;let ⟨i,m,o,hlen⟩:=U r b;refine⟨u::i,?_,⟨u,i,J,Ox X f,o⟩,by simp[hlen]⟩;rw[EY];simp only[cZ,hu,de,m];simp[pure]
    .simp at d
   .simp at d
 have e:results fn a.tmps=(do let vs <-rs.toArray.mapM (zO a.tmps);pure (if B:vs.size=1 then vs[0]else .tuple vs)):=by unfold results;rw[H];rfl
 have t:Array.mapM (zO a.tmps) rs.toArray=Functor.map List.toArray (rs.mapM<|zO a.tmps):=ax
 rw[e,t]
 match rs,k with
 |[],k=>
  simp only[kF,nU,uh,au]at k
  subst k
  exact⟨.tuple #[],by simp[jG,pure],[],J,J⟩
 |[x],k=>
  let ⟨u,hu,f⟩:=Va q B k
  refine⟨u,?_,f⟩
  simp[hu,jG,pure]
 |x::y::r,k=>
  simp only[kF,cu]at k
  obtain⟨p,d,rfl⟩:=k
  let ⟨i,m,o,hlen⟩:=L _ p d
  refine⟨.tuple i.toArray,?_,i,J,o⟩
  have c:i.toArray.size≠1:=by simp[hlen]
  simp only[map_eq_pure_bind,bind_assoc,pure_bind,cZ,m,de]
  rw[dif_neg c]
  rfl
def g7(f:b8 P tt=ae){p}{q}{s i}(t:kF tt st q=ad s)(l:bm s i)(m:p.results=q.toArray:=by rfl)(v:i.ak=[]:=by rfl):eR n .ret st (zN P p i):=by intro F x g W a h d;let ⟨u,hu,e⟩:=zR f h m t;refine⟨h.defers.trans x.ds,u,hu,u,g.H,J,?_,h.le,λb o B=>h.fresh b o B<|d b,h.sub,⟨h.below.os,h.below.tape,h.below.output,h.below.size,λk C=>h.below.block k C<|d k⟩⟩;exact(l.1 _ _ e).iy v (cD.refl _) jI
def dr:Y->V AV->V (Y×AV)
 |_,[]=>[]
 |i,v::vs=>(i,v)::dr (i+1) vs
def mW{g:Gh}:∀(vs:V AV)(k:V aO)(i:Y),eQ g vs k->∀t v,S t (dr i vs)=ad v->i<=t/\∃u,k[t-i]? =ad u/\bA g v u/\∀f∈v.ak,f∈cF vs
 |[],_,i,_,t,v,d=>by simp[dr,S]at d
 |x::vs,_,i,l,t,v,d=>by
  obtain⟨u,m,rfl,o,p⟩:=l;simp only[dr,S]at d;split at d
  .rename_i e;subst e;cases d;exact⟨aW _,u,ax,o,λf a=>by simp[cF,a]⟩
  .let ⟨F,q,s,B,C⟩:=mW vs m (i+1) p t v d;refine⟨O,q,?_,B,λf a=>by simp[cF,C f a]⟩;rw[(O:t-i=(t-(i+1))+1)];simpa using s
def xM{g:Gh}:∀{vs:V AV}{d:V aO},eQ g vs d->Z d=Z vs
 |[],_,a=>by simp only[eQ]at a;subst a;rfl
 |_::vs,_,a=>by obtain⟨u,f,rfl,_,e⟩:=a;simp[xM e]
def Cf{f}{g}{U}{args}{B}(hf:P.funcs[f]? =ad g)(hb:g.body=ad U)(hN:g.ntmps=n)(i:dT args.length n=ae)(F:cF args=[])(L:B.ak=[])(sF:(g.name != "runtime.NumGoroutine")=ae)
  (l:TR P n U ⟨dr 0 args,[],0,[]⟩ (zN P g B)):vK P f args B:=by
 refine⟨zS,L,?_⟩
 intro H W vs o d
 refine calls_of_wp hf hb ?_
 have K:=xM d
 have i:=c9 i
 refine wp_mono (l {w0:=W,H0:=H,n:=n} ⟨J,a8 _,J,J⟩ ⟨H,jI⟩ W _ ⟨?_,J,?_,?_,?_,?_,?_,o,⟨J,J,J,aW _,λ_ _ _=>rfl⟩,cD.refl _,λ_ _ _ _=>rfl,λ_ l=>absurd l<|Ch _⟩)<|λe a G w=>w<|λ_ l=>l
 .simp[hN];omega
 .intro t v X;simp only[St.kn,cu]at X;let ⟨x,hx,he⟩:=X;cases he;let ⟨_,u,hu,z,_⟩:=mW args vs 0 d t v hx;have p:vs[t]? =ad u:=vN;have gN:t<Z vs:=(rj.1 p).1;have:(vs.toArray++Array.replicate (g.ntmps-vs.toArray.size) undef).getD t undef=u:=by rw[nQ,xN zT];simp[p]
  rw[this];exact z
 .intro q b e;simp[St.kn,S]at e
 .intro q A b I k e;simp[St.kn,S]at e
 .intro k x e q C;cases k with
  |m j=>simp[St.kn,S]at e
  |s t=>
   simp only[St.kn,cu]at e
   let ⟨y,D,he⟩:=e
   subst he
   let ⟨_,u,_,_,E⟩:=mW args vs 0 d t y D
   have:=E q C
   rw[F]at this
   cases this
 .intro q x e;simp[St.kn,S]at e
end
def sR{l:V (Y×AV)}{t:Y}{v:AV}(a:S t l=ad v):∃x,S t l=ad x/\bm x v:=⟨v,a,bm.refl v⟩
def bR{l:V (Y×aE)}{t:Y}{v:aE}(a:S t l=ad v):∃x,S t l=ad x/\nw x v:=⟨v,a,nw.refl v⟩
def sE{l:V (Y×AV)}{t:Y}{a v:AV}(d:S t l=ad a)(e:a=v):∃x,S t l=ad x/\bm x v:=⟨a,d,bm.of_eq e⟩
def bE{l:V (Y×aE)}{t:Y}{a v:aE}(d:S t l=ad a)(e:a=v):∃x,S t l=ad x/\nw x v:=⟨a,d,nw.of_eq e⟩
def bJ{a:V (Y×AV)}:∀{l:V (Y×AV)},l.map (λe=>S e.1 a)=l.map (λe=>ad e.2)->Cd a l
 |[],_=>trivial
 | (t,v)::l,d=>⟨⟨v,(Je d).1,bm.refl v⟩,bJ (Je d).2⟩
def vO{a:V (Y×aE)}:∀{l:V (Y×aE)},l.map (λe=>S e.1 a)=l.map (λe=>ad e.2)->Ce a l
 |[],_=>trivial
 | (t,v)::l,d=>⟨⟨v,(Je d).1,nw.refl v⟩,vO (Je d).2⟩
def aU{d a:St}(f:a.sl.map (λe=>S e.1 d.sl)=a.sl.map (λe=>ad e.2):=by rfl)(g:a.mem.map (λe=>S e.1 d.mem)=a.mem.map (λe=>ad e.2):=by rfl)(i:(E7 (1000000*a.nx) a.sl&&ug (1000000*a.nx) a.mem&&(dT 1 a.nx||dT d.nx 0))=ae:=by rfl):Wk d a:=wk (bJ f) (vO g) i
def k9{p:Prop}(a:p:=by first|trivial| (simp only[Pr.an,Pr.h,num,gf,true_and,and_true];first|done|omega)| (simp[Pr.an,Pr.h,num,gf];done)| (simp[Pr.an,Pr.h,num,gf];omega)):p:=a
def Oy{p:Prop}(a:p:=by first|trivial| (simp only[Pr.an,Pr.h,num,gf,true_and,and_true];first|done|omega)):p:=a
def bK{a d:Int}(e:a=d):AV.c (C.I .u64 a)=AV.c (C.I .u64 d):=by rw[e]
def iz{a d:Int}(e:a=d):AV.c (C.I .i64 a)=AV.c (C.I .i64 d):=by rw[e]
def Ci{a d:Int}(e:a=d):AV.c (C.I .u32 a)=AV.c (C.I .u32 d):=by rw[e]
section
variable{P:bS}{tt:TT}
def Vb{d:Type}(a:V d) n i(f:i<n):h (Z a) (az (i*Z a)<|(bg n a).flatten)=a:=by
 induction n generalizing i with
 |zero=>omega
 |succ n e=>
  rw[xx,Jf]
  cases i with
  |zero=>simp
  |succ i=>
   rw[(EI:(i+1)*Z a=Z a+i*Z a),<-oN,List.drop_left]
   exact e i O
def Vc{d:Type}(a:V d) n:(bg n a).flatten.length=n*Z a:=ax
def Jg(a:V aO) n(g:a≠[]):(Vd<|n*Z a).map (λi=>a.toArray[i%a.toArray.size]!)=((bg n a).flatten).toArray:=by
 apply Array.ext
 .simp
 .intro i f h2;simp at f;have k:0<Z a:=cv.2 g;have e:i%Z a<Z a:=fg _ k;simp only[Array.getElem_map,Array.getElem_range,List.size_toArray,agb];rw[getElem!_pos _ _ (by simpa using e),agb];have l:i/Z a<n:=xO (by rw[gO];exact f);have m:=Vb a n (i/Z a) l;have o:i=i/Z a*Z a+i%Z a:=by rw[gO];exact(qh i<|Z a).symm
  have d:(h (Z a)<|(bg n a).flatten.drop<|i/Z a*Z a)[i%Z a]? =a[i%Z a]? :=by rw[m]
  rw[Ew e,uc,<-o]at d;rw[cK oO,cK e]at d;simp only[au]at d;exact d.symm
def Ve{ops}{i}{o:aX}{d:Y}(ho:ops[i]? =ad o)(hg:o.guard=none)(hd:o.dst=ad d){n}(di:d<n){L}{be}{U}{xs}new(hlen:Z xs*U.n<=140737488355328)
  (cq:∀(F:eK)(f:Y->Prop)(σ:Kn)(g:Gh)(W:cE)(a:Act),br F f σ g W a->(∀kx∈nr L o.op,σ kx.1=ad kx.2)->
   ∃(vs:V aO)(l:Y)(W1:cE),(execOp a.eval o).run P W= .ok (.value<|.slice (ad ⟨W.heap.size,0,none⟩) (Z xs) l) {W1 with heap:=W.heap.push<|.cells vs.toArray be (0,0)}/\W1.os=W.os/\W1.tape=W.tape/\W1.output=W.output/\Z vs=l*U.n/\Z xs<=l/\
    ∀i(cq:i<Z xs),cV g.H U xs[i] ((az (i*U.n) vs).take U.n)):
  k5 P n ops i L ((L.pm new<|.vec be U xs).put d<|.c<|.X new) new (bD o.op.operands.toList,[.s d,.m new]):=by
 refine⟨nr L o.op,[(.s d,ad<|.v<|.c<|.X new),(.m new,ad<|.b<|.vec be U xs)],?_,pZ L _,B7 L d new _ _,ew L _,λk hk=>ju⟩
 intro F kC Q f σ g W a K x aN D N
 let ⟨vs,l,W1,r,O,R,S,G,hle,w⟩:=cq F f σ g W a aN D
 unfold wpOp
 simp only[ho,hZ,hg,b7]
 refine .inl ?_
 unfold mO
 rw[r]
 simp only[mP,hd]
 have I:d<a.tmps.size:=l0
 let j:Gh:=⟨g.H,λB=>if B=new then .slice (ad ⟨W.heap.size,0,none⟩) (Z xs) l else g.γ B⟩
 have z:fP f g j:=⟨cD.refl _,λB p=>by
  have:B≠new:=λe=>x<|e▸p
  simp[j,this]⟩
 have q:∀o,g.H W.heap.size o=none:=by
  intro o;cases hv:g.H W.heap.size o with
  |none=>rfl
  |some v=>
   have:=B2 W _<|aN.sub _ _ _ hv
   simp at this
 have A:Sub g.H {W1 with heap:=W.heap.push<|.cells vs.toArray be (0,0)}:=by have:=zG aN.sub<|.cells vs.toArray be (0,0);exact this
 refine N j _ _<|aN.step (chg:=λ_=>False) (g':=j) ⟨z,λ_ _ _=>rfl,A,ax,λk hk _=>B1 W _ k hk,O,R,S⟩ _ new x mL aN.defers ?_ (λ_ cq=>cq.elim) ?_ ?_ ?_ ?_
 .intro t ht;have M:d≠t:=rq;simp[gT,lC M]
 .intro t u ht;simp only[aC]at ht;split at ht
  .rename_i e;simp only[Key.s.injEq]at e;simp only[au,Info.v.injEq]at ht;subst e;subst ht;simp[gT,I,bA,cQ,j]
  .split at ht
   .simp at ht
   .simp at ht
 .intro B b ht;simp only[aC,reduceCtorEq,bL]at ht;split at ht
  .rename_i e;simp only[Key.m.injEq]at e;subst e;simp only[au,Info.b.injEq]at ht;subst ht;refine⟨.inr ⟨W.heap.size,l,vs,by simp[j],ax,G,hle,hlen,w,.inl aN.below.size,q⟩,.inr ⟨J,λk hk=> .inl ?_⟩⟩;simp only[j,b7,cz,au]at hk;omega
  .simp at ht
 .intro k y ht;simp only[aC]at ht;split at ht
  .simp only[au]at ht;subst ht;intro B p;simp[Info.ak,AV.ak,C.ak]at p;exact .inr p
  .split at ht
   .simp only[au]at ht;subst ht;intro B p;simp[Info.ak,aE.ak]at p
   .simp at ht
 .intro B y ht;simp only[aC,reduceCtorEq,bL]at ht;split at ht
  .rename_i e;simp only[Key.m.injEq]at e;exact .inr e.symm
  .simp at ht
def Vf{ops}{i}{o:aX}{d:Y}(ho:ops[i]? =ad o)(hg:o.guard=none)(hd:o.dst=ad d){n}(di:d<n){U}{be}{m}{xs}new(hlen:Z xs*m.n<=140737488355328)
  (cq:∀(F:eK)(l:Y->Prop)(σ:Kn)(g:Gh)(W:cE)(a:Act),br F l σ g W a->(∀kx∈nr U o.op,σ kx.1=ad kx.2)->
   ∃(vs:V aO)(f:Y)(W1:cE),(execOp a.eval o).run P W= .ok (.value<|.slice (ad ⟨W.heap.size,0,none⟩) (Z xs) f) {W1 with heap:=W.heap.push<|.cells vs.toArray be (0,0)}/\W1.os=W.os/\W1.tape=W.tape/\W1.output=W.output/\Z vs=f*m.n/\Z xs<=f/\
    ∀i(cq:i<Z xs),cV g.H m xs[i] ((az (i*m.n) vs).take m.n)):
  k5 P n ops i U (U.put d<|.c<|.S m xs) new (bD o.op.operands.toList,[.s d]):=by
 refine⟨nr U o.op,[(.s d,ad<|.v<|.c<|.S m xs)],?_,pZ U _,oL U d _,ew U _,λk hk=>ju⟩
 intro F kC Q l σ g W a K X aN A R
 let ⟨vs,f,W1,r,e1,e2,e3,sH,hle,B⟩:=cq F l σ g W a aN A
 unfold wpOp
 simp only[ho,hZ,hg,b7]
 refine .inl ?_
 unfold mO
 rw[r]
 simp only[mP,hd]
 have D:d<a.tmps.size:=l0
 let q:Gh:=⟨λb o=>if b=W.heap.size then vs[o]? else g.H b o,g.γ⟩
 have x:∀o,g.H W.heap.size o=none:=by
  intro o;cases p:g.H W.heap.size o with
  |none=>rfl
  |some v=>
   have:=B2 W _<|aN.sub _ _ _ p
   simp at this
 have L:cD g.H q.H:=by
  intro b o v p;by_cases e:b=W.heap.size
  .subst e;rw[x]at p;cases p
  .simp[q,e,p]
 have w:Sub q.H {W1 with heap:=W.heap.push<|.cells vs.toArray be (0,0)}:=by
  intro b o v p;by_cases e:b=W.heap.size
  .subst e;simp only[q,b7]at p;simp[B0,p]
  .simp only[q,e,bL]at p;exact zG aN.sub (.cells vs.toArray be (0,0)) b o v p
 refine R q _ _<|aN.step (chg:=λ_=>False) (g':=q) ⟨⟨L,λ_ _=>rfl⟩,?_,w,ax,λk hk _=>B1 W _ k hk,e1,e2,e3⟩ _ new X mL aN.defers ?_ (λ_ cq=>cq.elim) ?_ ?_ ?_ ?_
 .intro b o hb;have:b≠W.heap.size:=O;simp[q,this]
 .intro t ht;have G:d≠t:=rq;simp[gT,lC G]
 .intro t u ht;simp only[aC]at ht;split at ht
  .rename_i e;simp only[Key.s.injEq]at e;simp only[au,Info.v.injEq]at ht;subst e;subst ht;have z:(a.put (ad d)<|.slice (ad ⟨W.heap.size,0,none⟩) (Z xs) f).tmps.getD d undef= .slice (ad ⟨W.heap.size,0,none⟩) (Z xs) f:=by simp[gT,D]
   rw[z];refine⟨_,f,J,hle,hlen,?_⟩;by_cases hx:xs=[]
   .exact .inl hx
   .refine .inr ⟨W.heap.size,0,J,λk hk=>⟨(az (k*m.n) vs).take m.n,cV.length m _ _<|B k hk,cV.mono L m _ _<|B k hk,λj hj=>?_⟩⟩;have I:(k+1)*m.n<=f*m.n:=ef _ O;rw[gk,iT]at I;simp only[fQ,Cj]at hj;simp only[q,b7,eH,pX,sx];exact cK O
  .simp at ht
 .intro N b ht;simp[aC]at ht
 .intro k y ht;simp only[aC]at ht;split at ht
  .simp only[au]at ht;subst ht;intro N M;simp[Info.ak,AV.ak,C.ak]at M
  .simp at ht
 .intro N y ht;simp[aC]at ht
def agc(B:b8 P tt=ae){H}{i}{o:aX}{d:Y}(ho:H[i]? =ad o)(hg:o.guard=none)(hd:o.dst=ad d){n}(di:d<n){t}{x}(bU:o.op= .makeSlice t x x)
 {st}{m:Y} {k}(hx:st.ev x=ad (.c<|.I k (m:Int))) {be}{ti p:TI} (mN:S t tt=ad ti) (hk:ti.kind= .sl be) (ny:S be tt=ad p) (l:ET) (rk:p.size=l.n)
  (hz:∀g:Gh,aR g (av l l.dA) (p.zero.map ZV.eG)) (hb:m*p.bytes<=281474976710656) (lE:m*l.n<=140737488355328) (q:Y):
  k5 P n H i st ((st.pm q<|.vec be l<|bg m l.dA).put d<|.c<|.X q) q (bD o.op.operands.toList,[.s d,.m q]):=by
 refine Ve ho hg hd di q (by simpa using lE) ?_
 intro F h R g W a C r
 have G:a.eval x= .int k (m:Int):=du C st x _ hx<|λM bZ=>r M Oz
 have A:=(dZ B mN).kind
 rw[hk]at A
 let ⟨inf,K,L,Q,z,w,vH⟩:=(dZ B ny).info
 have f:Z (p.zero.map ZV.eG)=l.n:=cV.length l _ _<|zk l _ _<|hz g
 have U:z.cells=(p.zero.map ZV.eG).toArray:=B6
 have b:(p.zero.map ZV.eG)≠[]:=by intro e;rw[e]at f;have:=l.zh;simp at f;omega
 have N:m*1<=m*l.n:=ia m l.zh
 have y:(inf.bytes:Int)*(m:Int)<=281474976710656:=by
  rw[Q];have:(p.bytes:Int)*(m:Int)=((m*p.bytes:Y):Int):=by rw[gO];simp
  rw[this];omega
 have u:=run_make (P:=P) W t be inf z A K w k k m m O O y O
 refine⟨(bg m<|p.zero.map ZV.eG).flatten,m,W,?_,J,J,J,?_,ax,?_⟩
 .rw[execOp,bU];have v:madeCells z.cells (m*inf.size)=((bg m<|p.zero.map ZV.eG).flatten).toArray:=by rw[L,rk,U,<-f,<-Jg _ m b];rfl
  simp only[b6]at u;rw[v]at u;simp only[G,cZ,u,de,fF];rfl
 .rw[Vc,f]
 .intro j D;simp only[fF]at D;have:=Vb (p.zero.map ZV.eG) m j D;rw[f]at this;rw[this,List.getElem_replicate];exact zk l _ _<|hz g
end
section
variable{P:bS}{tt:TT}{n:Y}{Q:k7}{st:St}
def xP(d:Y)(e:ET)(xs:V e.den):C->C
 | .X a=>if a=d then .S e xs else .X a
 | .Y a m i off=>if a=d then .any else .Y a m i off
 |f=>f
def zW(d:Y)(a:ET)(xs:V a.den):V C->V C
 |[]=>[]
 |e::f=>xP d a xs e::zW d a xs f
def E9(d:Y)(a:ET)(xs:V a.den):V (Bool×V C)->V (Bool×V C)
 |[]=>[]
 | (e,cs)::f=>(e,zW d a xs cs)::E9 d a xs f
def Fa(e:Y)(d:ET)(xs:V d.den):AV->AV
 | .c x=> .c<|xP e d xs x
 | .a cs=> .a<|zW e d xs cs
 | .t f=> .t<|E9 e d xs f
def vP(d:Y)(a:ET)(xs:V a.den):V (Y×AV)->V (Y×AV)
 |[]=>[]
 | (t,v)::e=>(t,Fa d a xs v)::vP d a xs e
def OA(d:Y)(a:ET)(xs:V a.den):aE->aE
 | .box e f cs=> .box e f<|zW d a xs cs
 |g=>g
def sI(a:Y)(d:ET)(xs:V d.den):V (Y×aE)->V (Y×aE)
 |[]=>[]
 | (e,g)::f=>if e=a then sI a d xs f else(e,OA a d xs g)::sI a d xs f
def Vg(d:Y)(a:ET)(xs:V a.den)(t:Y):∀l,S t (vP d a xs l)=(S t l).map (Fa d a xs)
 |[]=>rfl
 | (k,v)::e=>by
  simp only[vP,S];split
  .rfl
  .exact Vg d a xs t e
def OB(d:Y)(a:ET)(xs:V a.den)(t:Y):∀l,S t (sI d a xs l)=if t=d then none else(S t l).map (OA d a xs)
 |[]=>by simp[sI,S]
 | (k,v)::f=>by
  simp only[sI,S];split
  .rename_i e;subst e;rw[OB k a xs t f];split
   .rfl
   .rename_i g;rw[w (λe=>g e.symm)]
  .rename_i e;simp only[S];split
   .rename_i i;subst i;rw[w e];rfl
   .exact OB d a xs t f
def Vh id f xs d:∀e∈(xP id f xs d).ak,e∈d.ak:=by
 intro e a;cases d with
 |X k=>simp only[xP]at a;split at a;simp[C.ak]at a;exact a
 |Y k m i off=>simp only[xP]at a;split at a;simp[C.ak]at a;exact a
 |_=>exact a
def Jh(g:Y)(d:ET)(xs:V d.den):∀(e:V C),∀a∈bP (zW g d xs e),a∈bP e
 |[],a,f=>f
 |i::e,a,f=>by simp only[zW,bP,aY]at f⊢;exact f.imp (Vh g d xs i a)<|Jh g d xs e a
def Vi(g:Y)(d:ET)(xs:V d.den):∀(e:V (Bool×V C)),∀a∈eo (E9 g d xs e),a∈eo e
 |[],a,f=>f
 | (k,i)::e,a,f=>by simp only[E9,eo,aY]at f⊢;exact f.imp (Jh g d xs i a)<|Vi g d xs e a
def agd id d xs v:∀e∈(Fa id d xs v).ak,e∈v.ak:=by
 cases v with
 |c x=>exact Vh id d xs x
 |a cs=>exact Jh id d xs cs
 |t f=>exact Vi id d xs f
section
variable{id:Y}{T:ET}{xs:V T.den}{known:Y->Prop}{g g':Gh}
def OC(d:fP known g g')(l:kX (cV g'.H T) T.n g'.H xs (g.γ id)):∀{a:C}{v:aO},(∀o∈a.ak,known o)->cQ g a v->cQ g' (xP id T xs a) v:=by
 intro a v f h;cases a with
 |X k=>
  simp only[xP]
  split
  .rename_i e;subst e;simp only[cQ]at h;subst h;exact l
  .exact cQ.mono d f h
 |Y k m i off=>
  simp only[xP]
  split
  .trivial
  .exact cQ.mono d f h
 |_=>exact cQ.mono d f h
def Ji(k:fP known g g')(l:kX (cV g'.H T) T.n g'.H xs (g.γ id)):∀{d:V C}{vs:V aO},(∀a∈bP d,known a)->aR g d vs->aR g' (zW id T xs d) vs
 |[],_,_,f=>f
 |_::_,_,m,f=>by let ⟨v,o,e,p,h2⟩:=f;exact⟨v,o,e,OC k l (λa i=>m a<|by simp[bP,i]) p,Ji k l (λa i=>m a<|by simp[bP,i]) h2⟩
def Vj(m:fP known g g')(o:kX (cV g'.H T) T.n g'.H xs (g.γ id)):∀{p:V (Bool×V C)}{vs:V aO},(∀a∈eo p,known a)->fa g p vs->fa g' (E9 id T xs p) vs
 |[],_,_,d=>d
 | (s,l)::_,_,q,d=>by
  let ⟨v,t,e,f,h2⟩:=d;refine⟨v,t,e,?_,Vj m o (λa i=>q a<|by simp[eo,i]) h2⟩;have k:∀a∈bP l,known a:=λa i=>q a (by simp[eo,i])
  match s,l,f with
  |true,l,f=>let ⟨vs,e,d⟩:=f;exact⟨vs,e,Ji m o k d⟩
  |false,[l],f=>exact OC m o (λa i=>k a<|by simp[bP,i]) f
def age(f:fP known g g')(i:kX (cV g'.H T) T.n g'.H xs (g.γ id)){x}{v}(k:∀l∈x.ak,known l)(d:bA g x v):bA g' (Fa id T xs x) v:=by
 cases x with
 |c y=>exact OC f i k d
 |a cs=>let ⟨vs,e,d⟩:=d;exact⟨vs,e,Ji f i k d⟩
 |t m=>let ⟨vs,e,d⟩:=d;exact⟨vs,e,Vj f i k d⟩
end
def Fb l{be}{d}{xs}{sl}{mem}{nx}{gd}(hl:S l mem=ad (.vec be d xs)):Wk ⟨sl,mem,nx,gd⟩ ⟨vP l d xs sl,sI l d xs mem,nx,gd⟩:=by
 intro F rA g W a h;have L:St.kn ⟨sl,mem,nx,gd⟩ (.m l)=ad (.b<|.vec be d xs):=zQ;have V:=h.cL l _ L;have main:∀B:Gh,fP (kb ⟨sl,mem,nx,gd⟩) g B->kX (cV B.H d) d.n B.H xs (g.γ l)->Sub B.H W->(∀b o,b<F.w0.heap.size->¬F.own b->B.H b o=F.H0 b o)->(∀b o,cz (g.γ l)≠ad b->B.H b o=g.H b o)->B.γ=g.γ->
   br F (kb ⟨vP l d xs sl,sI l d xs mem,nx,gd⟩) (St.kn ⟨vP l d xs sl,sI l d xs mem,nx,gd⟩) B W a:=by
  intro B u hX Y xQ hH hγ
  have hS:∀t r,St.kn ⟨vP l d xs sl,sI l d xs mem,nx,gd⟩ (.s t)=ad (.v r)->∃v,St.kn ⟨sl,mem,nx,gd⟩ (.s t)=ad (.v v)/\r=Fa l d xs v:=by intro t r e;simp only[St.kn,Vg,Option.map_map,cu]at e;let ⟨v,hv,he⟩:=e;cases he;exact⟨v,zM,J⟩
  have hM:∀j p,St.kn ⟨vP l d xs sl,sI l d xs mem,nx,gd⟩ (.m j)=ad (.b p)->∃b,St.kn ⟨sl,mem,nx,gd⟩ (.m j)=ad (.b b)/\p=OA l d xs b/\j≠l:=by
   intro j p e;simp only[St.kn,OB]at e;split at e
   .simp at e
   .rename_i M;simp only[Option.map_map,cu]at e;let ⟨b,C,he⟩:=e;cases he;exact⟨b,by simp[St.kn,C],J,M⟩
  refine⟨h.size,h.defers,?_,?_,?_,?_,?_,Y,h.below,h.le.trans u.H,xQ,λl L=>⟨(h.fS l L).1,by rw[hγ];exact(h.fS l L).2⟩⟩
  .intro t r e;obtain⟨v,hv,rfl⟩:=hS t r e;exact age u hX (λj U=>h.ak _ _ hv j U)<|h.eE t v hv
  .intro j p e;obtain⟨b,C,rfl,M⟩:=hM j p e;have w:=h.cL j b C;have q:∀k,cz (g.γ j)=ad k->cz (g.γ l)≠ad k:=λk N y=>M (h.inj j l b _ k C L N y)
   cases b with
   |box E' bz cs=>
    let ⟨k,vs,rest,e1,K,z,A,D,e6⟩:=w
    exact⟨k,vs,rest,oP,K,Ji u hX (λi X=>h.ak _ _ C i X) z,A,λo=>by rw[hH k o (q k e1)];exact D o,by rw[hγ];exact e6⟩
   |vec E' T' ys=>
    rcases w with⟨e1,K⟩|⟨k,G,vs,e1,K,z,A,Jj,D,e6,e7⟩
    .exact .inl ⟨oP,K⟩
    .exact .inr ⟨k,G,vs,oP,K,z,A,Jj,λi X=>cV.mono u.H _ _ _<|D i X,e6,λo=>by rw[hH k o (q k<|by rw[e1];rfl)];exact e7 o⟩
   |gM f first zX=>
    let ⟨us,ws,e1,K,z⟩:=w
    exact⟨us,ws,oP,fa.mono u (λi X=>h.ak _ _ C i<|dY _ X) K,fa.mono u (λi X=>h.ak _ _ C i<|fU _ X) z⟩
   |fz E' cs=>
    let ⟨k,vs,rest,e1,K,z,A,D⟩:=w
    exact⟨k,vs,rest,oP,K,aR.mono u (λi X=>h.ak _ _ C i X) z,A,λo=>by rw[hH k o (q k e1)];exact D o⟩
   |mp ka va ys=>
    let ⟨k,es,e1,K,z,A,D⟩:=w
    exact⟨k,es,oP,K,g5.mono u (λi X=>h.ak _ _ C i X) z,A,λo=>by rw[hH k o (q k<|by rw[e1];rfl)];exact D o⟩
   |it m n seen=>
    let ⟨k,b,e1,e0,K,A,D⟩:=w
    exact⟨k,b,oP,by rw[hγ];exact e0,K,A,λo=>by rw[hH k o (q k<|by rw[e1];rfl)];exact D o⟩
  .intro i j b p k e e' N y;let ⟨c,hc,_⟩:=hM i b e;let ⟨c',Jk,_⟩:=hM j p e';rw[hγ]at N y;exact h.inj i j c c' k hc Jk N y
  .intro k x e j U;cases k with
   |s t=>
    cases x with
    |v r=>obtain⟨v,hv,rfl⟩:=hS t r e;exact h.ak _ _ hv j<|agd l d xs v j U
    |b p=>simp only[St.kn,cu]at e;let ⟨_,_,he⟩:=e;cases he
   |m i=>
    cases x with
    |v r=>simp only[St.kn,cu]at e;let ⟨_,_,he⟩:=e;cases he
    |b p=>
     obtain⟨b,C,rfl,_⟩:=hM i p e
     refine h.ak _ _ C j ?_
     cases b with
     |box E' bz cs=>exact Jh l d xs cs j U
     |vec E' T' ys=>exact U
     |gM f first zX=>exact U
     |fz E' cs=>exact U
     |mp ka va ys=>exact U
     |it m n seen=>exact U
  .intro i x e;cases x with
   |v r=>simp only[St.kn,cu]at e;let ⟨_,_,he⟩:=e;cases he
   |b p=>let ⟨b,C,_⟩:=hM i p e;exact h.dQ _ _ C
 rcases V with⟨hγ,hx⟩|⟨b,G,vs,hγ,hh,sH,u,hlen,w,hN,hz⟩
 .refine⟨g,main g ⟨cD.refl _,λ_ _=>rfl⟩ ?_ h.sub h.fresh (λ_ _ _=>rfl) J⟩;subst hx;exact⟨none,0,hγ,ax,ax,.inl J⟩
 .let B:Gh:=⟨λp o=>if p=b then(if o<Z xs*d.n then vs[o]? else none)else g.H p o,g.γ⟩;have I:cD g.H B.H:=by
   intro p o v hv;by_cases e:p=b
   .subst e;rw[hz]at hv;cases hv
   .simp[B,e,hv]
  refine⟨B,main B ⟨I,λ_ _=>rfl⟩ ?_ ?_ ?_ ?_ J⟩
  .refine⟨ad ⟨b,0,none⟩,G,hγ,u,hlen,?_⟩;by_cases hx:xs=[]
   .exact .inl hx
   .refine .inr ⟨b,0,J,λk N=>⟨(az (k*d.n) vs).take d.n,cV.length d _ _<|w k N,cV.mono I d _ _<|w k N,λj U=>?_⟩⟩;have OD:(k+1)*d.n<=G*d.n:=ef _ O;have Jl:(k+1)*d.n<=Z xs*d.n:=ef _ O;rw[gk,iT]at OD Jl;simp only[fQ,Cj]at U;have gN:k*d.n+j<Z xs*d.n:=O;simp only[B,b7,eH,pX,sx,gN];exact cK O
  .intro p o v hv;by_cases e:p=b
   .subst e;simp only[B,b7]at hv;split at hv
    .simp[B0,hh,hv]
    .cases hv
   .simp only[B,e,bL]at hv;exact h.sub p o v hv
  .intro p o R jY;have:p≠b:=by
    intro e;subst e;rcases hN with h1|h1
    .omega
    .exact jY h1
   simp only[B,this,bL];exact h.fresh p o R jY
  .intro p o R;have:p≠b:=λe=>R (by rw[hγ,e];rfl)
   simp[B,this]
def c8 id{l}{e}{xs}{f}{g}{mem}{i}{k}(m:S id mem=ad (.vec l e xs)){d}{a}(o:vP id e xs g=d)(p:sI id e xs mem=a)
  (q:TR P n f ⟨d,a,i,k⟩ Q):TR P n f ⟨g,mem,i,k⟩ Q:=by
 subst o p
 exact dW (Fb id m) q
def ui t{d}{xs}{f}{e}{mem}{i}{k}(hl:S t e=ad (.c<|.S d xs))(m:Z xs*d.n<=140737488355328->TR P n f ⟨e,mem,i,k⟩ Q):TR P n f ⟨e,mem,i,k⟩ Q:=by intro F o g W a l;have p:cQ g (.S d xs) (a.tmps.getD t undef):=l.eE t (.c<|.S d xs) zQ;let ⟨_,_,_,_,h2,_⟩:=p;exact m h2 F o g W a l
def agf{f}{a}{l i}{d t}{x}{ty}{pos}{p}{os}{q}{mem}{u}{B}{ks}{Q:St->Prop}(F:b8 P tt=ae)
 e (m:Y) {k}{v}(hx:St.ev ⟨q,mem,u,B⟩ x=ad (.c<|.I k v)) (hv:v=(m:Int)) {H}{ti o}(L:S t tt=ad ti) (hk:ti.kind= .sl H) (U:S H tt=ad o) (W:o.size=e.n)
  (hz:∀g:Gh,aR g (av e e.dA) (o.zero.map ZV.eG)) (hb:m*o.bytes<=281474976710656) (lE:m*e.n<=140737488355328)
  (cq:RG P n f a l (i+1) os ⟨(d,.c<|.X<|1000000*l+1000*i)::q,(1000000*l+1000*i,.vec H e<|bg m e.dA)::mem,u,B⟩ (gU a ks (bD [x,x],[.s d,.m<|1000000*l+1000*i])) Q) (di:dj d n=ae:=by rfl):
  RG P n f a l i (⟨ad d,.makeSlice t x x,ty,pos,p,none⟩::os) ⟨q,mem,u,B⟩ ks Q:=by
 subst hv
 exact mR (λC=>agc F C J J (c9 di) J hx L hk U e W hz hb lE _)<|mT cq
def agh{p}{a}{H i}{t}{x o}{ty}{pos}{s}{L}{d}{mem}{f}{g}{U}{Q:St->Prop}(u:b8 P tt=ae)
 {l m k}{W}{q}{xs}{vy}(hx:St.ev ⟨d,mem,f,g⟩ x=ad (.c<|.Y l m k 0)) (hl:S l mem=ad (.vec W q xs)) (hy:St.ev ⟨d,mem,f,g⟩ o=ad vy) (hm:q.n=m) {ag}(v:oK tt t=ad (m,ag)) (e:q.den) (B:jU vy=ad (av q e)) (hk:k<Z xs)
  (h:RG P n p a H (i+1) L ⟨d,(l,.vec W q<|xs.set k e)::mem,f,g⟩ (gU a U (bD [x,o]++cX [l],[.m l])) Q):
  RG P n p a H i (⟨none,.store t x o,ty,pos,s,none⟩::L) ⟨d,mem,f,g⟩ U Q:=by
 refine mR (λK=>⟨_,_,UZ u K J J J hx hy hl hm v B hk _,?_,Oo ⟨d,mem,f,g⟩ l _,?_,λk hk=>ju⟩)<|mT h
 .intro C F;rcases aY.1 F with h|h
  .rcases aY.1 h with h|h
   .exact dV _ x C h
   .exact dV _ o C h
  .exact jV _ [l] C h
 .intro k hk;simp only[dq,fo,aY]at hk;rcases hk with(h|h)|h
  .exact dY _<|ew ⟨d,mem,f,g⟩ [x,o] k uf
  .exact dY _<|ew ⟨d,mem,f,g⟩ [x,o] k vI
  .exact fU _<|jW ⟨d,mem,f,g⟩ [l] k h
end
section
variable{P:bS}{tt:TT}{n:Y}
def Jm:∀(a:ET)(x:a.den),Z (av a x)=a.n
 | .int _,_=>rfl
 | .bool,_=>rfl
 | .z,_=>rfl
 | .q,_=>rfl
 | .sl _,_=>rfl
 | .pr d B,x=>by simp[av,Jm d,Jm B]
def Vk{g:Gh}(d:ET):∀(xs:V d.den)(vs:V aO),aR g (xs.flatMap<|av d) vs->∀i(h:i<Z xs),cV g.H d xs[i] ((az (i*d.n) vs).take d.n)
 |[],_,_,i,h=>by simp at h
 |x::xs,vs,e,i,h=>by
  rw[kD]at e;obtain⟨a,k,rfl,f,l⟩:=Et e;have m:Z a=d.n:=by rw[f.length,Jm]
  cases i with
  |zero=>
   simp only[rB,oQ,tX]
   rw[vG O,iO O]
   exact zk d x a f
  |succ i=>
   simp only[zB]
   rw[show(i+1)*d.n=Z a+i*d.n by rw[gk,iT];omega,<-oN,List.drop_left]
   exact Vk d xs k l i dL
def uj(sz:Y):Y->Y->V (Y×Y)
 |_,0=>[]
 |k,m+1=>(k*sz,sz)::uj sz (k+1) m
def Jn(sz:Y):∀(m k i:Y)(x:Y×Y),(uj sz k m)[i]? =ad x->x=((k+i)*sz,sz)
 |0,_,_,_,a=>by simp[uj]at a
 |m+1,k,0,x,a=>by simp[uj]at a;simp[<-a]
 |m+1,k,i+1,x,a=>by simp only[uj,vC]at a;have:=Jn sz m (k+1) i x a;rw[this,(O:k+1+i=k+(i+1))]
def Ck(l:V C):Y->V C
 |0=>[]
 |m+1=>l++Ck l m
def Jo{g:Gh}{l:V C}{vs:V aO}(a:aR g l vs):∀m,aR g (Ck l m) ((bg m vs).flatten)
 |0=>rfl
 |m+1=>by rw[xx,Jf];exact aR.append a<|Jo a m
def Vl{l:V C}(e:bP l=[]):∀m,bP (Ck l m)=[]
 |0=>rfl
 |m+1=>by
  have:=Vl e m;apply OE.2;intro f d;rcases BZ _ _ f d with a|a
  .rw[e]at a;cases a
  .rw[this]at a;cases a
def sJ(tt:TT)(f:St)(t d:Y)(a:V (Y×dS)):ar (Y×TI×V C):=match S t tt with
 |some g=>(match g.kind with
  | .sl E=>(match S E tt with
   |some e=>(match zH (uj e.size 0 d) f (Ck (e.zero.map ZV.oJ) d) a with
    |some cs=>ad (E,e,cs)
    |none=>none)
   |none=>none)
  |_=>none)
 |none=>none
def OF(bW:b8 P tt=ae){F}{v:Y->Prop}{σ}{g}{W}{a}(U:br F v σ g W a){st}{o}{t d}{k}(bU:o.op= .buildSlice t d k){be}{ei}{m}{xs}(hT:ei.size=m.n)(vQ:Z xs=d)(xR:d*m.n<=16777216)
  (q:sJ tt st t d k.toList=ad (be,ei,xs.flatMap<|av m)) (fc:∀kx∈nr st o.op,σ kx.1=ad kx.2):
  ∃(vs:V aO)(B:Y)(W1:cE),(execOp a.eval o).run P W= .ok (.value<|.slice (ad ⟨W.heap.size,0,none⟩) (Z xs) B) {W1 with heap:=W.heap.push<|.cells vs.toArray be (0,0)}/\W1.os=W.os/\W1.tape=W.tape/\W1.output=W.output/\Z vs=B*m.n/\Z xs<=B/\
    ∀i(cq:i<Z xs),cV g.H m xs[i] ((az (i*m.n) vs).take m.n):=by
 unfold sJ at q
 split at q
 .rename_i ti D;split at q
  .rename_i S hk;split at q
   .rename_i l ny;split at q
    .rename_i cs G;simp only[au,bG]at q;obtain⟨rfl,rfl,rfl⟩:=q;have hu:=(dZ bW D).kind;rw[hk]at hu;let ⟨inf,ud,X,_,z,hz,vH⟩:=(dZ bW ny).info;have b:z.cells=(l.zero.map ZV.eG).toArray:=B6;let ⟨us,c,iv,hu3,hu4⟩:=EX U st (uj l.size 0 d) (λi=>ad (i*l.size,l.size)) (λi x cq=>by rw[Jn _ _ _ _ _ cq];simp) k.toList _ _ _ G (Jo (xI g l.zero) d) (λp hp kx I=>fc kx<|by rw[bU];refine iw.2 ⟨p.2,?_,I⟩;simp only[Op.operands,je];exact⟨p,hp,J⟩) OG;have C:=iv.length;have M:∀j:V m.den,Z (j.flatMap<|av m)=Z j*m.n:=by
      intro j;induction j with
      |nil=>simp
      |cons y j ih=>simp[Jm,ih,gk,Jp]
     rw[M]at C;refine⟨us,Z xs,W,?_,J,J,J,C,aW _,Vk m xs us iv⟩;have K:execOp a.eval o=(do pure (.value<|<-Ff t d (k.map λ(i,x)=>(i,a.eval x)))):=ua;have r:(k.map λ(i,x)=>(i,a.eval x)).toList=k.toList.map λp=>(p.1,a.eval p.2):=ax
     have L:Z (l.zero.map ZV.eG)=l.size:=OH;have Fg:0<l.size:=by rw[hT];exact m.zh
     have N:(zeroValue S).run P W= .ok z W:=On;have s:((Vd<|d*l.size).map<|λi=>(l.zero.map ZV.eG).toArray[i%(l.zero.map ZV.eG).toArray.size]!)=((bg d<|l.zero.map ZV.eG).flatten).toArray:=by have:=Jg (l.zero.map ZV.eG) d (by intro e;rw[e]at L;simp at L;omega);rw[L]at this;exact this
     have hb:(Ff t d<|k.map λ(i,x)=>(i,a.eval x)).run P W= .ok (.slice (ad ⟨W.heap.size,0,none⟩) d d) {W with heap:=W.heap.push<|.cells us.toArray S (0,0)}:=by
      unfold Ff;rw[cZ,run_underlying hu];simp only[de];rw[cZ,run_sizeOf ud];simp only[de,X];rw[w (by rw[hT];omega)];by_cases A:d*l.size=0
      .have Q:d=0:=by
        rcases Nat.mul_eq_zero.1 A with cq|cq
        .exact cq
        .omega
       subst Q;have O:us=[]:=fE (by rw[C,vQ];simp);subst O;have u:=c;simp only[Cm,List.flatten_nil]at u;have R:∀f:Y->aO,(Vd 0).map f= #[]:=λf=>by simp
       simp only[rB,b7,pure_bind,R,r,u];rfl
      .rw[w A];simp only[pure_bind,cZ,N,de,b,s,r,c];rfl
     rw[K,cZ,hb,vQ];rfl
    .simp at q
   .simp at q
  .simp at q
 .simp at q
def agi{g}{e}{B i}{d t f}{a}{U}{pos}{m}{F}{o}{mem}{p}{q}{H}{Q:St->Prop}(u:b8 P tt=ae)
 l xs {W}{L}(hv:sJ tt ⟨o,mem,p,q⟩ t f a.toList=ad (W,L,xs.flatMap<|av l)) (hT:L.size=l.n) (vQ:Z xs=f) (xR:dT (f*l.n) 16777216=ae)
  (cq:RG P n g e B (i+1) F ⟨(d,.c<|.S l xs)::o,mem,p,q⟩ (gU e H (bD (Op.buildSlice t f a).operands.toList,[.s d])) Q) (v:dj d n=ae:=by rfl):
  RG P n g e B i (⟨ad d,.buildSlice t f a,U,pos,m,none⟩::F) ⟨o,mem,p,q⟩ H Q:=
 mR (λC=>Vf C J J (c9 v) _ OI<|λ_ _ _ _ _ _ k x=>OF u k J hT vQ (c9 xR) hv x) (mT cq)
def agj{g}{e}{k i}{d t f}{a}{W}{pos}{p}{F}{q}{mem}{u}{v}{H}{Q:St->Prop}(x:b8 P tt=ae)
 o xs {L}{U}(hv:sJ tt ⟨q,mem,u,v⟩ t f a.toList=ad (L,U,xs.flatMap<|av o)) (hT:U.size=o.n) (vQ:Z xs=f) (xR:dT (f*o.n) 16777216=ae)
  (cq:RG P n g e k (i+1) F ⟨(d,.c<|.X<|1000000*k+1000*i)::q,(1000000*k+1000*i,.vec L o xs)::mem,u,v⟩ (gU e H (bD (Op.buildSlice t f a).operands.toList,[.s d,.m<|1000000*k+1000*i])) Q) (B:dj d n=ae:=by rfl):
  RG P n g e k i (⟨ad d,.buildSlice t f a,W,pos,p,none⟩::F) ⟨q,mem,u,v⟩ H Q:=
 mR (λK=>Ve K J J (c9 B) _ OI<|λ_ _ _ _ _ _ l C=>OF x l J hT vQ (c9 xR) hv C) (mT cq)
end
end Go.El
