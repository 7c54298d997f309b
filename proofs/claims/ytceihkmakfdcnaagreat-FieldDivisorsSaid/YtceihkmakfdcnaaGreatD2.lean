/- The engine, part 11: stores into boxes and new boxes, as steps. Own work; no condition. -/
import Derived.KernelRfl
import Derived.Deep.DeepAppendWide
import Derived.Test.YtceihkmakfdcnaaGreatD1
set_option linter.all false
set_option maxHeartbeats 16000000
set_option maxRecDepth 100000
open Array renaming range->Xz
open Bool renaming true->ae,false->ah
open Go renaming Program->bW,World->cQ,Oper->a4,Operand->eI,Value->aV,ResultVar->KX
open Go.Act renaming put->im
open Go.El renaming ja->S
open Go.Exit renaming inBlock->DP
open Go.Instr renaming storeAt->Qq,sureAddr->Du,indexAt->AS,build->GW,buildSlice->G9
open Go.Oper renaming wp->nK,upon->nL
open Go.Region renaming wanted->gV,binds->tL
open Go.Result renaming andThen->dx
open Go.Sem renaming run_bind->dn,run_pure->yE,run->kp
open Go.World renaming cell?->DA,block_lt_of_cell?->DC
open Int renaming toNat->af
open List renaming length->Z,take->c,drop->aA,getD->E,range->bX,replicate->bc,getElem_toArray->ai3
open Nat renaming testBit->oU,ble->dP,blt->dy
open Option renaming some->ad
open _root_ renaming Nat->Y,Option->ax,List->V
namespace Go.El
open Go Go.RowKit
section
variable{P:bW}{tt:TT}
def GP(tt:TT)(a:St)(t:Y)(x v:AV):ax (Y×aG):=match qj tt t,x,kQ v with
 |some (sz,_),.c (.P id off),ad us=>(match S id a.mem with
  |some (.box E d cs)=>if Z us=sz/\off+sz<=Z cs/\us.all kq=ae then ad (id,.box E d<|c9 cs us off)else none
  |_=>none)
 |_,_,_=>none
def GQ cs us off:∀a∈bV (c9 cs us off),a∈bV cs\/a∈bV us:=by
 intro a d;unfold c9 at d;rcases Dz _ _ a d with h|h
 .rcases Dz _ _ a h with h|h
  .exact .inl<|Dt _ _ a h
  .exact .inr h
 .exact .inl<|GB _ _ a h
def AX{H}{W}(g:Sub H W){a}{vs}{i}(k:∀o,H a o=none):Sub H (jo W a vs i):=by
 intro f o v d;have l:=g f o v d;by_cases e:a=f
 .subst e;rw[k o]at d;cases d
 .simp only[DA,yC e];exact l
def Qp{d:Type}(vs rest a:V d) off(f:off+Z a<=Z vs):c9 (vs++rest) a off=c9 vs a off++rest:=by unfold c9;rw[wY O,AY O];simp[l7]
def Xi(di:cq P tt=ae){ops}{i}{o}(ho:ops[i]? =ad o)(hg:o.guard=none)(hd:o.dst=none){n}{t:TypeId}{x y}(b6:o.op= .store t x y)
 {A}{vx vy}{id}{bk:aG} (hx:A.ev x=ad vx) (hy:A.ev y=ad vy) (B:GP tt A t vx vy=ad (id,bk)) (new:Y):
  iA P n ops i (cJ A x++cJ A y++fL A [id]) [(.m id,ad<|.b bk)] new:=by
 intro F kO Q D σ g W a K X d C hK
 have G:=dA d A x vx hx<|λkx b7=>C kx ef
 have I:=dA d A y vy hy<|λkx b7=>C kx ef
 have N:=sM d A y vy hy<|λkx b7=>C kx ef
 unfold GP at B
 split at B
 .rename_i _ sz ag u l us R p;split at B
  .rename_i E bz cs hl;split at B
   .rename_i M;let ⟨h1,h2,h3⟩:=M;simp only[ar,bM]at B;obtain⟨rfl,rfl⟩:=B;have s:σ (.m u)=ad (.b<|.box E bz cs):=C (.m u,.b<|.box E bz cs) qm;let ⟨b,vs,rest,T,hh,hr,hN,hz,S⟩:=d.cX u _ s;let ⟨b',v,hv⟩:=G;rw[T]at v;simp only[ar]at v;subst v;have L:∀c∈us,kq c=ae:=λc hc=>jS.1 h3 c hc
    let ⟨ws,V,U⟩:=KF p I L;let ⟨_,⟨ti,Z,aiG⟩,_⟩:=KE di R;have avo:=U.length;have avp:=hr.length;have r:(Qq t (a.eval x)<|a.eval y).run P W= .ok () (jo W b (c9 (vs++rest) ws l) E):=by rw[hv];simp only[Qq,Du,storeVar,dn,yE,dx,run_sizeOf Z,V];have:¬(ws.toArray.size≠ti.size):=b8;simp only[this,bN];have:=AW (P:=P) b ws W (vs++rest) l 0 hh b8<|U.one L;simp only[jy]at this;simpa using this
    unfold wpOp;simp only[ho,gV,hg,cj];refine .inl ?_;unfold nK;have hex:(execOp a.eval o).run P W= .ok .skip (jo W b (c9 (vs++rest) ws l) E):=by rw[execOp,b6];simp[r,kp,pure]
    rw[hex];simp only[nL,hd,im];have hb:b<W.heap.size:=(gL.1 hh).1;refine hK g _ a<|d.step (chg:=λj=>j=u) (g':=g) ⟨⟨cL.refl _,λ_ _=>rfl⟩,λ_ _ _=>rfl,AX d.sub hz,AZ,?_,J,J,J⟩ _ new X J d.defers (λ_ _=>rfl) ?_ ?_ ?_ ?_ ?_
    .intro k hk gM;have:b≠k:=λe=>gM u J (by rw[T,e])
     exact yC this
    .intro j H;subst H;exact⟨yF,_,s⟩
    .intro t' v' ht;simp[aE]at ht
    .intro j bk H;simp only[aE]at H;split at H
     .rename_i e;simp only[Key.m.injEq]at e;subst e;simp only[ar,Info.b.injEq]at H;subst H;have w:c9 (vs++rest) ws l=c9 vs ws l++rest:=Qp vs rest ws l O;exact⟨⟨b,c9 vs ws l,rest,T,by rw[yB hb,w],hr.c9 U l,hN,hz,λh0=>by let ⟨c,e1,e2⟩:=S h0;refine⟨c,e1,?_⟩;rw[<-w,yD _ _ _ b8];exact e2⟩,.inl ⟨d.ew _ _ s,_,s⟩⟩
     .simp at H
    .intro k z f;simp only[aE]at f;split at f
     .simp only[ar]at f;subst f;intro j H;rcases GQ _ _ _ j H with h|h
      .exact .inl<|d.ak _ _ s j h
      .refine .inl<|N j ?_;cases vy with
       |c q=>simp only[kQ,ar]at p;subst p;simpa[bV,AV.ak]using h
       |a q=>simp only[kQ,ar]at p;subst p;exact h
       |t q=>simp[kQ]at p
     .simp at f
    .intro j z f;simp only[aE]at f;split at f
     .rename_i e;simp only[Key.m.injEq]at e;subst e;exact .inl<|d.ew _ _ s
     .simp at f
   .simp at B
  .simp at B
 .simp at B
def DB(W:cQ)(o:Obj) k(a:k<W.heap.size):(W.heap.push o)[k]? =W.heap[k]? :=by rw[Array.getElem?_push,w O]
def A1{H}{W}(f:Sub H W)(o:Obj):Sub H {W with heap:=W.heap.push o}:=by intro b a v g;have d:=f b a v g;have i:=DC W _ d;simp only[DA]at d⊢;rw[DB W o b i];exact d
def Xj{L}{i}{o:a4}{d:Y}(ho:L[i]? =ad o)(hg:o.guard=none)(hd:o.dst=ad d){n}(dz:d<n){cC}rd cs new
  (dj:∀(iz:fj)(f:Y->Prop)(U:Kn)(g:Gh)(W:cQ)(a:Act),bx iz f U g W a->(∀kx∈rd,U kx.1=ad kx.2)->
   (∀p∈bV cs,f p)/\∃vs,aW g cs vs/\(execOp a.eval o).run P W= .ok (.value<|.pointer<|ad ⟨W.heap.size,0,none⟩) {W with heap:=W.heap.push<|.cells vs.toArray cC (0,0)}):
  iA P n L i rd [(.s d,ad<|.v<|.c<|.P new 0),(.m new,ad<|.b<|.box cC 0 cs)] new:=by
 intro iz kO Q f U g W a K A aR X w
 let ⟨hm,vs,z,M⟩:=dj iz f U g W a aR X
 unfold wpOp
 simp only[ho,gV,hg,cj]
 refine .inl ?_
 unfold nK
 rw[M]
 simp only[nL,hd]
 have j:d<a.tmps.size:=mD
 let B:Gh:=⟨g.H,λp=>if p=new then .pointer (ad ⟨W.heap.size,0,none⟩)else g.γ p⟩
 have T:gC f g B:=⟨cL.refl _,λp l=>by
  have:p≠new:=λe=>A<|e▸l
  simp[B,this]⟩
 have x:∀o,g.H W.heap.size o=none:=by
  intro o;cases D:g.H W.heap.size o with
  |none=>rfl
  |some v=>
   have:=DC W _<|aR.sub _ _ _ D
   simp at this
 refine w B _ _<|aR.step (chg:=λ_=>False) (g':=B) ⟨T,λ_ _ _=>rfl,A1 aR.sub _,az,λk q _=>DB W _ k q,J,J,J⟩ _ new A mE aR.defers ?_ (λ_ dj=>dj.elim) ?_ ?_ ?_ ?_
 .intro t ht;have r:d≠t:=qn;simp[im,lE r]
 .intro t u ht;simp only[aE]at ht;split at ht
  .rename_i e;simp only[Key.s.injEq]at e;simp only[ar,Info.v.injEq]at ht;subst e;subst ht;refine⟨W.heap.size,by simp[B,cE],?_⟩;simp[im,j]
  .split at ht
   .simp at ht
   .simp at ht
 .intro p b ht;simp only[aE,reduceCtorEq,bN]at ht;split at ht
  .rename_i e;simp only[Key.m.injEq]at e;subst e;simp only[ar,Info.b.injEq]at ht;subst ht;refine⟨⟨W.heap.size,vs,[],by simp[B,cE],az,aW.mono T hm z,.inl aR.below.size,x,az⟩,.inr ⟨J,λk q=> .inl ?_⟩⟩;simp only[B,cj,cE,ar]at q;omega
  .simp at ht
 .intro k y ht;simp only[aE]at ht;split at ht
  .simp only[ar]at ht;subst ht;intro p l;simp[Info.ak,AV.ak,C.ak]at l;exact .inr l
  .split at ht
   .simp only[ar]at ht;subst ht;exact λp l=> .inl<|hm p l
   .simp at ht
 .intro p y ht;simp only[aE,reduceCtorEq,bN]at ht;split at ht
  .rename_i e;simp only[Key.m.injEq]at e;exact .inr e.symm
  .simp at ht
def aiH{p}{i}{o:a4}{d:Y}(ho:p[i]? =ad o)(hg:o.guard=none)(hd:o.dst=ad d){n}(H:d<n){T}{x}(L:o.op= .box T x)
 {A}{v}{B}(U:A.ev x=ad v) (f:kQ v=ad B) (M:B.all kq=ae) (k:Y):
  iA P n p i (cJ A x) [(.s d,ad<|.v<|.c<|.P k 0),(.m k,ad<|.b<|.box T 0 B)] k:=by
 refine Xj ho hg hd H _ B k ?_
 intro F C r g W a l u
 have X:=dA l A x v U u
 have e:=sM l A x v U u
 let ⟨vs,K,Q⟩:=KF f X<|λc h=>jS.1 M c h
 refine⟨λj y=>e j ?_,vs,Q,?_⟩
 .cases v with
  |c q=>simp only[kQ,ar]at f;subst f;simpa[bV,AV.ak]using y
  |a q=>simp only[kQ,ar]at f;subst f;exact y
  |t q=>simp[kQ]at f
 .rw[execOp,L];simp[Instr.box,newVar,newRow,newObj,K,kp,pure]
def yG(g:Gh):∀a:V ZV,aW g (a.map ZV.qi) (a.map ZV.e9)
 |[]=>rfl
 |d::a=>⟨_,_,J,by cases d<;>rfl,yG g a⟩
def aiI(u:cq P tt=ae){f}{i}{o:a4}{d:Y}(L:f[i]? =ad o)(M:o.guard=none)(Q:o.dst=ad d){n}(x:d<n){y}(A:o.op= .alloc y)
 {p}(B:S y tt=ad p) new:
  iA P n f i [] [(.s d,ad<|.v<|.c<|.P new 0),(.m new,ad<|.b<|.box y 0<|p.zero.map ZV.qi)] new:=by
 refine Xj L M Q x _ _ new ?_
 intro F C h g W a K T
 let ⟨j,U,_,_,z,X,H⟩:=(eS u B).info
 refine⟨?_,p.zero.map ZV.e9,yG g _,?_⟩
 .intro q k;exfalso;have:∀t:V ZV,bV (t.map ZV.qi)=[]:=by
   intro t;induction t with
   |nil=>rfl
   |cons z t e=>simp only[il,bV,e];cases z<;>rfl
  rw[this]at k;cases k
 .have l:z.cells=(p.zero.map ZV.e9).toArray:=by rw[<-KG];simpa using H
  rw[execOp,A];simp[Instr.alloc,zeroValue,typeInfo,U,X,newVar,newRow,newObj,l,kp,pure]
end
section
variable{P:bW}{tt:TT}
def Qr(tt:TT)(d:St)(t a:Y)(i:AV):ax (AV×Pr):=match S a d.mem,i with
 |some (.vec _ T xs),.c (.I _ k)=>if tN tt t T.n then ad (.c<|.Y a T.n (af k) 0,.and (.le 0 k)<|.lt k<|Z xs)else none
 |_,_=>none
def aiJ(di:cq P tt=ae){L}{i}{o:a4}{d:Y}(ho:L[i]? =ad o)(hg:o.guard=none)(hd:o.dst=ad d){n}(dz:d<n){t}{x y}(b6:o.op= .indexAddr t x y)
 {l}{A}{vy v}{p:Pr} (hx:l.ev x=ad (.c<|.X A)) (hy:l.ev y=ad vy) (B:Qr tt l t A vy=ad (v,p)) (hp:p) (M:Y):
  iA P n L i (cJ l x++cJ l y++fL l [A]) [(.s d,ad<|.v v)] M:=by
 refine sO ho hg hd dz _ v M ?_
 intro F q N g W a f u
 have r:a.eval x=g.γ A:=dA f l x _ hx<|λkx b7=>u kx ef
 have w:=dA f l y vy hy<|λkx b7=>u kx ef
 have z:=sM f l x _ hx<|λkx b7=>u kx ef
 unfold Qr at B
 split at B
 .rename_i E T xs O k hl;split at B
  .rename_i D;simp only[ar,bM]at B;obtain⟨rfl,rfl⟩:=B;have G:N (.m A)=ad (.b<|.vec E T xs):=u (.m A,.b<|.vec E T xs) qm;let ⟨e,i',I,R,S⟩:=AR di D;have Q:a.eval y= .int O k:=w;rcases f.cX A _ G with⟨_,V⟩|⟨b,J,vs,U,_⟩
   .subst V;simp[Pr.h]at hp;omega
   .refine⟨λj hj=>z j Qs,.pointer (ad ⟨b,af k*T.n,none⟩),?_,b,Z xs,J,U,az⟩;have H:execOp a.eval o=(do pure (.value<|<-AS t (a.eval x) (a.eval y))):=vA;rw[H,r,U,Q];have K:(0<=k/\k<(Z xs:Int)):=hp;simp only[AS,asIntOf,dn,run_underlying I,dx];simp[K,run_sizeOf R,S,lF]
  .simp at B
 .simp at B
def Qt(tt:TT)(g:St)(t f a d:Y)(i:AV):ax (AV×Pr):=match S f g.mem,i with
 |some (.vec _ T _),.c (.I _ k)=>if T.n=1/\tN tt t 1=ae then ad (.c<|.Y f 1 (a+af k) 0,.and (.le 0 k)<|.lt k d)else none
 |_,_=>none
def aiK(di:cq P tt=ae){ops}{i}{o:a4}{d:Y}(ho:ops[i]? =ad o)(hg:o.guard=none)(hd:o.dst=ad d){n}(dz:d<n){t}{x y}(b6:o.op= .indexAddr t x y)
 {u}{U H L}{vy v}{p:Pr} (hx:u.ev x=ad (.c<|.W U H L)) (hy:u.ev y=ad vy) (M:Qt tt u t U H L vy=ad (v,p)) (hp:p) (new:Y):
  iA P n ops i (cJ u x++cJ u y++fL u [U]) [(.s d,ad<|.v v)] new:=by
 refine sO ho hg hd dz _ v new ?_
 intro F h J g W a f A
 let ⟨S,c0,l,q,_⟩:=dA f u x _ hx<|λkx b7=>A kx ef
 have r:=dA f u y vy hy<|λkx b7=>A kx ef
 have w:=sM f u x _ hx<|λkx b7=>A kx ef
 unfold Qt at M
 split at M
 .rename_i E T xs N k hl;split at M
  .rename_i z;simp only[ar,bM]at M;obtain⟨rfl,rfl⟩:=M;have D:J (.m U)=ad (.b<|.vec E T xs):=A (.m U,.b<|.vec E T xs) qm;let ⟨e,V,G,O,R⟩:=AR di z.2;have X:a.eval y= .int N k:=r;rcases f.cX U _ D with⟨B,_⟩|⟨b,I,vs,B,_⟩
   .rw[B]at l;simp[cE]at l
   .rw[B]at l;simp only[cE,ar]at l;subst l;refine⟨λj hj=>w j Qs,.pointer (ad ⟨b,H+af k,none⟩),?_,b,Z xs,I,B,az⟩;have K:execOp a.eval o=(do pure (.value<|<-AS t (a.eval x) (a.eval y))):=vA;rw[K,q,X];have Q:(0<=k/\k<(L:Int)):=hp;simp only[AS,asIntOf,dn,run_underlying G,dx];simp[Q,run_sizeOf O,R,lF]
  .simp at M
 .simp at M
def Qu(tt:TT)(a:St)(t d:Y):ax AV:=match S d a.mem,S t tt with
 |some (.vec _ _ xs),ad f=>(match f.kind with| .sl _=>ad (.c<|.I .i64<|Z xs)|_=>none)
 |_,_=>none
def aiL(L:cq P tt=ae){u}{i}{o:a4}{d:Y}(ho:u[i]? =ad o)(hg:o.guard=none)(hd:o.dst=ad d){n}(M:d<n){t}{x}(Q:o.op= .call ⟨.builtin .len,#[x],#[t]⟩)
 {y}{k}{v}(hx:y.ev x=ad (.c<|.X k)) (l:Qu tt y t k=ad v) (A:Y):
  iA P n u i (cJ y x++fL y [k]) [(.s d,ad<|.v v)] A:=by
 refine sO ho hg hd M _ v A ?_
 intro F K j g W a f B
 have H:a.eval x=g.γ k:=dA f y x _ hx<|λkx b7=>B kx ef
 unfold Qu at l
 split at l
 .rename_i E T xs D hl q;split at l
  .rename_i e r;simp only[ar]at l;subst l;have U:j (.m k)=ad (.b<|.vec E T xs):=B (.m k,.b<|.vec E T xs) qm;have h:=(eS L q).kind;rw[r]at h;refine⟨rk,.int .i64<|Z xs,?_,J⟩;rw[execOp,Q];rcases f.cX k _ U with⟨p,w⟩|⟨b,z,vs,p,_⟩
   .subst w;simp[resolve,invoke,builtin,Builtin.len_,H,p,run_underlying h,goInt,kp,pure]
   .simp[resolve,invoke,builtin,Builtin.len_,H,p,run_underlying h,goInt,kp,pure]
  .simp at l
 .simp at l
def GR(T:ET):V C->ax T.den:=match T with
 | .int k=>λa=>(match a with|[.I d n]=>if k=d then ad n else none|_=>none)
 | .bool=>λa=>(match a with|[.B b]=>ad b|_=>none)
 |_=>λ_=>none
def aiM{T}{d}{x:T.den}(a:GR T d=ad x):d=av T x:=by
 cases T with
 |int k=>
  simp only[GR]at a
  split at a
  .split at a
   .rename_i e;subst e;simp at a;subst a;rfl
   .simp at a
  .simp at a
 |bool=>
  simp only[GR]at a
  split at a
  .simp at a;subst a;rfl
  .simp at a
 |_=>simp[GR]at a
def DD:∀(T:ET)(x:T.den),∀d∈av T x,kq d=ae
 | .int _,_,d,a=>by simp[av]at a;subst a;rfl
 | .bool,_,d,a=>by simp[av]at a;subst a;rfl
 | .z,_,d,a=>by simp[av]at a;rcases a with rfl|rfl<;>rfl
 | .q,_,d,a=>by simp[av]at a;rcases a with rfl|rfl|rfl|rfl<;>rfl
 | .sl _,_,d,a=>by simp[av]at a;subst a;rfl
 | .pr A B,x,d,a=>by
  simp only[av,bg]at a;rcases a with a|a
  .exact DD A _ d a
  .exact DD B _ d a
def aiN{l:Type}(vs f:V l) n i a(p:Z f=n)(m:(i+1)*n<=Z vs)(o:i≠a):c n ((c9 vs f<|i*n).drop<|a*n)=(aA (a*n) vs).take n:=by
 have s:(i+1)*n=i*n+n:=GS;apply List.ext_getElem?;intro k;rw[DE,DE];split
 .rename_i t;rw[tT,tT];unfold c9;rcases qf a i with d|d
  .have g:(a+1)*n<=i*n:=eC _ d;rw[gO,jn]at g;rw[l7,DF b8,AH O]
  .have g:(i+1)*n<=a*n:=eC _ O;rw[DG b8,tT];simp only[iq,eL];congr 1;omega
 .rfl
def aiO{d:Type}(vs a:V d) n i(g:Z a=n)(f:(i+1)*n<=Z vs):c n ((c9 vs a<|i*n).drop<|i*n)=a:=by have k:(i+1)*n=i*n+n:=GS;unfold c9;have:(c (i*n) vs).length=i*n:=b8;rw[l7,AY O,tU O,tS,wY O,iY O]
def Xk(di:cq P tt=ae){ops}{i}{o}(ho:ops[i]? =ad o)(hg:o.guard=none)(hd:o.dst=none){n}{t:TypeId}{x y}(b6:o.op= .store t x y)
 {A}{u m k}{U}{T:ET} {xs:V T.den} {vy:AV} (hx:A.ev x=ad (.c<|.Y u m k 0)) (hy:A.ev y=ad vy) (hl:S u A.mem=ad (.vec U T xs)) (hm:T.n=m) {ag:Bool} (KH:qj tt t=ad (m,ag)) {B:T.den} (Qv:kQ vy=ad (av T B)) (hk:k<Z xs) (new:Y):
  iA P n ops i (cJ A x++cJ A y++fL A [u]) [(.m u,ad<|.b<|.vec U T<|xs.set k B)] new:=by
 intro F kO Q I σ g W a K X d L hK
 have N:=dA d A x _ hx<|λkx b7=>L kx ef
 have R:=dA d A y vy hy<|λkx b7=>L kx ef
 have p:σ (.m u)=ad (.b<|.vec U T xs):=L (.m u,.b<|.vec U T xs) qm
 let ⟨b',l',c',s,hv⟩:=N
 rcases d.cX u _ p with⟨_,h0⟩|⟨b,cap,vs,M,hh,h,hle,q,hr,hN,hz⟩
 .subst h0;simp at hk
 rw[M]at s
 simp only[Value.slice.injEq,ar,Addr.mk.injEq,and_true]at s
 obtain⟨rfl,_,_⟩:=s
 let ⟨ws,KI,r⟩:=KF Qv R<|DD T B
 have w:cZ g.H T B ws:=AG T B ws r
 have D:Z ws=T.n:=cZ.length T _ _ w
 let ⟨_,⟨ti,oR,aiG⟩,_⟩:=KE di KH
 have C:(k+1)*T.n<=Z vs:=by rw[h];exact eC _ O
 have hk1:(k+1)*T.n=k*T.n+T.n:=GS
 subst hm
 have G:(Qq t (a.eval x)<|a.eval y).run P W= .ok () (jo W b (c9 vs ws<|k*T.n) U):=by rw[hv];simp only[Qq,Du,storeVar,dn,yE,dx,run_sizeOf oR,KI,jy];have:¬(ws.toArray.size≠ti.size):=b8;simp only[this,bN];have:=AW (P:=P) b ws W vs (k*T.n) 0 hh O<|r.one<|DD T B;simp only[jy]at this;simpa using this
 unfold wpOp
 simp only[ho,gV,hg,cj]
 refine .inl ?_
 unfold nK
 have hex:(execOp a.eval o).run P W= .ok .skip (jo W b (c9 vs ws<|k*T.n) U):=by rw[execOp,b6];simp[G,kp,pure]
 rw[hex]
 simp only[nL,hd,im]
 have hb:b<W.heap.size:=(gL.1 hh).1
 refine hK g _ a<|d.step (chg:=λj=>j=u) (g':=g) ⟨⟨cL.refl _,λ_ _=>rfl⟩,λ_ _ _=>rfl,AX d.sub hz,AZ,?_,J,J,J⟩ _ new X J d.defers (λ_ _=>rfl) ?_ ?_ ?_ ?_ ?_
 .intro k' yH gM;have:b≠k':=λB=>gM u J (by rw[M,B];rfl)
  exact yC this
 .intro j l;subst l;exact⟨yF,_,p⟩
 .intro t' v' ht;simp[aE]at ht
 .intro j bk l;simp only[aE]at l;split at l
  .rename_i v;simp only[Key.m.injEq]at v;subst v;simp only[ar,Info.b.injEq]at l;subst l;refine⟨.inr ⟨b,cap,c9 vs ws<|k*T.n,by simpa using M,yB hb,?_,by simpa using hle,by simpa using q,λj l=>?_,hN,hz⟩,.inl ⟨d.ew _ _ p,_,p⟩⟩
   .rw[yD _ _ _ O];exact h
   .simp only[ru]at l;rw[List.getElem_set];split
    .rename_i v;subst v;rw[aiO vs ws T.n k D C];exact w
    .rename_i v;rw[aiN vs ws T.n k j D C v];exact hr j l
  .simp at l
 .intro k' z f;simp only[aE]at f;split at f
  .simp only[ar]at f;subst f;intro j l;simp[Info.ak,aG.ak]at l
  .simp at f
 .intro j z f;simp only[aE]at f;split at f
  .rename_i v;simp only[Key.m.injEq]at v;subst v;exact .inl<|d.ew _ _ p
  .simp at f
end
section
variable{P:bW}{tt:TT}{n:Y}
def A2(a:V (Y×Y))(d:St):V C->V (Y×eI)->ax (V C)
 |cs,[]=>ad cs
 |cs,(i,x)::f=>(match a[i]?,d.ev x with
  |some (off,sz),ad v=>(match kQ v with
   |some us=>if Z us=sz/\off+sz<=Z cs/\us.all kq=ae then A2 a d (c9 cs us off) f else none
   |none=>none)
  |_,_=>none)
def aiP us:∀(vs:V aV)(a k:Y),a+k+Z us<=Z vs->(us.zipIdx k).foldl (λ(d:Array aV)(p:aV×Y)=>d.setIfInBounds (a+p.2) p.1) vs.toArray=(c9 vs us<|a+k).toArray:=by
 induction us with
 |nil=>intro vs a k _;simp[c9]
 |cons u us f=>
  intro vs a k h
  simp only[ik]at h
  simp only[List.zipIdx_cons,KJ]
  have:vs.toArray.setIfInBounds (a+k) u=(vs.set (a+k) u).toArray:=az
  rw[this,f (vs.set (a+k) u) a (k+1) b8]
  rw[(O:a+(k+1)=a+k+1),Xh _ _ _ _ O]
def GU{iz:fj}{f:Y->Prop}{σ:Kn}{g:Gh}{W:cQ}{a:Act}(A:bx iz f σ g W a)(M:St)(pl:V (Y×Y))(l:Y->ax (Y×Y))(Q:∀i x,pl[i]? =ad x->l i=ad x):
  ∀(d:V (Y×eI))(u m:V C)(vs:V aV),A2 pl M u d=ad m->aW g u vs->(∀p∈d,∀kx∈cJ M p.2,σ kx.1=ad kx.2)->(∀y∈bV u,f y)->
   ∃L:V aV,Instr.fill l vs.toArray (d.map λp=>(p.1,a.eval p.2))=ad L.toArray/\aW g m L/\Z L=Z vs/\∀y∈bV m,f y
 |[],u,m,vs,s,hr,_,hm=>by simp only[A2,ar]at s;subst s;exact⟨vs,J,hr,J,hm⟩
 | (i,x)::d,u,m,vs,s,hr,B,hm=>by
  simp only[A2]at s;split at s
  .rename_i k sz v hp hv;split at s
   .rename_i L o;split at s
    .rename_i H;let ⟨h1,h2,h3⟩:=H;have T:=dA A M x v hv<|B (i,x) az;have U:=sM A M x v hv<|B (i,x) az;let ⟨ws,b,X⟩:=KF o T<|λc j=>jS.1 h3 c j;have I:=hr.length;have N:=X.length;have K:∀y∈bV (c9 u L k),f y:=by
      intro y r;rcases GQ _ _ _ y r with A|A
      .exact hm y A
      .refine U y ?_;cases v with
       |c q=>simp only[kQ,ar]at o;subst o;simpa[bV,AV.ak]using A
       |a q=>simp only[kQ,ar]at o;subst o;exact A
       |t q=>simp[kQ]at o
     let ⟨R,z,D,E,G⟩:=GU A M pl l Q d (c9 u L k) m (c9 vs ws k) s (hr.c9 X k) (λp hp=>B p<|by simp[hp]) K;refine⟨R,?_,D,by rw[E,yD _ _ _ O],G⟩;simp only[il,Instr.fill,Q i _ hp,b];have j:¬((ws.toArray.size≠sz||decide (k+ws.toArray.size>vs.toArray.size))=ae):=by simp;omega
     rw[w (by simpa using j)];have:=aiP ws vs k 0 O;simp only[jy]at this;have e:ws.toArray.zipIdx.foldl (λ(u:Array aV)(p:aV×Y)=>u.setIfInBounds (k+p.2) p.1) vs.toArray=(c9 vs ws k).toArray:=by rw[<-this];simp
     rw[<-z];congr 1
    .simp at s
   .simp at s
  .simp at s
def KK(a:TI):V (Y×Y):=a.fields.map λf=>(f.1,f.2.1)
def Qw(tt:TT)(g:St)(t:Y)(d:V (Y×eI)):ax AV:=match S t tt with
 |some f=>(match f.kind with
  | .st=>(match A2 (KK f) g (f.zero.map ZV.qi) d with|some cs=>ad (.a cs)|none=>none)
  |_=>none)
 |none=>none
def KL(a:V ZV):bV (a.map ZV.qi)=[]:=by
 induction a with
 |nil=>rfl
 |cons z a d=>simp only[il,bV,d];cases z<;>rfl
def aiQ(s:True){g}{a:Array Field}(m:sL P g.fields a.toList=ae) W:∃gW:Array (Y×Y),(a.mapM λf=>(do pure (f.offset,<-sizeOf f.type):Go.Sem (Y×Y))).run P W= .ok gW W/\∀(i:Y)(x:Y×Y),(KK g)[i]? =ad x->gW[i]? =ad x:=by
 have o:∀(l:V (Y×Y×Bool))(a:V Field),sL P l a=ae->(a.mapM λf=>(do pure (f.offset,<-sizeOf f.type):Go.Sem (Y×Y))).run P W= .ok (l.map λf=>(f.1,f.2.1)) W:=by
  intro l;induction l with
  |nil=>intro a h;cases a with
   |nil=>simp[pure]
   |cons f a=>simp[sL]at h
  |cons p l t=>
   intro a h
   let ⟨off,sz,B⟩:=p
   cases a with
   |nil=>simp[sL]at h
   |cons f a=>
    let ⟨C,d,u,⟨i,v,y⟩,_⟩:=Kt h (k:=0) J
    simp only[m9,ar]at d
    subst d
    simp only[sL,cz]at h
    have:=t a h.2
    rw[GV]
    simp only[dn,run_sizeOf v,dx,yE,this,y,u,il]
 refine⟨(KK g).toArray,?_,λi x h=>et⟩;have A:a.mapM (λf=>(do pure (f.offset,<-sizeOf f.type):Go.Sem (Y×Y)))=Functor.map List.toArray (a.toList.mapM<|λf=>(do pure (f.offset,<-sizeOf f.type):Go.Sem (Y×Y))):=by simp[Array.mapM_eq_mapM_toList]
 rw[A];simp only[map_eq_pure_bind,dn,o g.fields a.toList m,dx];rfl
def aiR(m:cq P tt=ae){u}{i}{o:a4}{d:Y}(ho:u[i]? =ad o)(hg:o.guard=none)(hd:o.dst=ad d){n}(L:d<n){t}{f}(b6:o.op= .build t f)
 {M}{v}(k:Qw tt M t f.toList=ad v) new:iA P n u i (oo M o.op) [(.s d,ad<|.v v)] new:=by
 refine sO ho hg hd L _ v new ?_
 intro F Q N g W a y T
 unfold Qw at k
 split at k
 .rename_i K A;split at k
  .rename_i w;split at k
   .rename_i D U;simp only[ar]at k;subst k;have r:=(eS m A).kind;rw[w]at r;let ⟨fs,hu,X⟩:=r;let ⟨inf,vC,_,_,z,hz,wZ⟩:=(eS m A).info;let ⟨gW,B,C⟩:=aiQ (P:=P) h X W;let ⟨us,b,iZ,E,c⟩:=GU y M (KK K) (gW[·]?) C f.toList (K.zero.map ZV.qi) D (K.zero.map ZV.e9) U (yG g _) (λp G kx e=>T kx<|by rw[b6];refine jb.2 ⟨p.2,?_,e⟩;simp only[Op.operands];simp only[iJ];exact⟨p,G,J⟩) (by rw[KL];simp);refine⟨c,.agg us.toArray,?_,us,J,iZ⟩;have H:z.cells=(K.zero.map ZV.e9).toArray:=DH;have l:execOp a.eval o=(do pure (.value<|<-GW t (f.map λ(i,x)=>(i,a.eval x)))):=vA;have j:(f.map λ(i,x)=>(i,a.eval x)).toList=f.toList.map λp=>(p.1,a.eval p.2):=az
    have q:(zeroValue t).run P W= .ok z W:=Qx;have I:(GW t<|f.map λ(i,x)=>(i,a.eval x)).run P W= .ok (.agg us.toArray) W:=by unfold GW;rw[dn,q];simp only[dx];rw[dn,run_underlying hu];simp only[dx];rw[dn,B];simp only[dx,j,H,b];rfl
    rw[l,dn,I];rfl
   .simp at k
  .simp at k
 .simp at k
end
section
variable{P:bW}{tt:TT}
def eD st x:∀kx∈cJ st x,st.kn kx.1=ad kx.2:=by
 intro kx h;cases x with
 |tmp t=>
  simp only[cJ]at h
  split at h
  .rename_i v a;simp only[iK]at h;subst h;simp[St.kn,a]
  .simp at h
 |_=>simp[cJ]at h
def kr st ids:∀kx∈fL st ids,st.kn kx.1=ad kx.2:=by
 intro kx h;let ⟨id,_,h⟩:=jb.1 h;split at h
 .rename_i b a;simp only[iK]at h;subst h;simp[St.kn,a]
 .simp at h
def rv st(op:Op):∀kx∈oo st op,st.kn kx.1=ad kx.2:=by intro kx h;let ⟨x,_,h⟩:=jb.1 h;exact eD st x kx h
def St.put(a:St)(d:Y)(x:AV):St:={a with sl:=(d,x)::a.sl}
def St.pm(a:St)(d:Y)(f:aG):St:={a with mem:=(d,f)::a.mem}
def ry{a:Type}(t:Y):V (Y×a)->V (Y×a)
 |[]=>[]
 | (k,x)::d=>if k=t then ry t d else(k,x)::ry t d
def St.del(a:St)(d:Y):St:={a with sl:=ry d a.sl}
def A3{g:Type}(t k:Y):∀l:V (Y×g),S k (ry t l)=if t=k then none else S k l
 |[]=>by simp[ry,S]
 | (i,x)::f=>by
  simp only[ry];split
  .rename_i a;subst a;rw[A3 i k f];split
   .rfl
   .rename_i d;simp[S,d]
  .rename_i a;simp only[S];split
   .rename_i m;subst m;rw[w (λd=>a d.symm)]
   .exact A3 t k f
def oS(a:St) d x:(a.put d x).kn=bs a.kn [(.s d,ad<|.v x)]:=by
 funext k;cases k with
 |s t=>
  by_cases e:d=t
  .simp[St.kn,St.put,S,bs,aE,e]
  .simp[St.kn,St.put,S,bs,aE,e]
 |m id=>simp[St.kn,St.put,bs,aE]
def Qy(a:St) d x:(a.pm d x).kn=bs a.kn [(.m d,ad<|.b x)]:=by
 funext k;cases k with
 |s t=>simp[St.kn,St.pm,bs,aE]
 |m id=>
  by_cases e:d=id
  .simp[St.kn,St.pm,S,bs,aE,e]
  .simp[St.kn,St.pm,S,bs,aE,e]
def DI(a:St) d id x f:((a.pm id f).put d x).kn=bs a.kn [(.s d,ad<|.v x),(.m id,ad<|.b f)]:=by
 funext k;cases k with
 |s t=>
  by_cases e:d=t
  .simp[St.kn,St.put,St.pm,S,bs,aE,e]
  .simp[St.kn,St.put,St.pm,S,bs,aE,e]
 |m j=>
  by_cases e:id=j
  .simp[St.kn,St.put,St.pm,S,bs,aE,e]
  .simp[St.kn,St.put,St.pm,S,bs,aE,e]
def Xl(a:St) d:(a.del d).kn=bs a.kn [(.s d,none)]:=by
 funext k;cases k with
 |s t=>
  by_cases e:d=t
  .simp[St.kn,St.del,A3,bs,aE,e]
  .simp[St.kn,St.del,A3,bs,aE,e]
 |m id=>simp[St.kn,St.del,bs,aE]
abbrev Ks:=V Key×V Key
def bK:V eI->V Key
 |[]=>[]
 | .tmp t::a=> .s t::bK a
 |_::a=>bK a
def cV:V Y->V Key
 |[]=>[]
 |id::a=> .m id::cV a
def eO(d:St):∀(xs:V eI),∀k∈dI (xs.flatMap<|cJ d),k∈bK xs
 |[],k,a=>by simp[dI]at a
 |x::xs,k,a=>by
  simp only[dI,lG,fM,bg]at a;rcases a with a|a
  .cases x with
   |tmp t=>
    simp only[cJ]at a
    split at a
    .simp at a;subst a;simp[bK]
    .simp at a
   |_=>simp[cJ]at a
  .have:=eO d xs k a;cases x<;>simp[bK,this]
def ku(f:St):∀(d:V Y),∀k∈dI (fL f d),k∈cV d
 |[],k,a=>by simp[dI,fL]at a
 |id::d,k,a=>by
  simp only[dI,fL,lG,fM,bg]at a;rcases a with a|a
  .split at a
   .simp at a;subst a;simp[cV]
   .simp at a
  .have:=ku f d k a;simp[cV,this]
def DJ(tt:TT)(n a:Y)(i:ax Y)(op:Op):St->ax (St×Pr×Ks)
 |⟨sl,mem,nx,gd⟩=>match i,op with
 |some d,.load t x=>if d<n then(match St.ev ⟨sl,mem,nx,gd⟩ x with
   |some v=>(match GM tt ⟨sl,mem,nx,gd⟩ t v with
    |some (y,p,ids)=>ad (⟨(d,y)::sl,mem,nx,gd⟩,p,(bK [x]++cV ids,[.s d]))
    |none=>none)
   |none=>none)else none
 |none,.store t x y=>(match St.ev ⟨sl,mem,nx,gd⟩ x,St.ev ⟨sl,mem,nx,gd⟩ y with
   |some (.c<|.Y id m k 0),ad f=>(match S id mem,qj tt t,kQ f with
    |some (.vec g T xs),ad (sz,_),ad cs=>if T.n=m/\sz=m then(match GR T cs with
     |some o=>ad (⟨sl,(id,.vec g T<|xs.set k o)::mem,nx,gd⟩,.AP k<|Z xs,(bK [x,y]++cV [id],[.m id]))
     |none=>none)else none
    |_,_,_=>none)
   |some A,ad f=>(match GP tt ⟨sl,mem,nx,gd⟩ t A f with
    |some (id,B)=>ad (⟨sl,(id,B)::mem,nx,gd⟩,.t,(bK [x,y]++cV [id],[.m id]))
    |none=>none)
   |_,_=>none)
 |some d,.indexAddr t x y=>if d<n then(match St.ev ⟨sl,mem,nx,gd⟩ x,St.ev ⟨sl,mem,nx,gd⟩ y with
   |some (.c<|.X id),ad f=>(match Qr tt ⟨sl,mem,nx,gd⟩ t id f with
    |some (v,p)=>ad (⟨(d,v)::sl,mem,nx,gd⟩,p,(bK [x,y]++cV [id],[.s d]))
    |none=>none)
   |some (.c<|.W id off len),ad f=>(match Qt tt ⟨sl,mem,nx,gd⟩ t id off len f with
    |some (v,p)=>ad (⟨(d,v)::sl,mem,nx,gd⟩,p,(bK [x,y]++cV [id],[.s d]))
    |none=>none)
   |some _,ad _=>(match tO tt ⟨sl,mem,nx,gd⟩ (.indexAddr t x y)with
    |some (v,p)=>ad (⟨(d,v)::sl,mem,nx,gd⟩,p,(bK [x,y],[.s d]))
    |none=>none)
   |_,_=>none)else none
 |some d,.build t parts=>if d<n then(match Qw tt ⟨sl,mem,nx,gd⟩ t parts.toList with
   |some v=>ad (⟨(d,v)::sl,mem,nx,gd⟩,.t,(bK (Op.build t parts).operands.toList,[.s d]))
   |none=>none)else none
 |some d,.call ⟨.builtin .len,args,l⟩=>if d<n then(match args.toList,l.toList with
   |[x],[t]=>(match St.ev ⟨sl,mem,nx,gd⟩ x with
    |some (.c<|.X id)=>(match Qu tt ⟨sl,mem,nx,gd⟩ t id with
     |some v=>ad (⟨(d,v)::sl,mem,nx,gd⟩,.t,(bK [x]++cV [id],[.s d]))
     |none=>none)
    |some v=>(match GC tt t v with
     |some u=>ad (⟨(d,u)::sl,mem,nx,gd⟩,.t,(bK [x],[.s d]))
     |none=>none)
    |none=>none)
   |_,_=>none)else none
 |some d,.box g x=>if d<n then(match St.ev ⟨sl,mem,nx,gd⟩ x with
   |some v=>(match kQ v with
    |some cs=>if cs.all kq=ae then ad (⟨(d,.c<|.P a 0)::sl,(a,.box g 0 cs)::mem,nx,gd⟩,.t,(bK [x],[.s d,.m a]))else none
    |none=>none)
   |none=>none)else none
 |some d,.alloc g=>if d<n then(match S g tt with
   |some H=>ad (⟨(d,.c<|.P a 0)::sl,(a,.box g 0<|H.zero.map ZV.qi)::mem,nx,gd⟩,.t,([],[.s d,.m a]))
   |none=>none)else none
 |some d,op=>if d<n then(match tO tt ⟨sl,mem,nx,gd⟩ op with
   |some (x,p)=>ad (⟨(d,x)::sl,mem,nx,gd⟩,p,(bK op.operands.toList,[.s d]))
   |none=>none)else none
 |none,_=>none
def kT(P:bW)(n:Y)(a:Array a4)(i:Y)(m d:St)(f:Y)(o:Ks):Prop:=
 ∃g l,iA P n a i g l f/\(∀kx∈g,m.kn kx.1=ad kx.2)/\d.kn=bs m.kn l/\(∀k∈dI g,k∈o.1)/\∀k∈fW l,k∈o.2
def KM(s:cq P tt=ae){n f}{ops}{i}{o}(L:ops[i]? =ad o)(M:o.guard=none){st st'}{p}{ks}
  (h:DJ tt n f o.dst o.op st=ad (st',p,ks)) (hp:p):kT P n ops i st st' f ks:=by
 let ⟨sl,mem,nx,gd⟩:=st
 simp only[DJ]at h
 split at h
 .rename_i d t x A a;split at h
  .rename_i g;split at h
   .rename_i v c;split at h
    .rename_i y q j z;simp only[ar,bM]at h;obtain⟨rfl,rfl,rfl⟩:=h;refine⟨_,_,Xf s L M A g a c z hp f,?_,oS ⟨sl,mem,nx,gd⟩ d y,?_,λk hk=>jG⟩
     .intro kx B;rcases bg.1 B with h|h
      .exact eD _ x kx h
      .exact kr _ j kx h
     .intro k hk;simp only[dI,fM,bg]at hk;rcases hk with h|h
      .exact eH _<|eO ⟨sl,mem,nx,gd⟩ [x] k KN
      .exact gD _<|ku ⟨sl,mem,nx,gd⟩ j k h
    .simp at h
   .simp at h
  .simp at h
 .rename_i t x y A a;have K:∀l k,k∈dI (cJ ⟨sl,mem,nx,gd⟩ x++cJ ⟨sl,mem,nx,gd⟩ y++fL ⟨sl,mem,nx,gd⟩ [l])->k∈bK [x,y]++cV [l]:=by
   intro l k hk;simp only[dI,fM,bg]at hk;rcases hk with(h|h)|h
   .exact eH _<|eO ⟨sl,mem,nx,gd⟩ [x,y] k tV
   .exact eH _<|eO ⟨sl,mem,nx,gd⟩ [x,y] k vD
   .exact gD _<|ku ⟨sl,mem,nx,gd⟩ [l] k h
  have H:∀l,∀kx∈cJ ⟨sl,mem,nx,gd⟩ x++cJ ⟨sl,mem,nx,gd⟩ y++fL ⟨sl,mem,nx,gd⟩ [l],St.kn ⟨sl,mem,nx,gd⟩ kx.1=ad kx.2:=by
   intro l kx B;rcases bg.1 B with h|h
   .rcases bg.1 h with h|h
    .exact eD _ x kx h
    .exact eD _ y kx h
   .exact kr _ [l] kx h
  split at h
  .rename_i l m k D C Q;split at h
   .rename_i E T xs sz ag O z F U;split at h
    .rename_i W;split at h
     .rename_i e X;simp only[ar,bM]at h;obtain⟨rfl,rfl,rfl⟩:=h;let ⟨R,h2⟩:=W;subst h2;have r:=aiM X;subst r;exact⟨_,_,Xk s L M A a C Q z R F U hp f,H l,Qy ⟨sl,mem,nx,gd⟩ l _,K l,λk hk=>jG⟩
     .simp at h
    .simp at h
   .simp at h
  .rename_i vx D C Q;split at h
   .rename_i l S V;simp only[ar,bM]at h;obtain⟨rfl,rfl,rfl⟩:=h;exact⟨_,_,Xi s L M A a C Q V f,H l,Qy ⟨sl,mem,nx,gd⟩ l S,K l,λk hk=>jG⟩
   .simp at h
  .simp at h
 .rename_i d t x y A a;split at h
  .rename_i g;split at h
   .rename_i l D C Q;split at h
    .rename_i v q X;simp only[ar,bM]at h;obtain⟨rfl,rfl,rfl⟩:=h;refine⟨_,_,aiJ s L M A g a C Q X hp f,?_,oS ⟨sl,mem,nx,gd⟩ d _,?_,λk hk=>jG⟩
     .intro kx B;rcases bg.1 B with h|h
      .rcases bg.1 h with h|h
       .exact eD _ x kx h
       .exact eD _ y kx h
      .exact kr _ [l] kx h
     .intro k hk;simp only[dI,fM,bg]at hk;rcases hk with(h|h)|h
      .exact eH _<|eO ⟨sl,mem,nx,gd⟩ [x,y] k tV
      .exact eH _<|eO ⟨sl,mem,nx,gd⟩ [x,y] k vD
      .exact gD _<|ku ⟨sl,mem,nx,gd⟩ [l] k h
    .simp at h
   .rename_i l Y Z D C Q;split at h
    .rename_i v q X;simp only[ar,bM]at h;obtain⟨rfl,rfl,rfl⟩:=h;refine⟨_,_,aiK s L M A g a C Q X hp f,?_,oS ⟨sl,mem,nx,gd⟩ d _,?_,λk hk=>jG⟩
     .intro kx B;rcases bg.1 B with h|h
      .rcases bg.1 h with h|h
       .exact eD _ x kx h
       .exact eD _ y kx h
      .exact kr _ [l] kx h
     .intro k hk;simp only[dI,fM,bg]at hk;rcases hk with(h|h)|h
      .exact eH _<|eO ⟨sl,mem,nx,gd⟩ [x,y] k tV
      .exact eH _<|eO ⟨sl,mem,nx,gd⟩ [x,y] k vD
      .exact gD _<|ku ⟨sl,mem,nx,gd⟩ [l] k h
    .simp at h
   .split at h
    .rename_i v q C;simp only[ar,bM]at h;obtain⟨rfl,rfl,rfl⟩:=h;refine⟨_,_,KC s L M A g (by rw[a];exact C) hp f,rv _ _,oS ⟨sl,mem,nx,gd⟩ _ _,λk hk=>?_,λk hk=>jG⟩;rw[a]at hk;exact eO ⟨sl,mem,nx,gd⟩ _ k hk
    .simp at h
   .simp at h
  .simp at h
 .rename_i d t G A a;split at h
  .rename_i g;split at h
   .rename_i v c;simp only[ar,bM]at h;obtain⟨rfl,rfl,rfl⟩:=h;refine⟨_,_,aiR s L M A g a c f,rv _ _,oS ⟨sl,mem,nx,gd⟩ _ _,λk hk=>?_,λk hk=>jG⟩;rw[a]at hk;exact eO ⟨sl,mem,nx,gd⟩ _ k hk
   .simp at h
  .simp at h
 .rename_i d args I A a;split at h
  .rename_i g;split at h
   .rename_i x t ha ht;have b:args= #[x]:=GK;have w:I= #[t]:=Ql;subst b w;split at h
    .rename_i l C;split at h
     .rename_i v X;simp only[ar,bM]at h;obtain⟨rfl,rfl,rfl⟩:=h;refine⟨_,_,aiL s L M A g a C X f,?_,oS ⟨sl,mem,nx,gd⟩ d _,?_,λk hk=>jG⟩
      .intro kx B;rcases bg.1 B with h|h
       .exact eD _ x kx h
       .exact kr _ [l] kx h
      .intro k hk;simp only[dI,fM,bg]at hk;rcases hk with h|h
       .exact eH _<|eO ⟨sl,mem,nx,gd⟩ [x] k KN
       .exact gD _<|ku ⟨sl,mem,nx,gd⟩ [l] k h
     .simp at h
    .rename_i v C;split at h
     .rename_i u hu;simp only[ar,bM]at h;obtain⟨rfl,rfl,rfl⟩:=h;refine⟨_,_,KC s L M A g (x:=u) (p:= .t) (st:=⟨sl,mem,nx,gd⟩) (by rw[a];simp[tO,C,hu]) aX f,rv _ _,oS ⟨sl,mem,nx,gd⟩ _ _,λk hk=>?_,λk hk=>jG⟩;rw[a]at hk;exact eO ⟨sl,mem,nx,gd⟩ [x] k hk
     .simp at h
    .simp at h
   .simp at h
  .simp at h
 .rename_i d E x A a;split at h
  .rename_i g;split at h
   .rename_i v c;split at h
    .rename_i O U;split at h
     .rename_i J;simp only[ar,bM]at h;obtain⟨rfl,rfl,rfl⟩:=h;exact⟨_,_,aiH L M A g a c U J f,eD _ x,DI ⟨sl,mem,nx,gd⟩ d f _ _,λk hk=>eO ⟨sl,mem,nx,gd⟩ [x] k KO,λk hk=>jG⟩
     .simp at h
    .simp at h
   .simp at h
  .simp at h
 .rename_i d E A a;split at h
  .rename_i g;split at h
   .rename_i ti N;simp only[ar,bM]at h;obtain⟨rfl,rfl,rfl⟩:=h;exact⟨_,_,aiI s L M A g a N f,az,DI ⟨sl,mem,nx,gd⟩ d f _ _,by simp[dI],λk hk=>jG⟩
   .simp at h
  .simp at h
 .rename_i d _ A _ _ _ _ _ _;split at h
  .rename_i g;split at h
   .rename_i x q C;simp only[ar,bM]at h;obtain⟨rfl,rfl,rfl⟩:=h;exact⟨_,_,KC s L M A g C hp f,rv _ _,oS ⟨sl,mem,nx,gd⟩ _ x,λk hk=>eO ⟨sl,mem,nx,gd⟩ _ k hk,λk hk=>jG⟩
   .simp at h
  .simp at h
 .simp at h
def oT(a:V a4)(d:Y):ax Y:=match a[d]? with
 |some o=>o.dst
 |none=>none
def DK{d}{l f}(i:oT d.toList l=ad f){g}{a:Act}{m}(s:bu g (.c<|.B m) (a.tmps.getD f undef)):yielded d a.tmps l=ad m:=by
 have n:a.tmps.getD f undef= .bool m:=s;have:(d[l]?).bind (·.dst)=ad f:=by
  unfold oT at i;rw[DL]at i;cases p:d[l]? with
  |none=>rw[p]at i;simp at i
  |some t=>rw[p]at i;simpa using i
 unfold yielded;rw[this];rcases qf f a.tmps.size with k|o
 .have:a.tmps[f]? =ad (.bool m):=by rw[Qz k];rw[nM,Qz k]at n;simpa using n
  simp[this]
 .exfalso;rw[nM,Qb o]at n;simp[undef]at n
def Xm{n u}{d}{i}{o}(ho:d[i]? =ad o){na}{f x}(hg:o.guard=ad (na,f)){t}(hj:oT d.toList na=ad t){H y}(hb:S t H.sl=ad (.c<|.B x))(L:x=f){M}
  (m:kT P n (#[{o with guard:=none}]) 0 H y u M):kT P n d i H y u (.s t::M.1,M.2):=by
 let ⟨rd,wr,z,C,T,U,X⟩:=m
 refine⟨(.s t,.v<|.c<|.B x)::rd,wr,?_,?_,T,λk r=>?_,X⟩
 .intro F e Q p D g W a K A l w E;have q:=z F e Q p D g W a K A l (λkx b7=>w kx ef) E;have G:=l.eY t (.c<|.B x)<|w (.s t,.v<|.c<|.B x) az;have I:gV o (yielded d a.tmps)=ae:=by simp only[gV,hg,DK hj G,L,beq_self_eq_true]
  unfold wpOp at q⊢;simp only[ho,I,cj];simp only[vr,m9,gV,cj]at q;exact q
 .intro kx b7;rcases b9.1 b7 with rfl|m
  .simp[St.kn,hb]
  .exact C kx m
 .simp only[dI,il,b9]at r;rcases r with m|m
  .simp[m]
  .exact ko _<|U k m
def aiS{n A}{m}{i}{o:a4}(ho:m[i]? =ad o){na}{l p}(hg:o.guard=ad (na,l)){x}(hj:oT m.toList na=ad x){L}(hb:S x L.sl=ad (.c<|.B p))(M:p= !l)
  {d:Y} (hd:o.dst=ad d):kT P n m i L (L.del d) A ([.s x],[.s d]):=by
 refine⟨[(.s x,.v<|.c<|.B p)],[(.s d,none)],?_,?_,Xl L d,λk hk=>KO,λk hk=>jG⟩
 .intro F X Q T E g W a K C f q r;have w:=f.eY x (.c<|.B p)<|q (.s x,.v<|.c<|.B p) az;have z:gV o (yielded m a.tmps)=ah:=by simp only[gV,hg,DK hj w,M];cases l<;>rfl
  unfold wpOp;simp only[ho,z,iB,bN,hd];refine r g W _<|f.step (chg:=λ_=>False) (g':=g) (W':=W) ⟨⟨cL.refl _,λ_ _=>rfl⟩,λ_ _ _=>rfl,f.sub,aO _,λ_ _ _=>rfl,J,J,J⟩ _ A C mE f.defers ?_ (λ_ h=>h.elim) ?_ ?_ ?_ ?_
  .intro t ht;have U:d≠t:=qn;simp[im,lE U]
  .intro t u ht;simp only[aE]at ht;split at ht<;>simp at ht
  .intro D p ht;simp[aE]at ht
  .intro k y ht;simp only[aE]at ht;split at ht<;>simp at ht
  .intro D y ht;simp[aE]at ht
 .intro kx H;simp only[iK]at H;subst H;simp[St.kn,hb]
def aiT{n A}{m}{i}{o:a4}(ho:m[i]? =ad o){na}{l p}(hg:o.guard=ad (na,l)){x}(hj:oT m.toList na=ad x){M}(hb:S x M.sl=ad (.c<|.B p))(T:p= !l)
  {d:Y} (hd:o.dst=ad d):kT P n m i M (M.put d<|.c .any) A ([.s x],[.s d]):=by
 refine⟨[(.s x,.v<|.c<|.B p)],[(.s d,ad<|.v<|.c .any)],?_,?_,oS M d _,λk hk=>KO,λk hk=>jG⟩
 .intro F w Q U N g W a K H f z D;have E:=f.eY x (.c<|.B p)<|z (.s x,.v<|.c<|.B p) az;have G:gV o (yielded m a.tmps)=ah:=by simp only[gV,hg,DK hj E,T];cases l<;>rfl
  unfold wpOp;simp only[ho,G,iB,bN,hd];refine D g W _<|f.step (chg:=λ_=>False) (g':=g) (W':=W) ⟨⟨cL.refl _,λ_ _=>rfl⟩,λ_ _ _=>rfl,f.sub,aO _,λ_ _ _=>rfl,J,J,J⟩ _ A H mE f.defers ?_ (λ_ I=>I.elim) ?_ ?_ ?_ ?_
  .intro t ht;have X:d≠t:=qn;simp[im,lE X]
  .intro t u ht;simp only[aE]at ht;split at ht
   .simp only[ar,Info.v.injEq]at ht;subst ht;exact h
   .simp at ht
  .intro r p ht;simp[aE]at ht
  .intro k y ht;simp only[aE]at ht;split at ht
   .simp only[ar]at ht;subst ht;intro r q;simp[Info.ak,AV.ak,C.ak]at q
   .simp at ht
  .intro r y ht;simp[aE]at ht
 .intro kx L;simp only[iK]at L;subst L;simp[St.kn,hb]
def KP(tt:TT)(n f:Y)(g:V a4)(o:a4)(a:St):ax (St×Pr×Ks):=match o.guard with
 |none=>DJ tt n f o.dst o.op a
 |some (j,want)=>(match oT g j with
  |some i=>(match S i a.gd,S i a.sl with
   |some dec,ad (.c<|.B b)=>if dec=want then(match DJ tt n f o.dst o.op a with
     |some (k,p,l)=>ad (k,.an (.tM b want) p,(.s i::l.1,l.2))
     |none=>none)
    else(match o.dst with
     |some d=>ad (⟨(d,.c .any)::a.sl,a.mem,a.nx,a.gd⟩,.tM b<|!want,([.s i],[.s d]))
     |none=>none)
   |_,_=>none)
  |none=>none)
def aiU(k:cq P tt=ae){n l}{f}{i}{o}(t:f[i]? =ad o){u m}{p}{v}
  (a:KP tt n l f.toList o u=ad (m,p,v)) (g:p):kT P n f i u m l v:=by
 unfold KP at a
 split at a
 .rename_i s;exact KM k t s a g
 .rename_i j x s;split at a
  .rename_i M y;split at a
   .rename_i C b _ A;split at a
    .split at a
     .rename_i B q H K;simp only[ar,bM]at a;obtain⟨rfl,rfl,rfl⟩:=a;have g:=Pr.Gz g;exact Xm t s y A g.1<|KM k (o:={o with guard:=none}) az J K g.2
     .simp at a
    .split at a
     .rename_i d L;simp only[ar,bM]at a;obtain⟨rfl,rfl,rfl⟩:=a;exact aiT t s y A g L
     .simp at a
   .simp at a
  .simp at a
end
section
variable{P:bW}{tt:TT}
def mask(l:V Edge)(a:V Y):Y:=l.foldl (λs e=>if tL .any e then s|||2^e.on|||E a e.on 0 else s) 0
def qo:V a4->V Y->V Y
 |[],acc=>acc
 |o::os,acc=>qo os<|acc++[mask o.after.toList acc]
def DM:V a4->Y->Bool
 |[],_=>ae
 |o::os,i=>o.after.toList.all (λa=> !tL .any a||decide (a.on<i))&&DM os (i+1)
def GX(a d:V Key):Bool:=a.any λk=>d.any λf=>k=f
def rz(a d:Ks):Bool:=GX a.2 d.2||GX a.2 d.1||GX a.1 d.2
def A4(m:Y)(d:Ks):V Ks->Y->Bool
 |[],_=>ae
 |a::l,i=>(!rz a d||oU m i)&&A4 m d l (i+1)
def w5:V Y->V Ks->V Ks->Bool
 |m::ms,a::d,done=>A4 m a done 0&&w5 ms d (done++[a])
 |[],[],_=>ae
 |_,_,_=>ah
def sS(a:V a4)(d:V Ks):Bool:=DM a 0&&w5 (qo a []) d []
def aiV{l}{f}{g}(a:(mask l f).testBit g=ae):∃d∈l,tL .any d=ae/\(d.on=g\/(E f d.on 0).testBit g=ae):=by
 unfold mask at a;have i:∀(l:V Edge)(s:Y),oU (l.foldl (λs d=>if tL .any d then s|||2^d.on|||E f d.on 0 else s) s) g=ae->
   oU s g=ae\/∃d∈l,tL .any d=ae/\(d.on=g\/(E f d.on 0).testBit g=ae):=by
  intro l
  induction l with
  |nil=>intro s a;exact .inl a
  |cons d l n=>
   intro s a
   simp only[KJ]at a
   rcases n _ a with a|⟨o,k,p,h2⟩
   .split at a
    .rename_i m;simp only[Nat.testBit_or,vE,Nat.testBit_two_pow,decide_eq_true_eq]at a;rcases a with(a|a)|a
     .exact .inl a
     .exact .inr ⟨d,az,m,.inl a⟩
     .exact .inr ⟨d,az,m,.inr a⟩
    .exact .inl a
   .exact .inr ⟨o,by simp[k],p,h2⟩
 rcases i l 0 a with a|a
 .simp at a
 .exact a
def QA{ops:Array a4}:∀(i:V a4)(a:V Y),ops.toList=c (Z a) ops.toList++i->Z a+Z i=ops.size->
  (∀k(u:k<Z a) d,a[k].testBit d=ae->mC ops d k)->Z (qo i a)=ops.size/\∀k(u:k<Z (qo i a)) d,(qo i a)[k].testBit d=ae->mC ops d k
 |[],a,_,hl,p=>by simp only[qo];exact⟨vw,p⟩
 |o::i,a,he,hl,p=>by
  have v:ops[Z a]? =ad o:=by
   rw[<-DL,he,DG b8];simp only[eL];have:min (Z a) (Z ops.toList)=Z a:=by simp;simp at hl;omega
   rw[this];simp
  simp only[qo];refine QA i _ ?_ (by simp at hl⊢;omega) ?_
  .have f:Z a<Z ops.toList:=by simp;simp at hl;omega
   simp only[iq,ik,nb,ff];rw[Qo f];have A:ops.toList[Z a]=o:=by have:=v;rw[<-DL,cO f]at this;simpa using this
   rw[A,l7];exact he
  .intro k u d s;rcases qf k (Z a)with n|B
   .rw[wX n]at s;exact p k n d s
   .have:k=Z a:=by simp at u;omega
    subst this;simp only[List.getElem_append_right (aO _),lH,vu]at s;let ⟨e,x,y,l⟩:=aiV s;have g:e∈o.after:=by simpa using x
    rcases l with m|m
    .exact .one v g y m
    .rcases qf e.on (Z a)with t|t
     .rw[aK,cO t]at m;exact .more v g y J<|p e.on t d m
     .rw[aK,iX t]at m;simp at m
def Xn:∀(g:V a4)(i:Y),DM g i=ae->∀k o,g[k]? =ad o->∀f∈o.after,tL .any f=ae->f.on<i+k
 |[],_,_,k,o,a=>by simp at a
 |o::g,i,l,0,n,a=>by
  simp only[m9,ar]at a;subst a;simp only[DM,cz,jS,vE,GY,decide_eq_true_eq]at l;intro f m d;have:=l.1 f (by simpa using m);rcases this with a|a
  .rw[a]at d;cases d
  .omega
 |o::g,i,l,k+1,n,a=>by simp only[wW]at a;simp only[DM,cz]at l;intro f m d;have:=Xn g (i+1) l.2 k n a f m d;omega
def Xo{m:Y}{n:Ks}:∀(l:V Ks)(i:Y),A4 m n l i=ae->∀k a,l[k]? =ad a->rz a n=ae->oU m (i+k)=ae
 |[],_,_,k,a,d=>by simp at d
 |a::l,i,f,0,o,d=>by
  simp only[m9,ar]at d;subst d;simp only[A4,cz,vE,GY]at f;intro g;rcases f.1 with d|d
  .rw[d]at g;cases g
  .simpa using d
 |a::l,i,f,k+1,o,d=>by simp only[wW]at d;simp only[A4,cz]at f;intro g;have:=Xo l (i+1) f.2 k o d g;rw[(O:i+(k+1)=i+1+k)];exact this
def Xp:∀(l:V Y)(f done:V Ks),w5 l f done=ae->∀g m k,l[g]? =ad m->f[g]? =ad k->∀i a,i<done.length+g->(done++f)[i]? =ad a->rz a k=ae->oU m i=ae
 |m::l,k::f,done,d,0,p,s,hm,n=>by simp only[m9,ar]at hm n;subst hm n;simp only[w5,cz]at d;intro i a t ha o;rw[DF O]at ha;have:=Xo done 0 d.1 i a ha o;simpa using this
 |m::l,k::f,done,d,g+1,p,s,hm,n=>by simp only[wW]at hm n;simp only[w5,cz]at d;intro i a t ha o;exact Xp l f (done++[k]) d.2 g p s hm n i a b8 yI o
 |[],[],_,_,g,m,k,hm,_=>by simp at hm
 |[],_::_,_,d,_,_,_,_,_=>by simp[w5]at d
 |_::_,[],_,d,_,_,_,_,_=>by simp[w5]at d
def DN{a d}{k:Key}(f:k∈a)(g:k∈d):GX a d=ae:=by simp only[GX,List.any_eq_true];exact⟨k,f,k,g,az⟩
def Xq{d}{p}(s:sS d.toList p=ae):(∀i o g,d[i]? =ad o->g∈o.after->tL .any g=ae->g.on<i)/\
  ∀i f a n,i<f->f<d.size->p[i]? =ad a->p[f]? =ad n->rz a n=ae->mC d i f:=by
 simp only[sS,cz]at s
 refine⟨λi o g x y t=>?_,λi f a n u A ha t B=>?_⟩
 .have:=Xn d.toList 0 s.1 i o (by rw[DL];exact x) g y t;omega
 .have v:=QA (ops:=d) d.toList [] az az (λk C=>by simp at C);have l:f<Z (qo d.toList []):=by rw[v.1];exact A
  have m:=Xp _ _ [] s.2 f _ n (cO l) t i a (by simpa using u) yI B;exact v.2 f l i m
def oV(a:Kn)(f:V (V (Key×Info)×V (Key×ax Info))):Kn:=f.foldl (λa d=>bs a d.2) a
def Xr(a:V (V (Key×Info)×V (Key×ax Info)))(d:V Ks):Prop:=
 Z d=Z a/\∀j(h:j<Z a)(f:j<Z d),(∀k∈dI a[j].1,k∈d[j].1)/\∀k∈fW a[j].2,k∈d[j].2
def RG(P:bW)(n:Y)(a:Array a4)(g:Bool)(l i:Y)(m:V a4)(o:St)(p:V Ks)(Q:St->Prop):Prop:=
 aA i a.toList=m->∃(d:V (V (Key×Info)×V (Key×ax Info)))(f:St),Z d=Z m/\
  (∀j(h:j<Z d),vo P n a (i+j) d[j].1 d[j].2 (rj (λi=>1000000*l+1000*i)<|i+j))/\
  (∀j(h:j<Z d),∀kx∈d[j].1,oV o.kn (c j d) kx.1=ad kx.2)/\
  f.kn=oV o.kn d/\f.nx=l+1/\a.size<=1000/\(g=ae->∃k,Xr d k/\sS a.toList (p++k)=ae)/\Q f
def QB{n}{d}{a}{f i}{g}{mem}{o}{p}{m}{Q:St->Prop}(k:Q ⟨g,mem,f+1,[]⟩)(s:(!a||sS d.toList m)=ae:=by kernel_rfl)(l:dP d.size 1000=ae:=by rfl):
  RG P n d a f i [] ⟨g,mem,o,p⟩ m Q:=by
 intro _
 refine⟨[],⟨g,mem,f+1,[]⟩,J,az,az,J,J,c8 l,λt=>⟨[],⟨J,λj k=>by simp at k⟩,?_⟩,k⟩
 subst t
 simpa using s
def nc{n}{a}{m}{p i}{o}{v}{U s}{W}{k}{Q:St->Prop}
  (hs:a[i]? =ad o->kT P n a i U s (1000000*p+1000*i) k) (dj:RG P n a m p (i+1) v s (W++[k]) Q):RG P n a m p i (o::v) U W Q:=by
 intro d
 have X:a[i]? =ad o:=by have:=be (λl=>l[0]?) d;simpa[tT]using this
 have f:aA (i+1) a.toList=v:=by rw[<-qp,d];rfl
 let ⟨rd,wr,x,y,t,A,B⟩:=hs X
 let ⟨ds,C,hl,b,h2,c,e,H,q,r⟩:=dj f
 refine⟨(rd,wr)::ds,C,by simp[hl],?_,?_,?_,e,H,?_,r⟩
 .intro j hj;cases j with
  |zero=>simpa using x.Kh (new:=rj (λi=>1000000*p+1000*i) i) ⟨aO _,(O:1000000*p+1000*i<1000000*p+1000*(i+1))⟩
  |succ j=>
   have:=b j ot
   rw[(O:i+(j+1)=i+1+j)]
   simpa using this
 .intro j hj kx g;cases j with
  |zero=>simp only[vu]at g;simpa[oV]using y kx g
  |succ j=>
   simp only[AU]at g
   have:=h2 j ot kx g
   rw[t]at this
   simpa[oV]using this
 .rw[c,t];simp[oV]
 .intro w;let ⟨K,⟨L,M⟩,u⟩:=q w;refine⟨k::K,⟨by simp[L],λj hj T=>?_⟩,by simpa using u⟩;cases j with
  |zero=>exact⟨A,B⟩
  |succ j=>exact M j ot (by simpa using T)
def aiW{n}{d}{l i}{m}{o}{p f}{Q:St->Prop}(s:RG P n d ah l i m o f Q):RG P n d ah l i m o p Q:=by intro a;let ⟨ds,g,hl,t,h2,u,v,k,_,x⟩:=s a;exact⟨ds,g,hl,t,h2,u,v,k,az,x⟩
def aiX{n}{d}{a}{g i}{o}{m}{s f}{t}{k}{p}{Q:St->Prop}(l:cq P tt=ae)
  (u:KP tt n (1000000*g+1000*i) d.toList o s=ad (f,p,k)) (v:p) (x:RG P n d a g (i+1) m f (t++[k]) Q):RG P n d a g i (o::m) s t Q:=
 nc (λy=>aiU l y u v) x
def ia(a:Bool)(d:V Ks)(k:Ks):V Ks:=match a with
 |true=>d++[k]
 |false=>[]
def nh{n}{d}{a}{f i}{g}{l}{m}{k}{Q:St->Prop}(o:RG P n d a f i g l (ia a m k) Q):RG P n d a f i g l (m++[k]) Q:=by
 cases a with
 |true=>exact o
 |false=>exact aiW o
def runs(tt:TT)(n l:Y)(a:Bool)(d:V a4):V a4->Y->St->Pr->V Ks->V a4×Y×St×Pr×V Ks
 |[],i,st,p,f=>([],i,st,p,f)
 |o::os,i,st,p,f=>match KP tt n (1000000*l+1000*i) d o st with
  |some (g,m,k)=>runs tt n l a d os (i+1) g (.an p m)<|ia a f k
  |none=>(o::os,i,st,p,f)
def Xs{n:Y}{m:Array a4}{a:Bool}{B:Y}{Q:St->Prop}(s:cq P tt=ae):∀(u:V a4)(i:Y)(v:St)(p:Pr)(t:V Ks){d:V a4}{x:Y}{f:St}{y:Pr}{g:V Ks},
  runs tt n B a m.toList u i v p t=(d,x,f,y,g)->y.h->(RG P n m a B x d f g Q)->p.h/\RG P n m a B i u v t Q
 |[],i,v,p,t,d,x,f,y,g,l,hp,A=>by simp only[runs,bM]at l;obtain⟨rfl,rfl,rfl,rfl,rfl⟩:=l;exact⟨hp,A⟩
 |o::u,i,v,p,t,d,x,f,y,g,l,hp,A=>by
  simp only[runs]at l;split at l
  .rename_i C q k K;let ⟨H,L⟩:=Xs s u (i+1) C (.an p q) (ia a t k) l hp A;let ⟨M,h2⟩:=Pr.Gz H;exact⟨M,aiX s K h2<|nh L⟩
  .simp only[bM]at l;obtain⟨rfl,rfl,rfl,rfl,rfl⟩:=l;exact⟨hp,A⟩
def kU{n}{d}{a}{l i}{m}{o}{p}{Q:St->Prop}{f}{u}{g}{v}{k}(s:cq P tt=ae)
  (x:runs tt n l a d.toList m i o .t p=(f,u,g,v,k)) (y:v) (A:RG P n d a l u f g k Q):RG P n d a l i m o p Q:=
 (Xs s m i o .t p x y A).2
def A5{f:Type} ds(d:f) a(g:a<Z ds):E ds a d=ds[a]:=by rw[aK,cO g];rfl
def KQ ds(d:Kn):∀a,a<=Z ds->fold (λi=>(E ds i ([],[])).2) d (bX a)=oV d (c a ds):=by
 intro a;induction a with
 |zero=>intro _;rfl
 |succ a f=>
  intro g
  rw[yx,PZ,f O,Qo O]
  simp only[oV,List.foldl_append,KJ,List.foldl_nil]
  rw[A5 ds _ a O]
def kb(a:St):Y->Prop:=λd=>d<1000000*a.nx
def aiY{d}{o}{l}{Q:St->Prop}{y}{id}{U:Exit->Act->cQ->Prop}(H:y.rd=none)(kN:P.follows .mixedOrders=ae)(dj:RG P y.n d o l.nx 0 d.toList l [] Q)
  (hQ:∀p,Q p->∀g W a,bx y (kb p) p.kn g W a->U .normal a W) {g}{W}{a}(h0:bx y (kb l) l.kn g W a):(Code.region id d o).wp P U a W:=by
 refine(WS H).1 ?_
 have C:AM y.rd d:=by rw[H];exact aib
 let ⟨ds,p,hl,I,h2,N,S,V,Y,h6⟩:=dj az
 have QC:Z ds=d.size:=vw
 have w:∀i,i<d.size->vo P y.n d i ((E ds i ([],[])).1) ((E ds i ([],[])).2) (rj (λi=>1000000*l.nx+1000*i) i):=by intro i X;have:=I i O;rw[A5 ds _ i O];simpa using this
 have z:∀i,i<d.size->∀kx∈(E ds i ([],[])).1,fold (λi=>(E ds i ([],[])).2) l.kn (bX i) kx.1=ad kx.2:=by intro i X kx K;rw[KQ ds l.kn i O];rw[A5 ds _ i O]at K;exact h2 i O kx K
 have x:∀g W a,bx y (·<1000000*l.nx+1000*d.size) (fold (λi=>(E ds i ([],[])).2) l.kn<|bX d.size) g W a->U .normal a W:=by intro g W a D;refine hQ p h6 g W a ?_;rw[N];rw[KQ ds l.kn d.size O,iY O]at D;exact D.weaken (λid fe=>by simp only[kb,S];omega)
 cases o with
 |false=>exact WT (c:=λi=>1000000*l.nx+1000*i) (λi=>(O:1000000*l.nx+1000*i<=1000000*l.nx+1000*(i+1))) h0 w z x C
 |true=>
  let ⟨L,⟨sK,e⟩,M⟩:=Y J
  have G:=Xq M
  have s:∀i j,i<j->j<d.size->∀a b:Ks,(L[i]? =ad a->L[j]? =ad b->rz a b=ae->mC d i j):=by intro i j m v a b ha hb hc;exact G.2 i j a b m v yI tW hc
  have f:∀i(X:i<d.size),∃a,L[i]? =ad a/\(∀k∈dI (E ds i ([],[])).1,k∈a.1)/\∀k∈fW (E ds i ([],[])).2,k∈a.2:=by intro i X;have T:i<Z L:=O;refine⟨L[i],cO T,?_⟩;rw[A5 ds _ i O];exact e i O T
  refine WU (c:=λi=>1000000*l.nx+1000*i) (λi=>(O:1000000*l.nx+1000*i<=1000000*l.nx+1000*(i+1))) kN G.1 h0 w z ?_ ?_ ?_ x C
  .intro i j m v k t u;let ⟨a,ha,_,A⟩:=f i O;let ⟨b,hb,_,B⟩:=f j v;exact s i j m v a b ha hb (by simp only[rz,DN (A k t)<|B k u,KR])
  .intro i j m v k t u;let ⟨a,ha,_,A⟩:=f i O;let ⟨b,hb,q,_⟩:=f j v;exact s i j m v a b ha hb (by simp only[rz,DN (A k t)<|q k u,KR,KS])
  .intro i j m v k t u;let ⟨a,ha,r,_⟩:=f i O;let ⟨b,hb,_,B⟩:=f j v;exact s i j m v a b ha hb (by simp only[rz,DN (r k t)<|B k u,KS])
end
def jT:Y->aV:=λ_=>undef
def fw(g:Gh):V AV->V aV->Prop
 |[],vs=>vs=[]
 |x::xs,vs=>∃v a,vs=v::a/\bu g x v/\fw g xs a
def cR:V AV->V Y
 |[]=>[]
 |x::xs=>x.ak++cR xs
def bu.iL{g}{x}{v}(a:bu g x v)(d:x.ak=[]){H}(f:cL g.H H)(γ:Y->aV):bu ⟨H,γ⟩ x v:=
 bu.mono (known:=λ_=>False) ⟨f,λ_ a=>a.elim⟩ (by simp[d]) a
def fw.iL{g:Gh}{γ:Y->aV}:∀{xs:V AV}{vs:V aV},fw g xs vs->cR xs=[]->fw ⟨g.H,γ⟩ xs vs
 |[],_,a,_=>a
 |x::xs,_,a,hm=>by simp only[cR,Qn]at hm;obtain⟨v,d,rfl,f,i⟩:=a;exact⟨v,d,J,f.iL hm.1 (cL.refl _) γ,i.iL hm.2⟩
def Xt(W:cQ)(H:FH)(f:AV)(g:Ending)(d:cQ):Prop:=
 ∃v a,g= .returned v/\bu ⟨a,jT⟩ f v/\cL H a/\(∀b o,b<W.heap.size->a b o=H b o)/\Sub a d/\Below W.heap.size W d
def oW(P:bW)(f:FuncId):Bool:=match P.funcs[f]? with
 |some fn=>fn.name != "runtime.NumGoroutine" &&fn.body.isSome
 |none=>ah
structure jd(P:bW)(f:FuncId)(args:V AV)(r:AV):Prop where
 call:oW P f=ae
 iL:r.ak=[]
 spec:∀H W vs,Sub H W->fw ⟨H,jT⟩ args vs->Calls P f vs.toArray W (Xt W H r)
section
variable{P:bW}{tt:TT}
def jU(a:St):V eI->ax (V AV)
 |[]=>ad []
 |x::xs=>match a.ev x,jU a xs with
  |some v,ad vs=>ad<|v::vs
  |_,_=>none
def DO{o:fj}{d:Y->Prop}{l:Kn}{g:Gh}{W:cQ}{a:Act}(m:bx o d l g W a)(f:St):∀(xs:V eI)(vs:V AV),jU f xs=ad vs->
  (∀kx∈xs.flatMap (cJ f),l kx.1=ad kx.2)->fw g vs (xs.map a.eval)
 |[],vs,he,_=>by simp only[jU,ar]at he;subst he;rfl
 |x::xs,vs,he,n=>by
  simp only[jU]at he;split at he
  .rename_i v i p k;simp only[ar]at he;subst he;refine⟨_,_,J,dA m f x v p<|λkx b7=>n kx ef,DO m f xs i k<|λkx b7=>n kx ?_⟩;simp only[lG,bg];exact .inr b7
  .simp at he
def Xu{n L}{ops}{i}{o:a4}(ho:ops[i]? =ad o)(hg:o.guard=none){d:Y}(hd:o.dst=ad d)(dz:d<n){f}{args}{kV}(b6:o.op= .call ⟨.value<|.func f,args,kV⟩)
 {p}{vs}{M:AV} (hv:jU p args.toList=ad vs) (hm:cR vs=[]) (hf:jd P f vs M):kT P n ops i p (p.put d M) L (bK args.toList,[.s d]):=by
 refine⟨args.toList.flatMap<|cJ p,[(.s d,ad<|.v M)],?_,?_,oS p d M,eO p _,λk hk=>jG⟩
 .intro F kO Q c Z g W a K C aR j N;have A:=(DO aR p _ _ hv j).iL (γ:=jT) hm;have O:=hf.spec g.H W _ aR.sub A;unfold wpOp;simp only[ho,gV,hg,cj];refine .inl ?_;unfold nK;have q:(execOp a.eval o).run P W= .ok (.enter f<|args.map a.eval) W:=by
   have l:=hf.call;unfold oW at l;rw[execOp,b6];cases B:P.funcs[f]? with
   |none=>rw[B]at l;simp at l
   |some fn=>
    rw[B]at l
    simp only[cz,bne_iff_ne,ne_eq]at l
    have R:fn.body≠none:=by intro S;rw[S]at l;simp at l
    simp[resolve,Act.eval,Deferred.ofValue,invoke,callFunc,B,l.1,R]
  rw[q];simp only[nL];have T:(args.map a.eval)=(args.toList.map a.eval).toArray:=A6;rw[T];refine O.mono ?_;rintro e V ⟨v,J,rfl,U,hle,w,X,m⟩;simp only[hd];have z:d<a.tmps.size:=mD;refine N ⟨J,g.γ⟩ V _<|aR.step (chg:=λ_=>False) (g':=⟨J,g.γ⟩) ⟨⟨hle,λ_ _=>rfl⟩,w,X,m.size,λk hk _=>m.block k hk,m.os,m.tape,m.output⟩ _ L C mE aR.defers ?_ (λ_ h=>h.elim) ?_ ?_ ?_ ?_
  .intro t ht;have D:d≠t:=qn;simp[im,lE D]
  .intro t u ht;simp only[aE]at ht;split at ht
   .rename_i e;simp only[Key.s.injEq]at e;simp only[ar,Info.v.injEq]at ht;subst e;subst ht;have:=U.iL hf.iL (cL.refl _) g.γ;simpa[im,z]using this
   .simp at ht
  .intro E b ht;simp[aE]at ht
  .intro k y ht;simp only[aE]at ht;split at ht
   .simp only[ar]at ht;subst ht;intro E G;have:E∈M.ak:=G;rw[hf.iL]at this;cases this
   .simp at ht
  .intro E y ht;simp[aE]at ht
 .intro kx I;let ⟨x,_,h⟩:=jb.1 I;exact eD p x kx h
def aiZ{n}{g}{a}{u i}{d f:Y}{args}{k}{A}{pos}{l}{v}{m}{mem}{o}{p}{x}{Q:St->Prop}{vs}{y}
  (B:jU ⟨m,mem,o,p⟩ args.toList=ad vs) (H:jd P f vs y) (L:RG P n g a u (i+1) v ⟨(d,y)::m,mem,o,p⟩ (ia a x (bK args.toList,[.s d])) Q) (M:cR vs=[]:=by rfl) (t:dy d n=ae:=by rfl):
  RG P n g a u i (⟨ad d,.call ⟨.value<|.func f,args,k⟩,A,pos,l,none⟩::v) ⟨m,mem,o,p⟩ x Q:=
 nc (λC=>Xu C J J (c8 t) J B M H) (nh L)
def ai0{n}{k}{a}{y i}{d f:Y}{args}{l}{A}{pos}{m}{H p}{g L}{M}{o}{mem}{t}{u}{T}{Q:St->Prop}{vs}{U}
  (W:oT k.toList H=ad p) (hb:S p o=ad (.c<|.B L)) (v:L=g)
  (hv:jU ⟨o,mem,t,u⟩ args.toList=ad vs) (hf:jd P f vs U) (dj:RG P n k a y (i+1) M ⟨(d,U)::o,mem,t,u⟩ (ia a T (.s p::bK args.toList,[.s d])) Q) (hm:cR vs=[]:=by rfl) (x:dy d n=ae:=by rfl):
  RG P n k a y i (⟨ad d,.call ⟨.value<|.func f,args,l⟩,A,pos,m,ad (H,g)⟩::M) ⟨o,mem,t,u⟩ T Q:=
 nc (λC=>Xm C J W hb v<|Xu (ops:= #[⟨ad d,.call ⟨.value<|.func f,args,l⟩,A,pos,m,none⟩]) (i:=0) J J J (c8 x) J hv hm hf) (nh dj)
def ai1{n}{d}{a}{v i}t{l}{x}{g}{mem}{o}{p}{y}{Q:St->Prop}(H:S t g=ad (.c<|.B l))
  (L:l=ae->RG P n d a v i x ⟨(t,.c<|.B ae)::g,mem,o,(t,ae)::p⟩ y Q)
  (M:l=ah->RG P n d a v i x ⟨(t,.c<|.B ah)::g,mem,o,(t,ah)::p⟩ y Q):RG P n d a v i x ⟨g,mem,o,p⟩ y Q:=by
 have u:∀c:Bool,l=c->(⟨(t,.c<|.B c)::g,mem,o,(t,c)::p⟩:St).kn=(⟨g,mem,o,p⟩:St).kn:=by
  intro c e;subst e;funext k;cases k with
  |s C=>
   by_cases e:t=C
   .subst e;simp[St.kn,S,H]
   .simp[St.kn,S,e]
  |m id=>rfl
 cases l with
 |true=>
  intro A
  let ⟨ds,f,r⟩:=L J A
  rw[u ae J]at r
  exact⟨ds,f,r⟩
 |false=>
  intro A
  let ⟨ds,f,r⟩:=M J A
  rw[u ah J]at r
  exact⟨ds,f,r⟩
structure fj.pl(a:fj)(n:Y):Prop where
 n:a.n=n
 k0:a.k0<=1
 rd:a.rd=none
 ds:a.ds=[]
abbrev ma:=fj->Exit->Act->cQ->Prop
def TR(P:bW)(n:Y)(f:Code)(d:St)(Q:ma):Prop:=∀F:fj,F.pl n->∀g W a,bx F (kb d) d.kn g W a->f.wp P (Q F) a W
def fA(n:Y)(f:Exit)(d:St)(Q:ma):Prop:=∀F:fj,F.pl n->∀g W a,bx F (kb d) d.kn g W a->Q F f a W
def tX(P:bW)(y:Code)(Q:ma):ma:=λF=>Exit.then (λa W=>y.wp P (Q F) a W)<|Q F
def w6(a:Y)(Q:ma):ma:=λF=>DP a<|Q F
def GZ{f:Type}(d:f->St)(l:f->Prop)(k:f->Y)(x:f)(Q:ma):ma:=λF=>Exit.then (λa W=>∃i g,l i/\k i<k x/\bx F (kb<|d i) (d i).kn g W a)<|Q F
variable{n:Y}{Q:ma}{st:St}
def du{x y}(d:TR P n x st (tX P y Q)):TR P n (.seq x y) st Q:=λF f g W a i=>wp_seq<|d F f g W a i
def cP(d:fA n .normal st Q):TR P n .skip st Q:=λF f g W a i=>wp_skip<|d F f g W a i
def nN{d}(f:fA n (.exit d) st Q):TR P n (.exit d) st Q:=λF i g W a k=>wp_exit<|f F i g W a k
def bL(d:fA n .ret st Q):TR P n .ret st Q:=λF f g W a i=>wp_ret<|d F f g W a i
def au{d}{f}(i:TR P n f st (w6 d Q)):TR P n (.block d f) st Q:=λF k g W a l=>wp_block<|i F k g W a l
def al{d}{x y}{f}(l:st.ev d=ad (.c<|.B f))(m:f=ae->TR P n x st Q)(o:f=ah->TR P n y st Q):TR P n (.cond d x y) st Q:=by intro F k g W a i;have p:bu g (.c<|.B f) (a.eval d):=dA i st d _ l<|eD st d;exact wp_cond_split p (λe=>m e F k g W a i)<|λe=>o e F k g W a i
def KT{o}{f}{d}(k:P.follows .mixedOrders=ae)(p:RG P n f d st.nx 0 f.toList st [] (λi=>fA n .normal i Q)):TR P n (.region o f d) st Q:=by intro F l g W a s;have t:=l.n;subst t;exact aiY l.rd k p (λi u g W a m=>u F l g W a m) s
def aL{y}(a:TR P n y st Q):fA n .normal st (tX P y Q):=a
def rA{y}{a}(d:fA n (.exit a) st Q):fA n (.exit a) st (tX P y Q):=d
def cK{y}(a:fA n .ret st Q):fA n .ret st (tX P y Q):=a
def eE{a}(d:fA n .normal st Q):fA n .normal st (w6 a Q):=d
def kX{a}(d:fA n .ret st Q):fA n .ret st (w6 a Q):=d
def nO{d}(f:fA n .normal st Q):fA n (.exit d) st (w6 d Q):=λF i g W a k=>by simp only[w6,DP,cj];exact f F i g W a k
def KU{i d}(k:fA n (.exit d) st Q)(f:d≠i:=by decide):fA n (.exit d) st (w6 i Q):=λF l g W a m=>by simp only[w6,DP,f,bN];exact k F l g W a m
def ou{a:Type}{d:a->St}{g:a->Prop}{i:a->Y}{x}{f}(k:fA n (.exit f) st Q):fA n (.exit f) st (GZ d g i x Q):=k
def lI{a:Type}{d:a->St}{f:a->Prop}{g:a->Y}{x}(i:fA n .ret st Q):fA n .ret st (GZ d f g x Q):=i
def Wk(st d:St):Prop:=∀F:fj,F.k0<=1->∀g W a,bx F (kb st) st.kn g W a->∃f,bx F (kb d) d.kn f W a
def aT{i:Type}{d:i->St}{l:i->Prop}{k:i->Y}{x}f(m:l f)(o:k f<k x)(p:Wk st (d f)):fA n .normal st (GZ d l k x Q):=by intro F s g W a t;let ⟨u,v⟩:=p F s.k0 g W a t;exact⟨f,u,m,o,v⟩
def ai2{o}{W:Type}(L:W->Act->cQ->Prop)(M:W->Y){Q:Exit->Act->cQ->Prop} x{a}{i}(y:L x a i)
  (round:∀x a i,L x a i->o.wp P (Exit.then (λu v=>∃A,L A u v/\M A<M x) Q) a i):(Code.loop o).wp P Q a i:=by
 intro b k K
 have T:∀n x a i,M x=n->L x a i->
   ∃e u v,Q e u v/\Arrives P (lone (b.at a<|.code o:: .inLoop o::k) K i) b k K e u v:=by
  intro n
  induction n using Nat.strongRecOn with
  |_ n X=>
   intro x a i h j
   let ⟨e,f,g,p,d⟩:=round x a i j b (.inLoop o::k) K
   cases e with
   |normal=>
    let ⟨A,s,U⟩:=p
    let ⟨B,C,H,t,m⟩:=X (M A) (h▸U) A f g J s
    exact⟨B,C,H,t,.of_steps (Steps.trans d<|.one step_inLoop) m⟩
   |exit id=>exact⟨_,f,g,p,.pass (x:= .inLoop o) J (λ_ _=> .inl az) d⟩
   |goto l=>exact⟨_,f,g,p,.pass (x:= .inLoop o) J (λ_ _=> .inl az) d⟩
   |ret=>exact⟨_,f,g,p,.pass (x:= .inLoop o) J (λ_ _=> .inl az) d⟩
   |panic ch=>exact⟨_,f,g,p,.pass (x:= .inLoop o) J (λ_ _=> .inl az) d⟩
   |outgrown=>exact⟨_,f,g,p,.pass (x:= .inLoop o) J (λ_ _=> .inl az) d⟩
 let ⟨e,u,v,p,d⟩:=T _ x a i J y
 exact⟨e,u,v,p,.of_steps (.one step_loop) d⟩
def a8{α:Type}(d:α->St)(f:α->Prop)(m:α->Y) i{o}(t:f i)(u:Wk st (d i))(round:∀x,f x->TR P n o (d x) (GZ d f m x Q)):TR P n (.loop o) st Q:=by
 intro F p g W a v;let ⟨y,A⟩:=u F p.k0 g W a v;refine ai2 (λx a W=>f x/\∃g,bx F (kb<|d x) (d x).kn g W a) m i ⟨t,y,A⟩ ?_;rintro x a W ⟨k,g,hg⟩;refine wp_mono (round x k F p g W a hg) ?_;intro e K L s;cases e with
 |normal=>
  let ⟨B,l,C,h2,H⟩:=s
  exact⟨B,⟨C,l,H⟩,h2⟩
 |_=>exact s
end
section
variable{P:bW}{tt:TT}{n:Y}{Q:ma}{st:St}
def bl(v a:AV):Prop:=(∀g x,bu g v x->bu g a x)/\∀d∈a.ak,d∈v.ak
def bl.refl v:bl v v:=⟨λ_ _ h=>h,λ_ h=>h⟩
def bl.of_eq{v a}(d:v=a):bl v a:=d▸bl.refl v
def bl.nil T:bl (.c<|.V<|.slice none 0 0) (.c<|.S T []):=⟨λg x h=>by have a:x= .slice none 0 0:=h;subst a;exact⟨none,0,J,aO _,az,.inl J⟩,rk⟩
def mF(d f:aG):Prop:=(∀N g W a,fV N g W a d->fV N g W a f)/\∀a∈f.ak,a∈d.ak
def mF.refl a:mF a a:=⟨λ_ _ _ _ h=>h,λ_ h=>h⟩
def mF.of_eq{a d}(f:a=d):mF a d:=f▸mF.refl a
def DQ(l:V (Y×AV)):V (Y×AV)->Prop
 |[]=>True
 | (t,a)::d=>(∃v,S t l=ad v/\bl v a)/\DQ l d
def DR(l:V (Y×aG)):V (Y×aG)->Prop
 |[]=>True
 | (t,a)::d=>(∃v,S t l=ad v/\mF v a)/\DR l d
def DQ.get{l:V (Y×AV)}:∀{m:V (Y×AV)},DQ l m->∀{t d},S t m=ad d->∃v,S t l=ad v/\bl v d
 |[],_,_,_,a=>by simp[S]at a
 | (k,x)::m,hw,t,d,a=>by
  simp only[S]at a;split at a
  .rename_i f;subst f;cases a;exact hw.1
  .exact DQ.get hw.2 a
def DR.get{l:V (Y×aG)}:∀{m:V (Y×aG)},DR l m->∀{t d},S t m=ad d->∃v,S t l=ad v/\mF v d
 |[],_,_,_,a=>by simp[S]at a
 | (k,x)::m,hw,t,d,a=>by
  simp only[S]at a;split at a
  .rename_i f;subst f;cases a;exact hw.1
  .exact DR.get hw.2 a
def w7(a:Y):V Y->Bool
 |[]=>ae
 |id::d=>dy id a&&w7 a d
def G0(a:Y):V (Y×AV)->Bool
 |[]=>ae
 | (_,v)::d=>w7 a v.ak&&G0 a d
def vF(a:Y):V (Y×aG)->Bool
 |[]=>ae
 | (id,v)::d=>dy id a&&w7 a v.ak&&vF a d
def KV{g:Y}:∀{l:V Y},w7 g l=ae->∀d∈l,d<g
 |[],_,_,a=>by simp at a
 |i::k,f,d,a=>by
  simp only[w7,cz]at f;rcases b9.1 a with rfl|a
  .exact c8 f.1
  .exact KV f.2 d a
def Xv{f:Y}:∀{l:V (Y×AV)},G0 f l=ae->∀t v,S t l=ad v->∀g∈v.ak,g<f
 |[],_,_,_,a=>by simp[S]at a
 | (k,x)::i,d,t,v,a=>by
  simp only[G0,cz]at d;simp only[S]at a;split at a
  .cases a;exact KV d.1
  .exact Xv d.2 t v a
def KW{f:Y}:∀{l:V (Y×aG)},vF f l=ae->∀t v,S t l=ad v->t<f/\∀g∈v.ak,g<f
 |[],_,_,_,a=>by simp[S]at a
 | (k,x)::m,d,t,v,a=>by
  simp only[vF,cz]at d;simp only[S]at a;split at a
  .rename_i i;subst i;cases a;exact⟨c8 d.1.1,KV d.1.2⟩
  .exact KW d.2 t v a
def wk{st st'}(L:DQ st.sl st'.sl)(M:DR st.mem st'.mem)(o:(G0 (1000000*st'.nx) st'.sl&&vF (1000000*st'.nx) st'.mem&&(dP 1 st'.nx||dP st.nx 0))=ae:=by rfl):Wk st st':=by
 intro F T g W a h;simp only[cz,vE]at o;let ⟨o,y⟩:=o;have A:∀d,d<F.k0->kb st' d/\g.γ d=F.γ0 d:=by
  intro d l;let ⟨H,h2⟩:=h.gK d l;refine⟨?_,h2⟩;have H:d<1000000*st.nx:=H;show d<1000000*st'.nx;rcases y with e|e
  .have:=c8 e;omega
  .have:=c8 e;omega
 have K:∀t f,st'.kn (.s t)=ad (.v f)->(∃v,st.kn (.s t)=ad (.v v)/\bl v f)/\∀d∈f.ak,d<1000000*st'.nx:=by intro t f e;simp only[St.kn,cG]at e;let ⟨x,hx,he⟩:=e;cases he;let ⟨v,hv,hle⟩:=L.get hx;exact⟨⟨v,A7,hle⟩,Xv o.1 t f hx⟩
 have p:∀d i,st'.kn (.m d)=ad (.b i)->(∃b,st.kn (.m d)=ad (.b b)/\mF b i)/\d<1000000*st'.nx/\∀j∈i.ak,j<1000000*st'.nx:=by intro t f e;simp only[St.kn,cG]at e;let ⟨x,hx,he⟩:=e;cases he;let ⟨v,hv,hle⟩:=M.get hx;exact⟨⟨v,A7,hle⟩,KW o.2 t f hx⟩
 refine⟨g,h.size,h.defers,?_,?_,?_,?_,?_,h.sub,h.below,h.le,h.fresh,A⟩
 .intro t f e;let ⟨⟨v,hv,hle⟩,_⟩:=K t f e;exact hle.1 _ _<|h.eY t v hv
 .intro d i e;let ⟨⟨b,U,hle⟩,_⟩:=p d i e;exact hle.1 _ _ _ _<|h.cX d b U
 .intro d u b i k e X q B;let ⟨⟨c,hc,_⟩,_⟩:=p d b e;let ⟨⟨r,C,_⟩,_⟩:=p u i X;exact h.inj d u c r k hc C q B
 .intro k x e d l;cases k with
  |s t=>
   cases x with
   |v f=>exact(K t f e).2 d l
   |b i=>simp only[St.kn,cG]at e;let ⟨_,_,he⟩:=e;cases he
  |m j=>
   cases x with
   |v f=>simp only[St.kn,cG]at e;let ⟨_,_,he⟩:=e;cases he
   |b i=>exact(p j i e).2.2 d l
 .intro d x e;cases x with
  |v f=>simp only[St.kn,cG]at e;let ⟨_,_,he⟩:=e;cases he
  |b i=>exact(p d i e).2.1
def eP{d}{st'}(i:Wk st st')(k:TR P n d st' Q):TR P n d st Q:=by intro F f g W a l;let ⟨m,o⟩:=i F f.k0 g W a l;exact k F f m W a o
def G5{d}{st'}(i:Wk st st')(k:fA n d st' Q):fA n d st Q:=by intro F f g W a l;let ⟨m,o⟩:=i F f.k0 g W a l;exact k F f m W a o
def A8(P:bW)(d:Func)(f:AV):ma:=λF e a W=>(∀b,¬F.own b)->bodyPost P d (Xt F.w0 F.H0 f) e a W
def oX(tt:TT)(st:St):KX->ax AV
 | .tmp t=>S t st.sl
 | .cell t ty=>(match S t st.sl with
  |some (.c<|.P id off)=>(match S id st.mem,qj tt ty with
   |some (.box _ _ cs),ad (sz,a)=>nJ cs off sz a
   |_,_=>none)
  |_=>none)
def rB:AV->ax (Bool×V C)
 | .c x=>ad (ah,[x])
 | .a cs=>ad (ae,cs)
 | .t _=>none
def oY(tt:TT)(st:St):V KX->ax (V<|Bool×V C)
 |[]=>ad []
 |x::xs=>(match oX tt st x with
  |some v=>(match rB v,oY tt st xs with
   |some s,ad a=>ad<|s::a
   |_,_=>none)
  |none=>none)
def lJ(tt:TT)(st:St):V KX->ax AV
 |[x]=>oX tt st x
 |xs=>(oY tt st xs).map .t
def A9(a:Array aV):KX->Go.Sem aV
 | .tmp t=>pure<|a.getD t undef
 | .cell d t=>do loadVar t (<-asAddr (a.getD d undef))
def Xw(k:cq P tt=ae){y}{i:Y->Prop}{g}{W}{a}(l:bx y i st.kn g W a){x}{v}(hv:oX tt st x=ad v):
  ∃u,(A9 a.tmps x).run P W= .ok u W/\bu g v u:=by
 cases x with
 |tmp t=>
  simp only[oX]at hv
  exact⟨_,by simp[A9,pure],l.eY t v A7⟩
 |cell b t=>
  simp only[oX]at hv
  split at hv
  .rename_i s m hl;split at hv
   .rename_i E A B sz T C o;let ⟨H,vs,rest,p,hh,K,_,_⟩:=l.cX s (.box E A B) (by simp[St.kn,C]);let ⟨L,d,hp⟩:=l.eY b (.c<|.P s m) A';rw[p]at d;simp only[ar]at d;subst d;let ⟨u,f,hu⟩:=GL (W:=W) k o K hv H 0 (λj M=>by have:=vz hh j b8;rw[wX M]at this;simpa using this);refine⟨u,?_,hu⟩;simp only[ff]at f;simp only[A9,hp,asAddr];simpa[Instr.loadAt,Du]using f
   .simp at hv
  .simp at hv
def QD{g}{v}{s}(d:rB v=ad s){u}(f:bu g v u):AF g s u:=by
 cases v with
 |c x=>simp only[rB,ar]at d;subst d;exact f
 |a cs=>simp only[rB,ar]at d;subst d;exact f
 |t _=>simp[rB]at d
def Ba(t:cq P tt=ae){L}{l:Y->Prop}{g}{W}{a}(B:bx L l st.kn g W a){fn}{rs}(H:fn.results=rs.toArray){v}(k:lJ tt st rs=ad v):
  ∃u,(results fn a.tmps).run P W= .ok u W/\bu g v u:=by
 have M:∀(rs:V KX)(p:V (Bool×V C)),oY tt st rs=ad p->∃i:V aV,(rs.mapM<|A9 a.tmps).run P W= .ok i W/\fJ g p i/\Z i=Z rs:=by
  intro rs;induction rs with
  |nil=>intro p d;simp only[oY,ar]at d;subst d;exact⟨[],by simp[pure],J,J⟩
  |cons x xs T=>
   intro p d
   simp only[oY]at d
   split at d
   .rename_i c K;split at d
    .rename_i s r U X;simp only[ar]at d;subst d;let ⟨u,hu,f⟩:=Xw t B K;let ⟨i,m,o,hlen⟩:=T r X;refine⟨u::i,?_,⟨u,i,J,QD U f,o⟩,by simp[hlen]⟩;rw[GV];simp only[dn,hu,dx,m];simp[pure]
    .simp at d
   .simp at d
 have e:results fn a.tmps=(do let vs <-rs.toArray.mapM (A9 a.tmps);pure (if B:vs.size=1 then vs[0]else .tuple vs)):=by unfold results;rw[H];rfl
 have A:Array.mapM (A9 a.tmps) rs.toArray=Functor.map List.toArray (rs.mapM<|A9 a.tmps):=az
 rw[e,A]
 match rs,k with
 |[],k=>
  simp only[lJ,oY,vG,ar]at k
  subst k
  exact⟨.tuple #[],by simp[kp,pure],[],J,J⟩
 |[x],k=>
  let ⟨u,hu,f⟩:=Xw t B k
  refine⟨u,?_,f⟩
  simp[hu,kp,pure]
 |x::y::r,k=>
  simp only[lJ,cG]at k
  obtain⟨p,d,rfl⟩:=k
  let ⟨i,m,o,hlen⟩:=M _ p d
  refine⟨.tuple i.toArray,?_,i,J,o⟩
  have b:i.toArray.size≠1:=by simp[hlen]
  simp only[map_eq_pure_bind,bind_assoc,pure_bind,dn,m,dx]
  rw[dif_neg b]
  rfl
def ig(i:cq P tt=ae){s}{t}{v l}(x:lJ tt st t=ad v)(m:bl v l)(p:s.results=t.toArray:=by rfl)(y:l.ak=[]:=by rfl):fA n .ret st (A8 P s l):=by intro F A g W a h d;let ⟨u,hu,f⟩:=Ba i h p x;refine⟨h.defers.trans A.ds,u,hu,u,g.H,J,?_,h.le,λb o B=>h.fresh b o B<|d b,h.sub,⟨h.below.os,h.below.tape,h.below.output,h.below.size,λk C=>h.below.block k C<|d k⟩⟩;exact(m.1 _ _ f).iL y (cL.refl _) jT
def dG:Y->V AV->V (Y×AV)
 |_,[]=>[]
 |i,v::vs=>(i,v)::dG (i+1) vs
def nP{g:Gh}:∀(vs:V AV)(k:V aV)(i:Y),fw g vs k->∀t v,S t (dG i vs)=ad v->i<=t/\∃u,k[t-i]? =ad u/\bu g v u/\∀f∈v.ak,f∈cR vs
 |[],_,i,_,t,v,d=>by simp[dG,S]at d
 |x::vs,_,i,l,t,v,d=>by
  obtain⟨u,m,rfl,o,p⟩:=l;simp only[dG,S]at d;split at d
  .rename_i e;subst e;cases d;exact⟨aO _,u,az,o,λf a=>by simp[cR,a]⟩
  .let ⟨C,s,y,A,B⟩:=nP vs m (i+1) p t v d;refine⟨O,s,?_,A,λf a=>by simp[cR,B f a]⟩;rw[(O:t-i=(t-(i+1))+1)];simpa using y
def yJ{g:Gh}:∀{vs:V AV}{d:V aV},fw g vs d->Z d=Z vs
 |[],_,a=>by simp only[fw]at a;subst a;rfl
 |_::vs,_,a=>by obtain⟨u,i,rfl,_,f⟩:=a;simp[yJ f]
def DS{f}{g}{T}{args}{B}(hf:P.funcs[f]? =ad g)(hb:g.body=ad T)(hN:g.ntmps=n)(i:dP args.length n=ae)(L:cR args=[])(M:B.ak=[])(tY:(g.name != "runtime.NumGoroutine")=ae)
  (l:TR P n T ⟨dG 0 args,[],0,[]⟩ (A8 P g B)):jd P f args B:=by
 refine⟨Bb,M,?_⟩
 intro H W vs o d
 refine calls_of_wp hf hb ?_
 have K:=yJ d
 have i:=c8 i
 refine wp_mono (l {w0:=W,H0:=H,n:=n} ⟨J,aY _,J,J⟩ ⟨H,jT⟩ W _ ⟨?_,J,?_,?_,?_,?_,?_,o,⟨J,J,J,aO _,λ_ _ _=>rfl⟩,cL.refl _,λ_ _ _ _=>rfl,λ_ l=>absurd l<|vH _⟩)<|λe a E X=>X<|λ_ l=>l
 .simp[hN];omega
 .intro t v U;simp only[St.kn,cG]at U;let ⟨x,hx,he⟩:=U;cases he;let ⟨_,u,hu,q,_⟩:=nP args vs 0 d t v hx;have p:vs[t]? =ad u:=w8;have hZ:t<Z vs:=(sQ.1 p).1;have:(vs.toArray++Array.replicate (g.ntmps-vs.toArray.size) undef).getD t undef=u:=by rw[nM,yK Bc];simp[p]
  rw[this];exact q
 .intro A b e;simp[St.kn,S]at e
 .intro A w b F k e;simp[St.kn,S]at e
 .intro k x e A C;cases k with
  |m j=>simp[St.kn,S]at e
  |s t=>
   simp only[St.kn,cG]at e
   let ⟨y,z,he⟩:=e
   subst he
   let ⟨_,u,_,_,D⟩:=nP args vs 0 d t y z
   have:=D A C
   rw[L]at this
   cases this
 .intro A x e;simp[St.kn,S]at e
end
def sR{l:V (Y×AV)}{t:Y}{v:AV}(a:S t l=ad v):∃x,S t l=ad x/\bl x v:=⟨v,a,bl.refl v⟩
def bR{l:V (Y×aG)}{t:Y}{v:aG}(a:S t l=ad v):∃x,S t l=ad x/\mF x v:=⟨v,a,mF.refl v⟩
def sE{l:V (Y×AV)}{t:Y}{a v:AV}(d:S t l=ad a)(f:a=v):∃x,S t l=ad x/\bl x v:=⟨a,d,bl.of_eq f⟩
def bE{l:V (Y×aG)}{t:Y}{a v:aG}(d:S t l=ad a)(f:a=v):∃x,S t l=ad x/\mF x v:=⟨a,d,mF.of_eq f⟩
def bO{d:V (Y×AV)}:∀{l:V (Y×AV)},l.map (λa=>S a.1 d)=l.map (λa=>ad a.2)->DQ d l
 |[],_=>trivial
 | (t,v)::l,f=>⟨⟨v,(KY f).1,bl.refl v⟩,bO (KY f).2⟩
def xa{d:V (Y×aG)}:∀{l:V (Y×aG)},l.map (λa=>S a.1 d)=l.map (λa=>ad a.2)->DR d l
 |[],_=>trivial
 | (t,v)::l,f=>⟨⟨v,(KY f).1,mF.refl v⟩,xa (KY f).2⟩
def aM{f a:St}(g:a.sl.map (λd=>S d.1 f.sl)=a.sl.map (λd=>ad d.2):=by rfl)(i:a.mem.map (λd=>S d.1 f.mem)=a.mem.map (λd=>ad d.2):=by rfl)(k:(G0 (1000000*a.nx) a.sl&&vF (1000000*a.nx) a.mem&&(dP 1 a.nx||dP f.nx 0))=ae:=by rfl):Wk f a:=wk (bO g) (xa i) k
def mb{p:Prop}(a:p:=by first|trivial| (simp only[Pr.an,Pr.h,num,gT,true_and,and_true];first|done|omega)| (simp[Pr.an,Pr.h,num,gT];done)| (simp[Pr.an,Pr.h,num,gT];omega)):p:=a
def QE{p:Prop}(a:p:=by first|trivial| (simp only[Pr.an,Pr.h,num,gT,true_and,and_true];first|done|omega)):p:=a
def bP{a d:Int}(f:a=d):AV.c (C.I .u64 a)=AV.c (C.I .u64 d):=by rw[f]
def je{a d:Int}(f:a=d):AV.c (C.I .i64 a)=AV.c (C.I .i64 d):=by rw[f]
def DT{a d:Int}(f:a=d):AV.c (C.I .u32 a)=AV.c (C.I .u32 d):=by rw[f]
section
variable{P:bW}{tt:TT}
def Xx{d:Type}(a:V d) n i(g:i<n):c (Z a) (aA (i*Z a)<|(bc n a).flatten)=a:=by
 induction n generalizing i with
 |zero=>omega
 |succ n f=>
  rw[wP,KZ]
  cases i with
  |zero=>simp
  |succ i=>
   rw[(GG:(i+1)*Z a=Z a+i*Z a),<-qp,List.drop_left]
   exact f i O
def Xy{d:Type}(a:V d) n:(bc n a).flatten.length=n*Z a:=az
def K0(a:V aV) n(k:a≠[]):(Xz<|n*Z a).map (λi=>a.toArray[i%a.toArray.size]!)=((bc n a).flatten).toArray:=by
 apply Array.ext
 .simp
 .intro i g h2;simp at g;have l:0<Z a:=bQ.2 k;have f:i%Z a<Z a:=fS _ l;simp only[Array.getElem_map,Array.getElem_range,List.size_toArray,ai3];rw[getElem!_pos _ _ (by simpa using f),ai3];have m:i/Z a<n:=yL (by rw[gG];exact g);have o:=Xx a n (i/Z a) m;have p:i=i/Z a*Z a+i%Z a:=by rw[gG];exact(rC i<|Z a).symm
  have d:(c (Z a)<|(bc n a).flatten.drop<|i/Z a*Z a)[i%Z a]? =a[i%Z a]? :=by rw[o]
  rw[AH f,tT,<-p]at d;rw[cO qq,cO f]at d;simp only[ar]at d;exact d.symm
def XA{ops}{i}{o:a4}{d:Y}(ho:ops[i]? =ad o)(hg:o.guard=none)(hd:o.dst=ad d){n}(dz:d<n){L}{cC}{T}{xs}new(hlen:Z xs*T.n<=140737488355328)
  (dj:∀(iz:fj)(f:Y->Prop)(σ:Kn)(g:Gh)(W:cQ)(a:Act),bx iz f σ g W a->(∀kx∈oo L o.op,σ kx.1=ad kx.2)->
   ∃(vs:V aV)(l:Y)(U:cQ),(execOp a.eval o).run P W= .ok (.value<|.slice (ad ⟨W.heap.size,0,none⟩) (Z xs) l) {U with heap:=W.heap.push<|.cells vs.toArray cC (0,0)}/\U.os=W.os/\U.tape=W.tape/\U.output=W.output/\Z vs=l*T.n/\Z xs<=l/\
    ∀i(dj:i<Z xs),cZ g.H T xs[i] ((aA (i*T.n) vs).take T.n)):
  kT P n ops i L ((L.pm new<|.vec cC T xs).put d<|.c<|.X new) new (bK o.op.operands.toList,[.s d,.m new]):=by
 refine⟨oo L o.op,[(.s d,ad<|.v<|.c<|.X new),(.m new,ad<|.b<|.vec cC T xs)],?_,rv L _,DI L d new _ _,eO L _,λk hk=>jG⟩
 intro iz kO Q f σ g W a K A aR z N
 let ⟨vs,l,U,j,O,R,S,D,hle,q⟩:=dj iz f σ g W a aR z
 unfold wpOp
 simp only[ho,gV,hg,cj]
 refine .inl ?_
 unfold nK
 rw[j]
 simp only[nL,hd]
 have G:d<a.tmps.size:=mD
 let M:Gh:=⟨g.H,λB=>if B=new then .slice (ad ⟨W.heap.size,0,none⟩) (Z xs) l else g.γ B⟩
 have r:gC f g M:=⟨cL.refl _,λB p=>by
  have:B≠new:=λe=>A<|e▸p
  simp[M,this]⟩
 have x:∀o,g.H W.heap.size o=none:=by
  intro o;cases hv:g.H W.heap.size o with
  |none=>rfl
  |some v=>
   have:=DC W _<|aR.sub _ _ _ hv
   simp at this
 have w:Sub g.H {U with heap:=W.heap.push<|.cells vs.toArray cC (0,0)}:=by have:=A1 aR.sub<|.cells vs.toArray cC (0,0);exact this
 refine N M _ _<|aR.step (chg:=λ_=>False) (g':=M) ⟨r,λ_ _ _=>rfl,w,az,λk hk _=>DB W _ k hk,O,R,S⟩ _ new A mE aR.defers ?_ (λ_ dj=>dj.elim) ?_ ?_ ?_ ?_
 .intro t ht;have I:d≠t:=qn;simp[im,lE I]
 .intro t u ht;simp only[aE]at ht;split at ht
  .rename_i e;simp only[Key.s.injEq]at e;simp only[ar,Info.v.injEq]at ht;subst e;subst ht;simp[im,G,bu,c7,M]
  .split at ht
   .simp at ht
   .simp at ht
 .intro B b ht;simp only[aE,reduceCtorEq,bN]at ht;split at ht
  .rename_i e;simp only[Key.m.injEq]at e;subst e;simp only[ar,Info.b.injEq]at ht;subst ht;refine⟨.inr ⟨W.heap.size,l,vs,by simp[M],az,D,hle,hlen,q,.inl aR.below.size,x⟩,.inr ⟨J,λk hk=> .inl ?_⟩⟩;simp only[M,cj,cE,ar]at hk;omega
  .simp at ht
 .intro k y ht;simp only[aE]at ht;split at ht
  .simp only[ar]at ht;subst ht;intro B p;simp[Info.ak,AV.ak,C.ak]at p;exact .inr p
  .split at ht
   .simp only[ar]at ht;subst ht;intro B p;simp[Info.ak,aG.ak]at p
   .simp at ht
 .intro B y ht;simp only[aE,reduceCtorEq,bN]at ht;split at ht
  .rename_i e;simp only[Key.m.injEq]at e;exact .inr e.symm
  .simp at ht
def ai4{U}{i}{o:a4}{d:Y}(ho:U[i]? =ad o)(hg:o.guard=none)(hd:o.dst=ad d){n}(dz:d<n){L}{cC}{T}{xs}new(hlen:Z xs*T.n<=140737488355328)
  (dj:∀(iz:fj)(l:Y->Prop)(σ:Kn)(g:Gh)(W:cQ)(a:Act),bx iz l σ g W a->(∀kx∈oo L o.op,σ kx.1=ad kx.2)->
   ∃(vs:V aV)(f:Y)(M:cQ),(execOp a.eval o).run P W= .ok (.value<|.slice (ad ⟨W.heap.size,0,none⟩) (Z xs) f) {M with heap:=W.heap.push<|.cells vs.toArray cC (0,0)}/\M.os=W.os/\M.tape=W.tape/\M.output=W.output/\Z vs=f*T.n/\Z xs<=f/\
    ∀i(dj:i<Z xs),cZ g.H T xs[i] ((aA (i*T.n) vs).take T.n)):
  kT P n U i L (L.put d<|.c<|.S T xs) new (bK o.op.operands.toList,[.s d]):=by
 refine⟨oo L o.op,[(.s d,ad<|.v<|.c<|.S T xs)],?_,rv L _,oS L d _,eO L _,λk hk=>jG⟩
 intro iz kO Q l σ g W a K X aR z hK
 let ⟨vs,f,M,q,e1,e2,e3,vI,hle,A⟩:=dj iz l σ g W a aR z
 unfold wpOp
 simp only[ho,gV,hg,cj]
 refine .inl ?_
 unfold nK
 rw[q]
 simp only[nL,hd]
 have D:d<a.tmps.size:=mD
 let p:Gh:=⟨λb o=>if b=W.heap.size then vs[o]? else g.H b o,g.γ⟩
 have x:∀o,g.H W.heap.size o=none:=by
  intro o;cases m:g.H W.heap.size o with
  |none=>rfl
  |some v=>
   have:=DC W _<|aR.sub _ _ _ m
   simp at this
 have B:cL g.H p.H:=by
  intro b o v m;by_cases e:b=W.heap.size
  .subst e;rw[x]at m;cases m
  .simp[p,e,m]
 have r:Sub p.H {M with heap:=W.heap.push<|.cells vs.toArray cC (0,0)}:=by
  intro b o v m;by_cases e:b=W.heap.size
  .subst e;simp only[p,cj]at m;simp[DA,m]
  .simp only[p,e,bN]at m;exact A1 aR.sub (.cells vs.toArray cC (0,0)) b o v m
 refine hK p _ _<|aR.step (chg:=λ_=>False) (g':=p) ⟨⟨B,λ_ _=>rfl⟩,?_,r,az,λk hk _=>DB W _ k hk,e1,e2,e3⟩ _ new X mE aR.defers ?_ (λ_ dj=>dj.elim) ?_ ?_ ?_ ?_
 .intro b o hb;have:b≠W.heap.size:=O;simp[p,this]
 .intro t ht;have G:d≠t:=qn;simp[im,lE G]
 .intro t u ht;simp only[aE]at ht;split at ht
  .rename_i e;simp only[Key.s.injEq]at e;simp only[ar,Info.v.injEq]at ht;subst e;subst ht;have w:(a.put (ad d)<|.slice (ad ⟨W.heap.size,0,none⟩) (Z xs) f).tmps.getD d undef= .slice (ad ⟨W.heap.size,0,none⟩) (Z xs) f:=by simp[im,D]
   rw[w];refine⟨_,f,J,hle,hlen,?_⟩;by_cases hx:xs=[]
   .exact .inl hx
   .refine .inr ⟨W.heap.size,0,J,λk hk=>⟨(aA (k*T.n) vs).take T.n,cZ.length T _ _<|A k hk,cZ.mono B T _ _<|A k hk,λj hj=>?_⟩⟩;have I:(k+1)*T.n<=f*T.n:=eC _ O;rw[gO,jn]at I;simp only[eL,Bd]at hj;simp only[p,cj,ff,qk,tQ];exact cO O
  .simp at ht
 .intro R b ht;simp[aE]at ht
 .intro k y ht;simp only[aE]at ht;split at ht
  .simp only[ar]at ht;subst ht;intro R N;simp[Info.ak,AV.ak,C.ak]at N
  .simp at ht
 .intro R y ht;simp[aE]at ht
def ai5(y:cq P tt=ae){A}{i}{o:a4}{d:Y}(ho:A[i]? =ad o)(hg:o.guard=none)(hd:o.dst=ad d){n}(dz:d<n){t}{x}(b6:o.op= .makeSlice t x x)
 {Q}{m:Y} {k}(hx:Q.ev x=ad (.c<|.I k (m:Int))) {U}{ti l:TI} (oR:S t tt=ad ti) (hk:ti.kind= .sl U) (ni:S U tt=ad l) (T:ET) (vB:l.size=T.n)
  (hz:∀g:Gh,aW g (av T T.dE) (l.zero.map ZV.e9)) (hb:m*l.bytes<=281474976710656) (nQ:m*T.n<=140737488355328) (p:Y):
  kT P n A i Q ((Q.pm p<|.vec U T<|bc m T.dE).put d<|.c<|.X p) p (bK o.op.operands.toList,[.s d,.m p]):=by
 refine XA ho hg hd dz p (by simpa using nQ) ?_
 intro F b R g W a B h
 have G:a.eval x= .int k (m:Int):=dA B Q x _ hx<|λkx b7=>h kx QF
 have w:=(eS y oR).kind
 rw[hk]at w
 let ⟨inf,C,H,K,z,q,wZ⟩:=(eS y ni).info
 have f:Z (l.zero.map ZV.e9)=T.n:=cZ.length T _ _<|AG T _ _<|hz g
 have L:z.cells=(l.zero.map ZV.e9).toArray:=DH
 have M:(l.zero.map ZV.e9)≠[]:=by intro e;rw[e]at f;have:=T.AE;simp at f;omega
 have N:m*1<=m*T.n:=fN m T.AE
 have r:(inf.bytes:Int)*(m:Int)<=281474976710656:=by
  rw[K];have:(l.bytes:Int)*(m:Int)=((m*l.bytes:Y):Int):=by rw[gG];simp
  rw[this];omega
 have u:=run_make (P:=P) W t U inf z w C q k k m m O O r O
 refine⟨(bc m<|l.zero.map ZV.e9).flatten,m,W,?_,J,J,J,?_,az,?_⟩
 .rw[execOp,b6];have v:madeCells z.cells (m*inf.size)=((bc m<|l.zero.map ZV.e9).flatten).toArray:=by rw[H,vB,L,<-f,<-K0 _ m M];rfl
  simp only[bY]at u;rw[v]at u;simp only[G,dn,u,dx,fo];rfl
 .rw[Xy,f]
 .intro j D;simp only[fo]at D;have:=Xx (l.zero.map ZV.e9) m j D;rw[f]at this;rw[this,List.getElem_replicate];exact AG T _ _<|hz g
end
section
variable{P:bW}{tt:TT}{n:Y}{Q:ma}{st:St}
def yM(d:Y)(T:ET)(xs:V T.den):C->C
 | .X a=>if a=d then .S T xs else .X a
 | .Y a m i off=>if a=d then .any else .Y a m i off
 |f=>f
def Be(a:Y)(T:ET)(xs:V T.den):V C->V C
 |[]=>[]
 |d::f=>yM a T xs d::Be a T xs f
def G6(a:Y)(T:ET)(xs:V T.den):V (Bool×V C)->V (Bool×V C)
 |[]=>[]
 | (d,cs)::f=>(d,Be a T xs cs)::G6 a T xs f
def G7(d:Y)(T:ET)(xs:V T.den):AV->AV
 | .c x=> .c<|yM d T xs x
 | .a cs=> .a<|Be d T xs cs
 | .t f=> .t<|G6 d T xs f
def xb(a:Y)(T:ET)(xs:V T.den):V (Y×AV)->V (Y×AV)
 |[]=>[]
 | (t,v)::d=>(t,G7 a T xs v)::xb a T xs d
def QG(a:Y)(T:ET)(xs:V T.den):aG->aG
 | .box d f cs=> .box d f<|Be a T xs cs
 |g=>g
def tZ(a:Y)(T:ET)(xs:V T.den):V (Y×aG)->V (Y×aG)
 |[]=>[]
 | (d,g)::f=>if d=a then tZ a T xs f else(d,QG a T xs g)::tZ a T xs f
def XB(a:Y)(T:ET)(xs:V T.den)(t:Y):∀l,S t (xb a T xs l)=(S t l).map (G7 a T xs)
 |[]=>rfl
 | (k,v)::d=>by
  simp only[xb,S];split
  .rfl
  .exact XB a T xs t d
def QH(d:Y)(T:ET)(xs:V T.den)(t:Y):∀l,S t (tZ d T xs l)=if t=d then none else(S t l).map (QG d T xs)
 |[]=>by simp[tZ,S]
 | (k,v)::f=>by
  simp only[tZ,S];split
  .rename_i a;subst a;rw[QH k T xs t f];split
   .rfl
   .rename_i g;rw[w (λa=>g a.symm)]
  .rename_i a;simp only[S];split
   .rename_i i;subst i;rw[w a];rfl
   .exact QH d T xs t f
def XC id T xs d:∀f∈(yM id T xs d).ak,f∈d.ak:=by
 intro f a;cases d with
 |X k=>simp only[yM]at a;split at a;simp[C.ak]at a;exact a
 |Y k m i off=>simp only[yM]at a;split at a;simp[C.ak]at a;exact a
 |_=>exact a
def K1(g:Y)(T:ET)(xs:V T.den):∀(d:V C),∀a∈bV (Be g T xs d),a∈bV d
 |[],a,f=>f
 |i::d,a,f=>by simp only[Be,bV,bg]at f⊢;exact f.imp (XC g T xs i a)<|K1 g T xs d a
def XD(g:Y)(T:ET)(xs:V T.den):∀(d:V (Bool×V C)),∀a∈eW (G6 g T xs d),a∈eW d
 |[],a,f=>f
 | (k,i)::d,a,f=>by simp only[G6,eW,bg]at f⊢;exact f.imp (K1 g T xs i a)<|XD g T xs d a
def ai6 id T xs v:∀d∈(G7 id T xs v).ak,d∈v.ak:=by
 cases v with
 |c x=>exact XC id T xs x
 |a cs=>exact K1 id T xs cs
 |t f=>exact XD id T xs f
section
variable{id:Y}{T:ET}{xs:V T.den}{known:Y->Prop}{g g':Gh}
def QI(d:gC known g g')(l:lZ (cZ g'.H T) T.n g'.H xs (g.γ id)):∀{a:C}{v:aV},(∀o∈a.ak,known o)->c7 g a v->c7 g' (yM id T xs a) v:=by
 intro a v f h;cases a with
 |X k=>
  simp only[yM]
  split
  .rename_i e;subst e;simp only[c7]at h;subst h;exact l
  .exact c7.mono d f h
 |Y k m i off=>
  simp only[yM]
  split
  .trivial
  .exact c7.mono d f h
 |_=>exact c7.mono d f h
def K2(k:gC known g g')(l:lZ (cZ g'.H T) T.n g'.H xs (g.γ id)):∀{d:V C}{vs:V aV},(∀a∈bV d,known a)->aW g d vs->aW g' (Be id T xs d) vs
 |[],_,_,f=>f
 |_::_,_,m,f=>by let ⟨v,o,p,s,h2⟩:=f;exact⟨v,o,p,QI k l (λa i=>m a<|by simp[bV,i]) s,K2 k l (λa i=>m a<|by simp[bV,i]) h2⟩
def XE(m:gC known g g')(o:lZ (cZ g'.H T) T.n g'.H xs (g.γ id)):∀{p:V (Bool×V C)}{vs:V aV},(∀a∈eW p,known a)->fJ g p vs->fJ g' (G6 id T xs p) vs
 |[],_,_,d=>d
 | (u,l)::_,_,t,d=>by
  let ⟨v,x,s,f,h2⟩:=d;refine⟨v,x,s,?_,XE m o (λa i=>t a<|by simp[eW,i]) h2⟩;have k:∀a∈bV l,known a:=λa i=>t a (by simp[eW,i])
  match u,l,f with
  |true,l,f=>let ⟨vs,s,d⟩:=f;exact⟨vs,s,K2 m o k d⟩
  |false,[l],f=>exact QI m o (λa i=>k a<|by simp[bV,i]) f
def ai7(f:gC known g g')(i:lZ (cZ g'.H T) T.n g'.H xs (g.γ id)){x}{v}(k:∀l∈x.ak,known l)(d:bu g x v):bu g' (G7 id T xs x) v:=by
 cases x with
 |c y=>exact QI f i k d
 |a cs=>let ⟨vs,e,d⟩:=d;exact⟨vs,e,K2 f i k d⟩
 |t m=>let ⟨vs,e,d⟩:=d;exact⟨vs,e,XE f i k d⟩
end
def G8 d{cC}{T}{xs}{M}{mem}{U}{gd}(hl:S d mem=ad (.vec cC T xs)):Wk ⟨M,mem,U,gd⟩ ⟨xb d T xs M,tZ d T xs mem,U,gd⟩:=by
 intro F sT g W a h;have C:St.kn ⟨M,mem,U,gd⟩ (.m d)=ad (.b<|.vec cC T xs):=A';have Y:=h.cX d _ C;have main:∀y:Gh,gC (kb ⟨M,mem,U,gd⟩) g y->lZ (cZ y.H T) T.n y.H xs (g.γ d)->Sub y.H W->(∀b o,b<F.w0.heap.size->¬F.own b->y.H b o=F.H0 b o)->(∀b o,cE (g.γ d)≠ad b->y.H b o=g.H b o)->y.γ=g.γ->
   bx F (kb ⟨xb d T xs M,tZ d T xs mem,U,gd⟩) (St.kn ⟨xb d T xs M,tZ d T xs mem,U,gd⟩) y W a:=by
  intro y u hX rE yN hH hγ
  have hS:∀t X,St.kn ⟨xb d T xs M,tZ d T xs mem,U,gd⟩ (.s t)=ad (.v X)->∃v,St.kn ⟨M,mem,U,gd⟩ (.s t)=ad (.v v)/\X=G7 d T xs v:=by intro t X e;simp only[St.kn,XB,Option.map_map,cG]at e;let ⟨v,hv,he⟩:=e;cases he;exact⟨v,A7,J⟩
  have hM:∀j l,St.kn ⟨xb d T xs M,tZ d T xs mem,U,gd⟩ (.m j)=ad (.b l)->∃b,St.kn ⟨M,mem,U,gd⟩ (.m j)=ad (.b b)/\l=QG d T xs b/\j≠d:=by
   intro j l e;simp only[St.kn,QH]at e;split at e
   .simp at e
   .rename_i N;simp only[Option.map_map,cG]at e;let ⟨b,A,he⟩:=e;cases he;exact⟨b,by simp[St.kn,A],J,N⟩
  refine⟨h.size,h.defers,?_,?_,?_,?_,?_,rE,h.below,h.le.trans u.H,yN,λd C=>⟨(h.gK d C).1,by rw[hγ];exact(h.gK d C).2⟩⟩
  .intro t X e;obtain⟨v,hv,rfl⟩:=hS t X e;exact ai7 u hX (λj K=>h.ak _ _ hv j K)<|h.eY t v hv
  .intro j l e;obtain⟨b,A,rfl,N⟩:=hM j l e;have q:=h.cX j b A;have p:∀k,cE (g.γ j)=ad k->cE (g.γ d)≠ad k:=λk R r=>N (h.inj j d b _ k A C R r)
   cases b with
   |box E' bz cs=>
    let ⟨k,vs,rest,e1,B,w,z,D,e6⟩:=q
    exact⟨k,vs,rest,qt,B,K2 u hX (λi L=>h.ak _ _ A i L) w,z,λo=>by rw[hH k o (p k e1)];exact D o,by rw[hγ];exact e6⟩
   |vec E' T' ys=>
    rcases q with⟨e1,B⟩|⟨k,G,vs,e1,B,w,z,K3,D,e6,e7⟩
    .exact .inl ⟨qt,B⟩
    .exact .inr ⟨k,G,vs,qt,B,w,z,K3,λi L=>cZ.mono u.H _ _ _<|D i L,e6,λo=>by rw[hH k o (p k<|by rw[e1];rfl)];exact e7 o⟩
   |hY f first Bf=>
    let ⟨us,ws,e1,B,w⟩:=q
    exact⟨us,ws,qt,fJ.mono u (λi L=>h.ak _ _ A i<|eH _ L) B,fJ.mono u (λi L=>h.ak _ _ A i<|gD _ L) w⟩
   |fz E' cs=>
    let ⟨k,vs,rest,e1,B,w,z,D⟩:=q
    exact⟨k,vs,rest,qt,B,aW.mono u (λi L=>h.ak _ _ A i L) w,z,λo=>by rw[hH k o (p k e1)];exact D o⟩
   |mp ka va ys=>
    let ⟨k,es,e1,B,w,z,D⟩:=q
    exact⟨k,es,qt,B,iy.mono u (λi L=>h.ak _ _ A i L) w,z,λo=>by rw[hH k o (p k<|by rw[e1];rfl)];exact D o⟩
   |it m n seen=>
    let ⟨k,b,e1,e0,B,z,D⟩:=q
    exact⟨k,b,qt,by rw[hγ];exact e0,B,z,λo=>by rw[hH k o (p k<|by rw[e1];rfl)];exact D o⟩
  .intro i j b l k e e' R r;let ⟨c,hc,_⟩:=hM i b e;let ⟨c',K4,_⟩:=hM j l e';rw[hγ]at R r;exact h.inj i j c c' k hc K4 R r
  .intro k x e j K;cases k with
   |s t=>
    cases x with
    |v X=>obtain⟨v,hv,rfl⟩:=hS t X e;exact h.ak _ _ hv j<|ai6 d T xs v j K
    |b l=>simp only[St.kn,cG]at e;let ⟨_,_,he⟩:=e;cases he
   |m i=>
    cases x with
    |v X=>simp only[St.kn,cG]at e;let ⟨_,_,he⟩:=e;cases he
    |b l=>
     obtain⟨b,A,rfl,_⟩:=hM i l e
     refine h.ak _ _ A j ?_
     cases b with
     |box E' bz cs=>exact K1 d T xs cs j K
     |vec E' T' ys=>exact K
     |hY f first Bf=>exact K
     |fz E' cs=>exact K
     |mp ka va ys=>exact K
     |it m n seen=>exact K
  .intro i x e;cases x with
   |v X=>simp only[St.kn,cG]at e;let ⟨_,_,he⟩:=e;cases he
   |b l=>let ⟨b,A,_⟩:=hM i l e;exact h.ew _ _ A
 rcases Y with⟨hγ,hx⟩|⟨b,G,vs,hγ,hh,vI,u,hlen,q,hN,hz⟩
 .refine⟨g,main g ⟨cL.refl _,λ_ _=>rfl⟩ ?_ h.sub h.fresh (λ_ _ _=>rfl) J⟩;subst hx;exact⟨none,0,hγ,az,az,.inl J⟩
 .let y:Gh:=⟨λl o=>if l=b then(if o<Z xs*T.n then vs[o]? else none)else g.H l o,g.γ⟩;have I:cL g.H y.H:=by
   intro l o v hv;by_cases e:l=b
   .subst e;rw[hz]at hv;cases hv
   .simp[y,e,hv]
  refine⟨y,main y ⟨I,λ_ _=>rfl⟩ ?_ ?_ ?_ ?_ J⟩
  .refine⟨ad ⟨b,0,none⟩,G,hγ,u,hlen,?_⟩;by_cases hx:xs=[]
   .exact .inl hx
   .refine .inr ⟨b,0,J,λk R=>⟨(aA (k*T.n) vs).take T.n,cZ.length T _ _<|q k R,cZ.mono I T _ _<|q k R,λj K=>?_⟩⟩;have QJ:(k+1)*T.n<=G*T.n:=eC _ O;have K5:(k+1)*T.n<=Z xs*T.n:=eC _ O;rw[gO,jn]at QJ K5;simp only[eL,Bd]at K;have hZ:k*T.n+j<Z xs*T.n:=O;simp only[y,cj,ff,qk,tQ,hZ];exact cO O
  .intro l o v hv;by_cases e:l=b
   .subst e;simp only[y,cj]at hv;split at hv
    .simp[DA,hh,hv]
    .cases hv
   .simp only[y,e,bN]at hv;exact h.sub l o v hv
  .intro l o V nj;have:l≠b:=by
    intro e;subst e;rcases hN with h1|h1
    .omega
    .exact nj h1
   simp only[y,this,bN];exact h.fresh l o V nj
  .intro l o V;have:l≠b:=λe=>V (by rw[hγ,e];rfl)
   simp[y,this]
def cY id{l}{T}{xs}{f}{g}{mem}{i}{k}(m:S id mem=ad (.vec l T xs)){d}{a}(o:xb id T xs g=d)(p:tZ id T xs mem=a)
  (s:TR P n f ⟨d,a,i,k⟩ Q):TR P n f ⟨g,mem,i,k⟩ Q:=by
 subst o p
 exact eP (G8 id m) s
def vJ t{T}{xs}{f}{d}{mem}{i}{k}(hl:S t d=ad (.c<|.S T xs))(m:Z xs*T.n<=140737488355328->TR P n f ⟨d,mem,i,k⟩ Q):TR P n f ⟨d,mem,i,k⟩ Q:=by intro F o g W a l;have p:c7 g (.S T xs) (a.tmps.getD t undef):=l.eY t (.c<|.S T xs) A';let ⟨_,_,_,_,h2,_⟩:=p;exact m h2 F o g W a l
def ai8{f}{a}{l i}{d t}{x}{ty}{pos}{p}{os}{u}{mem}{y}{A}{ks}{Q:St->Prop}(B:cq P tt=ae)
 T (m:Y) {k}{v}(hx:St.ev ⟨u,mem,y,A⟩ x=ad (.c<|.I k v)) (hv:v=(m:Int)) {H}{ti o}(L:S t tt=ad ti) (hk:ti.kind= .sl H) (M:S H tt=ad o) (U:o.size=T.n)
  (hz:∀g:Gh,aW g (av T T.dE) (o.zero.map ZV.e9)) (hb:m*o.bytes<=281474976710656) (W:m*T.n<=140737488355328)
  (dj:RG P n f a l (i+1) os ⟨(d,.c<|.X<|1000000*l+1000*i)::u,(1000000*l+1000*i,.vec H T<|bc m T.dE)::mem,y,A⟩ (ia a ks (bK [x,x],[.s d,.m<|1000000*l+1000*i])) Q) (dz:dy d n=ae:=by rfl):
  RG P n f a l i (⟨ad d,.makeSlice t x x,ty,pos,p,none⟩::os) ⟨u,mem,y,A⟩ ks Q:=by
 subst hv
 exact nc (λC=>ai5 B C J J (c8 dz) J hx L hk M T U hz hb W _)<|nh dj
def ai9{o}{a}{B i}{t}{x y}{ty}{pos}{p}{H}{d}{mem}{f}{g}{L}{Q:St->Prop}(s:cq P tt=ae)
 {l m k}{M}{T}{xs}{U}(hx:St.ev ⟨d,mem,f,g⟩ x=ad (.c<|.Y l m k 0)) (hl:S l mem=ad (.vec M T xs)) (hy:St.ev ⟨d,mem,f,g⟩ y=ad U) (hm:T.n=m) {ag}(u:qj tt t=ad (m,ag)) (W:T.den) (v:kQ U=ad (av T W)) (hk:k<Z xs)
  (h:RG P n o a B (i+1) H ⟨d,(l,.vec M T<|xs.set k W)::mem,f,g⟩ (ia a L (bK [x,y]++cV [l],[.m l])) Q):
  RG P n o a B i (⟨none,.store t x y,ty,pos,p,none⟩::H) ⟨d,mem,f,g⟩ L Q:=by
 refine nc (λC=>⟨_,_,Xk s C J J J hx hy hl hm u v hk _,?_,Qy ⟨d,mem,f,g⟩ l _,?_,λk hk=>jG⟩)<|nh h
 .intro kx A;rcases bg.1 A with h|h
  .rcases bg.1 h with h|h
   .exact eD _ x kx h
   .exact eD _ y kx h
  .exact kr _ [l] kx h
 .intro k hk;simp only[dI,fM,bg]at hk;rcases hk with(h|h)|h
  .exact eH _<|eO ⟨d,mem,f,g⟩ [x,y] k tV
  .exact eH _<|eO ⟨d,mem,f,g⟩ [x,y] k vD
  .exact gD _<|ku ⟨d,mem,f,g⟩ [l] k h
end
section
variable{P:bW}{tt:TT}{n:Y}
def K6:∀(T:ET)(x:T.den),Z (av T x)=T.n
 | .int _,_=>rfl
 | .bool,_=>rfl
 | .z,_=>rfl
 | .q,_=>rfl
 | .sl _,_=>rfl
 | .pr A B,x=>by simp[av,K6 A,K6 B]
def XF{g:Gh}(T:ET):∀(xs:V T.den)(vs:V aV),aW g (xs.flatMap<|av T) vs->∀i(h:i<Z xs),cZ g.H T xs[i] ((aA (i*T.n) vs).take T.n)
 |[],_,_,i,h=>by simp at h
 |x::xs,vs,d,i,h=>by
  rw[lG]at d;obtain⟨a,k,rfl,f,l⟩:=Gn d;have m:Z a=T.n:=by rw[f.length,K6]
  cases i with
  |zero=>
   simp only[sU,qu,vu]
   rw[wY O,iY O]
   exact AG T x a f
  |succ i=>
   simp only[AU]
   rw[show(i+1)*T.n=Z a+i*T.n by rw[gO,jn];omega,<-qp,List.drop_left]
   exact XF T xs k l i et
def vK(sz:Y):Y->Y->V (Y×Y)
 |_,0=>[]
 |k,m+1=>(k*sz,sz)::vK sz (k+1) m
def K7(sz:Y):∀(m k i:Y)(x:Y×Y),(vK sz k m)[i]? =ad x->x=((k+i)*sz,sz)
 |0,_,_,_,a=>by simp[vK]at a
 |m+1,k,0,x,a=>by simp[vK]at a;simp[<-a]
 |m+1,k,i+1,x,a=>by simp only[vK,wW]at a;have:=K7 sz m (k+1) i x a;rw[this,(O:k+1+i=k+(i+1))]
def DU(l:V C):Y->V C
 |0=>[]
 |m+1=>l++DU l m
def K8{g:Gh}{l:V C}{vs:V aV}(a:aW g l vs):∀m,aW g (DU l m) ((bc m vs).flatten)
 |0=>rfl
 |m+1=>by rw[wP,KZ];exact aW.append a<|K8 a m
def XG{l:V C}(f:bV l=[]):∀m,bV (DU l m)=[]
 |0=>rfl
 |m+1=>by
  have:=XG f m;apply QK.2;intro g d;rcases Dz _ _ g d with a|a
  .rw[f]at a;cases a
  .rw[this]at a;cases a
def vL(tt:TT)(g:St)(t d:Y)(a:V (Y×eI)):ax (Y×TI×V C):=match S t tt with
 |some i=>(match i.kind with
  | .sl E=>(match S E tt with
   |some f=>(match A2 (vK f.size 0 d) g (DU (f.zero.map ZV.qi) d) a with
    |some cs=>ad (E,f,cs)
    |none=>none)
   |none=>none)
  |_=>none)
 |none=>none
def XH(di:cq P tt=ae){iz}{v:Y->Prop}{σ}{g}{W}{a}(M:bx iz v σ g W a){st}{o}{t d}{k}(b6:o.op= .buildSlice t d k){cC}{ei}{T}{xs}(hT:ei.size=T.n)(Q:Z xs=d)(ai':d*T.n<=16777216)
  (m:vL tt st t d k.toList=ad (cC,ei,xs.flatMap<|av T)) (gN:∀kx∈oo st o.op,σ kx.1=ad kx.2):
  ∃(vs:V aV)(A:Y)(W1:cQ),(execOp a.eval o).run P W= .ok (.value<|.slice (ad ⟨W.heap.size,0,none⟩) (Z xs) A) {W1 with heap:=W.heap.push<|.cells vs.toArray cC (0,0)}/\W1.os=W.os/\W1.tape=W.tape/\W1.output=W.output/\Z vs=A*T.n/\Z xs<=A/\
    ∀i(U:i<Z xs),cZ g.H T xs[i] ((aA (i*T.n) vs).take T.n):=by
 unfold vL at m
 split at m
 .rename_i ti D;split at m
  .rename_i E' hk;split at m
   .rename_i l ni;split at m
    .rename_i cs G;simp only[ar,bM]at m;obtain⟨rfl,rfl,rfl⟩:=m;have hu:=(eS di D).kind;rw[hk]at hu;let ⟨inf,vC,X,_,z,hz,wZ⟩:=(eS di ni).info;have b:z.cells=(l.zero.map ZV.e9).toArray:=DH;let ⟨us,c,iZ,hu3,hu4⟩:=GU M st (vK l.size 0 d) (λi=>ad (i*l.size,l.size)) (λi x U=>by rw[K7 _ _ _ _ _ U];simp) k.toList _ _ _ G (K8 (yG g l.zero) d) (λp hp kx I=>gN kx<|by rw[b6];refine jb.2 ⟨p.2,?_,I⟩;simp only[Op.operands,iJ];exact⟨p,hp,J⟩) QL;have B:=iZ.length;have N:∀j:V T.den,Z (j.flatMap<|av T)=Z j*T.n:=by
      intro j;induction j with
      |nil=>simp
      |cons y j ih=>simp[K6,ih,gO,K9]
     rw[N]at B;refine⟨us,Z xs,W,?_,J,J,J,B,aO _,XF T xs us iZ⟩;have C:execOp a.eval o=(do pure (.value<|<-G9 t d (k.map λ(i,x)=>(i,a.eval x)))):=vA;have q:(k.map λ(i,x)=>(i,a.eval x)).toList=k.toList.map λp=>(p.1,a.eval p.2):=az
     have K:Z (l.zero.map ZV.e9)=l.size:=QM;have G':0<l.size:=by rw[hT];exact T.AE
     have O:(zeroValue E').run P W= .ok z W:=Qx;have s:((Xz<|d*l.size).map<|λi=>(l.zero.map ZV.e9).toArray[i%(l.zero.map ZV.e9).toArray.size]!)=((bc d<|l.zero.map ZV.e9).flatten).toArray:=by have:=K0 (l.zero.map ZV.e9) d (by intro e;rw[e]at K;simp at K;omega);rw[K]at this;exact this
     have hb:(G9 t d<|k.map λ(i,x)=>(i,a.eval x)).run P W= .ok (.slice (ad ⟨W.heap.size,0,none⟩) d d) {W with heap:=W.heap.push<|.cells us.toArray E' (0,0)}:=by
      unfold G9;rw[dn,run_underlying hu];simp only[dx];rw[dn,run_sizeOf vC];simp only[dx,X];rw[w (by rw[hT];omega)];by_cases r:d*l.size=0
      .have L:d=0:=by
        rcases Nat.mul_eq_zero.1 r with U|U
        .exact U
        .omega
       subst L;have R:us=[]:=eT (by rw[B,Q];simp);subst R;have u:=c;simp only[DV,List.flatten_nil]at u;have S:∀f:Y->aV,(Xz 0).map f= #[]:=λf=>by simp
       simp only[sU,cj,pure_bind,S,q,u];rfl
      .rw[w r];simp only[pure_bind,dn,O,dx,b,s,q,c];rfl
     rw[C,dn,hb,Q];rfl
    .simp at m
   .simp at m
  .simp at m
 .simp at m
def aja{l}{g}{H i}{d t k}{a}{W}{pos}{p}{L}{u}{mem}{v}{x}{M}{Q:St->Prop}(y:cq P tt=ae)
 T xs {cC}{U}(hv:vL tt ⟨u,mem,v,x⟩ t k a.toList=ad (cC,U,xs.flatMap<|av T)) (hT:U.size=T.n) (m:Z xs=k) (f:dP (k*T.n) 16777216=ae)
  (dj:RG P n l g H (i+1) L ⟨(d,.c<|.S T xs)::u,mem,v,x⟩ (ia g M (bK (Op.buildSlice t k a).operands.toList,[.s d])) Q) (A:dy d n=ae:=by rfl):
  RG P n l g H i (⟨ad d,.buildSlice t k a,W,pos,p,none⟩::L) ⟨u,mem,v,x⟩ M Q:=
 nc (λC=>ai4 C J J (c8 A) _ (by have:=c8 f;rw[m];omega)<|λ_ _ _ _ _ _ o B=>XH y o J hT m (c8 f) hv B) (nh dj)
def ajb{l}{g}{o i}{d t k}{a}{ty}{pos}{v}{L}{x}{mem}{y}{A}{M}{Q:St->Prop}(B:cq P tt=ae)
 T xs {U}{W}(hv:vL tt ⟨x,mem,y,A⟩ t k a.toList=ad (U,W,xs.flatMap<|av T)) (hT:W.size=T.n) (p:Z xs=k) (f:dP (k*T.n) 16777216=ae)
  (dj:RG P n l g o (i+1) L ⟨(d,.c<|.X<|1000000*o+1000*i)::x,(1000000*o+1000*i,.vec U T xs)::mem,y,A⟩ (ia g M (bK (Op.buildSlice t k a).operands.toList,[.s d,.m<|1000000*o+1000*i])) Q) (H:dy d n=ae:=by rfl):
  RG P n l g o i (⟨ad d,.buildSlice t k a,ty,pos,v,none⟩::L) ⟨x,mem,y,A⟩ M Q:=
 nc (λK=>XA K J J (c8 H) _ (by have:=c8 f;rw[p];omega)<|λ_ _ _ _ _ _ u C=>XH B u J hT p (c8 f) hv C) (nh dj)
end
end Go.El
