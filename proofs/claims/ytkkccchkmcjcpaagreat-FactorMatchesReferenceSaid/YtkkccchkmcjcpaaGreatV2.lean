/- The engine, part 11b: reading and writing vectors. Own work; no condition. -/
import Derived.KernelRfl
import Derived.Deep.DeepAppendWide
import Derived.Test.YtkkccchkmcjcpaaGreatV1
set_option linter.all false
set_option maxHeartbeats 16000000
set_option maxRecDepth 100000
open Array renaming range->Xh
open Bool renaming true->ae,false->ah
open Go renaming Program->cT,Oper->dv,Operand->rB,Value->bH,World->da,ResultVar->Ki
open Go.Act renaming put->jq
open Go.El renaming kZ->w
open Go.Exit renaming inBlock->Ga
open Go.Instr renaming indexAt->PW,build->F7,buildSlice->Xp
open Go.Oper renaming wp->uk,upon->sL
open Go.Region renaming wanted->nG,binds->uo
open Go.Result renaming andThen->eP
open Go.Sem renaming run_bind->dY,run->lU
open Go.World renaming block_lt_of_cell?->FZ
open Int renaming toNat->ad
open List renaming length->G,take->y,drop->aE,foldl_cons->W5,getD->Y,range->be,replicate->bh,flatten_cons->ahV,getElem_toArray->ahX
open Nat renaming testBit->mO,ble->iv,blt->f'
open _root_ renaming Nat->I,Option->bF,List->V
namespace Go.El
open Go Go.RowKit
section
variable{P:cT}{tt:TT}
def J3(tt:TT)(b:St)(d a:I)(i:AV):bF (AV×Pr):=match w a b.mem,i with
 |some (.vec _ T xs),.c (.I _ k)=>if vC tt d T.n then some (.c<|.Y a T.n (ad k) 0,.and (.le 0 k)<|.lt k<|G xs)else none
 |_,_=>none
def ahC(fc:cN P tt=ae){U}{i}{br:dv}{d:I}(ho:U[i]? =some br)(hg:br.guard=none)(hd:br.dst=some d){n}(dC:d<n){b9}{x R}(dZ:br.op= .indexAddr b9 x R)
 {l}{B}{vy v}{p:Pr} (hx:l.ev x=some (.c<|.X B)) (hy:l.ev R=some vy) (H:J3 tt l b9 B vy=some (v,p)) (hp:p) (new:I):
  ml P n U i (dO l x++dO l R++k5 l [B]) [(.s d,some<|.v v)] new:=by
 refine uu ho hg hd dC _ v new ?_
 intro F z S g W a f r
 have A:a.eval x=g.γ B:=gO f l x _ hx<|λq dL=>r q jt
 have D:=gO f l R vy hy<|λq dL=>r q jt
 have J:=uq f l x _ hx<|λq dL=>r q jt
 unfold J3 at H
 split at H
 .rename_i E T xs V k hl;split at H
  .rename_i L;simp only[aR,cG]at H;obtain⟨rfl,rfl⟩:=H;have M:S (.m B)=some (.b<|.vec E T xs):=r (.m B,.b<|.vec E T xs) sW;let ⟨e,i',N,Y,Z⟩:=CP fc L;have u:a.eval R= .int V k:=D;rcases f.db B _ M with⟨_,h0⟩|⟨b,O,vs,w,_⟩
   .subst h0;simp[Pr.h]at hp;omega
   .refine⟨λj hj=>J j (by simpa[AV.ar,C.ar]using hj),.pointer (some ⟨b,ad k*T.n,none⟩),?_,b,G xs,O,w,ax⟩;have K:execOp a.eval br=(do pure (.value<|<-PW b9 (a.eval x) (a.eval R))):=wV;rw[K,A,w,u];have Q:(0<=k/\k<(G xs:Int)):=hp;simp only[PW,asIntOf,dY,run_underlying N,eP];simp[Q,run_sizeOf Y,Z,pv]
  .simp at H
 .simp at H
def PX(tt:TT)(f:St)(g d a b:I)(i:AV):bF (AV×Pr):=match w d f.mem,i with
 |some (.vec _ T _),.c (.I _ k)=>if T.n=1/\vC tt g 1=ae then some (.c<|.Y d 1 (a+ad k) 0,.and (.le 0 k)<|.lt k b)else none
 |_,_=>none
def ahD(fc:cN P tt=ae){ops}{i}{br:dv}{d:I}(ho:ops[i]? =some br)(hg:br.guard=none)(hd:br.dst=some d){n}(dC:d<n){b9}{x dT}(dZ:br.op= .indexAddr b9 x dT)
 {r}{id Q R}{vy v}{p:Pr} (hx:r.ev x=some (.c<|.W id Q R)) (hy:r.ev dT=some vy) (U:PX tt r b9 id Q R vy=some (v,p)) (hp:p) (new:I):
  ml P n ops i (dO r x++dO r dT++k5 r [id]) [(.s d,some<|.v v)] new:=by
 refine uu ho hg hd dC _ v new ?_
 intro F u N g W a f B
 let ⟨Z,c0,l,w,_⟩:=gO f r x _ hx<|λh dL=>B h jt
 have z:=gO f r dT vy hy<|λh dL=>B h jt
 have A:=uq f r x _ hx<|λh dL=>B h jt
 unfold PX at U
 split at U
 .rename_i E T xs O k hl;split at U
  .rename_i D;simp only[aR,cG]at U;obtain⟨rfl,rfl⟩:=U;have J:N (.m id)=some (.b<|.vec E T xs):=B (.m id,.b<|.vec E T xs) sW;let ⟨e,i',L,S,V⟩:=CP fc D.2;have q:a.eval dT= .int O k:=z;rcases f.db id _ J with⟨H,_⟩|⟨b,M,vs,H,_⟩
   .rw[H]at l;simp[cP]at l
   .rw[H]at l;simp only[cP,aR]at l;subst l;refine⟨λj Y=>A j (by simpa[AV.ar,C.ar]using Y),.pointer (some ⟨b,Q+ad k,none⟩),?_,b,G xs,M,H,ax⟩;have K:execOp a.eval br=(do pure (.value<|<-PW b9 (a.eval x) (a.eval dT))):=wV;rw[K,w,q];have X:(0<=k/\k<(R:Int)):=hp;simp only[PW,asIntOf,dY,run_underlying L,eP];simp[X,run_sizeOf S,V,pv]
  .simp at U
 .simp at U
def C0(tt:TT)(a:St)(b d:I):bF AV:=match w d a.mem,w b tt with
 |some (.vec _ _ xs),some f=>(match f.kind with| .sl _=>some (.c<|.I .i64<|G xs)|_=>none)
 |_,_=>none
def ahE(U:cN P tt=ae){r}{i}{R:dv}{d:I}(ho:r[i]? =some R)(hg:R.guard=none)(hd:R.dst=some d){n}(dC:d<n){b9}{x}(dZ:R.op= .call ⟨.builtin .len,#[x],#[b9]⟩)
 {B}{k}{v}(hx:B.ev x=some (.c<|.X k)) (l:C0 tt B b9 k=some v) (H:I):
  ml P n r i (dO B x++k5 B [k]) [(.s d,some<|.v v)] H:=by
 refine uu ho hg hd dC _ v H ?_
 intro F h u g W a f K
 have Q:a.eval x=g.γ k:=gO f B x _ hx<|λw dL=>K w jt
 unfold C0 at l
 split at l
 .rename_i E T xs L hl y;split at l
  .rename_i e z;simp only[aR]at l;subst l;have j:u (.m k)=some (.b<|.vec E T xs):=K (.m k,.b<|.vec E T xs) sW;have q:=(g5 U y).kind;rw[z]at q;refine⟨sQ,.int .i64<|G xs,?_,J⟩;rw[execOp,dZ];rcases f.db k _ j with⟨p,A⟩|⟨b,D,vs,p,_⟩
   .subst A;simp[resolve,invoke,builtin,Builtin.len_,Q,p,run_underlying q,goInt,lU,pure]
   .simp[resolve,invoke,builtin,Builtin.len_,Q,p,run_underlying q,goInt,lU,pure]
  .simp at l
 .simp at l
def F0(c:ET):V C->bF c.den:=match c with
 | .int k=>λa=>(match a with|[.I d n]=>if k=d then some n else none|_=>none)
 | .bool=>λa=>(match a with|[.B b]=>some b|_=>none)
 |_=>λ_=>none
def ahF{b}{c}{x:b.den}(a:F0 b c=some x):c=av b x:=by
 cases b with
 |int k=>
  simp only[F0]at a
  split at a
  .split at a
   .rename_i e;subst e;simp at a;subst a;rfl
   .simp at a
  .simp at a
 |bool=>
  simp only[F0]at a
  split at a
  .simp at a;subst a;rfl
  .simp at a
 |_=>simp[F0]at a
def C1:∀(b:ET)(x:b.den),∀c∈av b x,qy c=ae
 | .int _,_,c,a=>by simp[av]at a;subst a;rfl
 | .bool,_,c,a=>by simp[av]at a;subst a;rfl
 | .z,_,c,a=>by simp[av]at a;rcases a with rfl|rfl<;>rfl
 | .q,_,c,a=>by simp[av]at a;rcases a with rfl|rfl|rfl|rfl<;>rfl
 | .sl _,_,c,a=>by simp[av]at a;subst a;rfl
 | .pr d B,x,c,a=>by
  simp only[av,b8]at a;rcases a with a|a
  .exact C1 d _ c a
  .exact C1 B _ c a
def ahG{f:Type}(vs c:V f) n i a(m:G c=n)(g:(i+1)*n<=G vs)(l:i≠a):y n ((dx vs c<|i*n).drop<|a*n)=(aE (a*n) vs).take n:=by
 have p:(i+1)*n=i*n+n:=F1;apply List.ext_getElem?;intro k;rw[F3,F3];split
 .rename_i r;rw[rA,rA];unfold dx;rcases oG a i with b|b
  .have d:(a+1)*n<=i*n:=eB _ b;rw[g7,iL]at d;rw[jR,yN bP,yC S]
  .have d:(i+1)*n<=a*n:=eB _ S;rw[vF bP,rA];simp only[fO,il];congr 1;omega
 .rfl
def ahH{b:Type}(vs a:V b) n i(d:G a=n)(c:(i+1)*n<=G vs):y n ((dx vs a<|i*n).drop<|i*n)=a:=by have f:(i+1)*n=i*n+n:=F1;unfold dx;have:(y (i*n) vs).length=i*n:=bP;rw[jR,Av S,wX S,sV,yM S,iI S]
def W4(fc:cN P tt=ae){ops}{i}{br}(ho:ops[i]? =some br)(hg:br.guard=none)(hd:br.dst=none){n}{b9:TypeId}{x dT}(dZ:br.op= .store b9 x dT)
 {R}{B m k}{E}{f:ET} {xs:V f.den} {vy:AV} (hx:R.ev x=some (.c<|.Y B m k 0)) (hy:R.ev dT=some vy) (hl:w B R.mem=some (.vec E f xs)) (hm:f.n=m) {ag:Bool} (Aw:px tt b9=some (m,ag)) {U:f.den} (sX:js vy=some (av f U)) (hk:k<G xs) (new:I):
  ml P n ops i (dO R x++dO R dT++k5 R [B]) [(.m B,some<|.b<|.vec E f<|xs.set k U)] new:=by
 intro F nF Q O σ g W a K s d h hK
 have Z:=gO d R x _ hx<|λkx dL=>h kx jt
 have F4:=gO d R dT vy hy<|λkx dL=>h kx jt
 have r:σ (.m B)=some (.b<|.vec E f xs):=h (.m B,.b<|.vec E f xs) sW
 let ⟨b',l',c',v,hv⟩:=Z
 rcases d.db B _ r with⟨_,h0⟩|⟨b,cap,vs,q,hh,u,hle,A,hr,hN,hz⟩
 .subst h0;simp at hk
 rw[q]at v
 simp only[Value.slice.injEq,aR,Addr.mk.injEq,and_true]at v
 obtain⟨rfl,_,_⟩:=v
 let ⟨ws,J4,D⟩:=J0 sX F4<|C1 f U
 have L:dk g.H f U ws:=yx f U ws D
 have M:G ws=f.n:=dk.length f _ _ L
 let ⟨_,⟨ti,ry,WZ⟩,_⟩:=FP fc Aw
 have X:(k+1)*f.n<=G vs:=by rw[u];exact eB _ S
 have J5:(k+1)*f.n=k*f.n+f.n:=F1
 subst hm
 have N:(Instr.storeAt b9 (a.eval x)<|a.eval dT).run P W= .ok () (jr W b (dx vs ws<|k*f.n) E):=by rw[hv];simp only[Instr.storeAt,Instr.sureAddr,storeVar,dY,Sem.run_pure,eP,run_sizeOf ry,J4,jE];have:¬(ws.toArray.size≠ti.size):=bP;simp only[this,cC];have:=CY (P:=P) b ws W vs (k*f.n) 0 hh S<|D.one<|C1 f U;simp only[jE]at this;simpa using this
 unfold wpOp
 simp only[ho,nG,hg,cA]
 refine .inl ?_
 unfold uk
 have hex:(execOp a.eval br).run P W= .ok .skip (jr W b (dx vs ws<|k*f.n) E):=by rw[execOp,dZ];simp[N,lU,pure]
 rw[hex]
 simp only[sL,hd,jq]
 have hb:b<W.heap.size:=(jP.1 hh).1
 refine hK g _ a<|d.step (chg:=λj=>j=B) (g':=g) ⟨⟨cz.refl _,λ_ _=>rfl⟩,λ_ _ _=>rfl,FW d.sub hz,by simp[jr],?_,J,J,J⟩ _ new s J d.defers (λ_ _=>rfl) ?_ ?_ ?_ ?_ ?_
 .intro k' F5 kj;have:b≠k':=λU=>kj B J (by rw[q,U];rfl)
  exact CV this
 .intro j p;subst p;exact⟨by simp[bf],_,r⟩
 .intro t' v' ht;simp[bf]at ht
 .intro j bk p;simp only[bf]at p;split at p
  .rename_i C;simp only[Key.m.injEq]at C;subst C;simp only[aR,Info.b.injEq]at p;subst p;refine⟨.inr ⟨b,cap,dx vs ws<|k*f.n,by simpa using q,CU hb,?_,by simpa using hle,by simpa using A,λj p=>?_,hN,hz⟩,.inl ⟨d.fD _ _ r,_,r⟩⟩
   .rw[CW _ _ _ S];exact u
   .simp only[fP]at p;rw[Ax];split
    .rename_i C;subst C;rw[ahH vs ws f.n k M X];exact L
    .rename_i C;rw[ahG vs ws f.n k j M X C];exact hr j p
  .simp at p
 .intro k' z l;simp only[bf]at l;split at l
  .simp only[aR]at l;subst l;intro j p;simp[Info.ar,aH.ar]at p
  .simp at l
 .intro j z l;simp only[bf]at l;split at l
  .rename_i C;simp only[Key.m.injEq]at C;subst C;exact .inl<|d.fD _ _ r
  .simp at l
end
section
variable{P:cT}{tt:TT}{n:I}
def Ay(a:V (I×I))(b:St):V C->V (I×rB)->bF (V C)
 |cs,[]=>some cs
 |cs,(i,x)::r=>(match a[i]?,b.ev x with
  |some (off,sz),some v=>(match js v with
   |some us=>if G us=sz/\off+sz<=G cs/\us.all qy=ae then Ay a b (dx cs us off) r else none
   |none=>none)
  |_,_=>none)
def ahI us:∀(vs:V bH)(a k:I),a+k+G us<=G vs->(us.zipIdx k).foldl (λ(b:Array bH)(p:bH×I)=>b.setIfInBounds (a+p.2) p.1) vs.toArray=(dx vs us<|a+k).toArray:=by
 induction us with
 |nil=>intro vs a k _;simp[dx]
 |cons u us c=>
  intro vs a k h
  simp only[fu]at h
  simp only[List.zipIdx_cons,W5]
  have:vs.toArray.setIfInBounds (a+k) u=(vs.set (a+k) u).toArray:=ax
  rw[this,c (vs.set (a+k) u) a (k+1) bP]
  rw[(S:a+(k+1)=a+k+1),WW _ _ _ _ S]
def J6{F:eF}{d:I->Prop}{σ:Kn}{g:Gh}{W:da}{a:Act}(H:bu F d σ g W a)(st:St)(pl:V (I×I))(k:I->bF (I×I))(rC:∀i x,pl[i]? =some x->k i=some x):
  ∀(b:V (I×rB))(B l:V C)(vs:V bH),Ay pl st B b=some l->bL g B vs->(∀p∈b,∀kx∈dO st p.2,σ kx.1=some kx.2)->(∀E∈cy B,d E)->
   ∃U:V bH,Instr.fill k vs.toArray (b.map λp=>(p.1,a.eval p.2))=some U.toArray/\bL g l U/\G U=G vs/\∀E∈cy l,d E
 |[],B,l,vs,r,hr,_,hm=>by simp only[Ay,aR]at r;subst r;exact⟨vs,J,hr,J,hm⟩
 | (i,x)::b,B,l,vs,r,hr,Q,hm=>by
  simp only[Ay]at r;split at r
  .rename_i f sz v hp hv;split at r
   .rename_i U m;split at r
    .rename_i R;let ⟨h1,h2,h3⟩:=R;have X:=gO H st x v hv<|Q (i,x) ax;have j:=uq H st x v hv<|Q (i,x) ax;let ⟨ws,s,o⟩:=J0 m X<|λc u=>rv.1 h3 c u;have L:=hr.length;have N:=o.length;have K:∀E∈cy (dx B U f),d E:=by
      intro E w;rcases PU _ _ _ E w with H|H
      .exact hm E H
      .refine j E ?_;cases v with
       |c q=>simp only[js,aR]at m;subst m;simpa[cy,AV.ar]using H
       |a q=>simp only[js,aR]at m;subst m;exact H
       |t q=>simp[js]at m
     let ⟨O,y,z,A,D⟩:=J6 H st pl k rC b (dx B U f) l (dx vs ws f) r (hr.dx o f) (λp hp=>Q p<|by simp[hp]) K;refine⟨O,?_,z,by rw[A,CW _ _ _ S],D⟩;simp only[gZ,Instr.fill,rC i _ hp,s];have u:¬((ws.toArray.size≠sz||decide (f+ws.toArray.size>vs.toArray.size))=ae):=by simp;omega
     rw[M (by simpa using u)];have:=ahI ws vs f 0 S;simp only[jE]at this;have e:ws.toArray.zipIdx.foldl (λ(B:Array bH)(p:bH×I)=>B.setIfInBounds (f+p.2) p.1) vs.toArray=(dx vs ws f).toArray:=by rw[<-this];simp
     rw[<-y];congr 1
    .simp at r
   .simp at r
  .simp at r
def J7(a:TI):V (I×I):=a.fields.map λf=>(f.1,f.2.1)
def PY(tt:TT)(d:St)(f:I)(b:V (I×rB)):bF AV:=match w f tt with
 |some c=>(match c.kind with
  | .st=>(match Ay (J7 c) d (c.zero.map ZV.ru) b with|some cs=>some (.a cs)|none=>none)
  |_=>none)
 |none=>none
def J8(a:V ZV):cy (a.map ZV.ru)=[]:=by
 induction a with
 |nil=>rfl
 |cons z a b=>simp only[gZ,cy,b];cases z<;>rfl
def ahJ(m:True){c}{a:Array Field}(d:sO P c.fields a.toList=ae) W:∃fY:Array (I×I),(a.mapM λf=>(do pure (f.offset,<-sizeOf f.type):Go.Sem (I×I))).run P W= .ok fY W/\∀(i:I)(x:I×I),(J7 c)[i]? =some x->fY[i]? =some x:=by
 have g:∀(l:V (I×I×Bool))(a:V Field),sO P l a=ae->(a.mapM λf=>(do pure (f.offset,<-sizeOf f.type):Go.Sem (I×I))).run P W= .ok (l.map λf=>(f.1,f.2.1)) W:=by
  intro l;induction l with
  |nil=>intro a h;cases a with
   |nil=>simp[pure]
   |cons f a=>simp[sO]at h
  |cons p l r=>
   intro a h
   let ⟨off,sz,F⟩:=p
   cases a with
   |nil=>simp[sO]at h
   |cons f a=>
    let ⟨H,b,v,⟨i,B,C⟩,_⟩:=JP h (k:=0) J
    simp only[yI,aR]at b
    subst b
    simp only[sO,eG]at h
    have:=r a h.2
    rw[List.mapM_cons]
    simp only[dY,run_sizeOf B,eP,Sem.run_pure,this,C,v,gZ]
 refine⟨(J7 c).toArray,?_,λi x h=>du⟩;have E:a.mapM (λf=>(do pure (f.offset,<-sizeOf f.type):Go.Sem (I×I)))=Functor.map List.toArray (a.toList.mapM<|λf=>(do pure (f.offset,<-sizeOf f.type):Go.Sem (I×I))):=by simp[Array.mapM_eq_mapM_toList]
 rw[E];simp only[map_eq_pure_bind,dY,g c.fields a.toList d,eP];rfl
def ahK(l:cN P tt=ae){m}{i}{k:dv}{d:I}(ho:m[i]? =some k)(hg:k.guard=none)(hd:k.dst=some d){n}(U:d<n){r}{b}(dZ:k.op= .build r b)
 {st}{v}(c:PY tt st r b.toList=some v) new:ml P n m i (qu st k.op) [(.s d,some<|.v v)] new:=by
 refine uu ho hg hd U _ v new ?_
 intro F X Y g W a B e
 unfold PY at c
 split at c
 .rename_i R C;split at c
  .rename_i G;split at c
   .rename_i L h;simp only[aR]at c;subst c;have D:=(g5 l C).kind;rw[G]at D;let ⟨fs,hu,j⟩:=D;let ⟨inf,E,_,_,z,M,Az⟩:=(g5 l C).info;let ⟨fY,H,K⟩:=ahJ (P:=P) T j W;let ⟨us,q,po,N,u⟩:=J6 B st (J7 R) (fY[·]?) K b.toList (R.zero.map ZV.ru) L (R.zero.map ZV.gq) h (CZ g _) (λp O S w=>e S<|by rw[dZ];refine jF.2 ⟨p.2,?_,w⟩;simp only[Op.operands];simp only[kY];exact⟨p,O,J⟩) (by rw[J8];simp);refine⟨u,.agg us.toArray,?_,us,J,po⟩;have Q:z.cells=(R.zero.map ZV.gq).toArray:=F6;have f:execOp a.eval k=(do pure (.value<|<-F7 r (b.map λ(i,x)=>(i,a.eval x)))):=wV;have y:(b.map λ(i,x)=>(i,a.eval x)).toList=b.toList.map λp=>(p.1,a.eval p.2):=ax
    have A:(zeroValue r).run P W= .ok z W:=by simp[zeroValue,typeInfo,E,M]
    have V:(F7 r<|b.map λ(i,x)=>(i,a.eval x)).run P W= .ok (.agg us.toArray) W:=by unfold F7;rw[dY,A];simp only[eP];rw[dY,run_underlying hu];simp only[eP];rw[dY,H];simp only[eP,y,Q,q];rfl
    rw[f,dY,V];rfl
   .simp at c
  .simp at c
 .simp at c
end
section
variable{P:cT}{tt:TT}
def gw st x:∀a∈dO st x,st.kn a.1=some a.2:=by
 intro a h;cases x with
 |tmp t=>
  simp only[dO]at h
  split at h
  .rename_i v b;simp only[iu]at h;subst h;simp[St.kn,b]
  .simp at h
 |_=>simp[dO]at h
def qA st ids:∀a∈k5 st ids,st.kn a.1=some a.2:=by
 intro a h;let ⟨id,_,h⟩:=jF.1 h;split at h
 .rename_i b c;simp only[iu]at h;subst h;simp[St.kn,c]
 .simp at h
def C2 st(op:Op):∀a∈qu st op,st.kn a.1=some a.2:=by intro a h;let ⟨x,_,h⟩:=jF.1 h;exact gw st x a h
def St.put(a:St)(d:I)(x:AV):St:={a with sl:=(d,x)::a.sl}
def St.pm(a:St)(c:I)(b:aH):St:={a with mem:=(c,b)::a.mem}
def vG{b:Type}(a:I):V (I×b)->V (I×b)
 |[]=>[]
 | (k,x)::r=>if k=a then vG a r else(k,x)::vG a r
def F8{d:Type}(a k:I):∀l:V (I×d),w k (vG a l)=if a=k then none else w k l
 |[]=>by simp[vG,w]
 | (f,x)::r=>by
  simp only[vG];split
  .rename_i b;subst b;rw[F8 f k r];split
   .rfl
   .rename_i c;simp[w,c]
  .rename_i b;simp only[w];split
   .rename_i g;subst g;rw[M (λc=>b c.symm)]
   .exact F8 a k r
def nH(a:St) d x:(a.put d x).kn=dB a.kn [(.s d,some<|.v x)]:=by
 funext k;cases k with
 |s t=>
  by_cases e:d=t
  .simp[St.kn,St.put,w,dB,bf,e]
  .simp[St.kn,St.put,w,dB,bf,e]
 |m id=>simp[St.kn,St.put,dB,bf]
def J9(a:St) d x:(a.pm d x).kn=dB a.kn [(.m d,some<|.b x)]:=by
 funext k;cases k with
 |s t=>simp[St.kn,St.pm,dB,bf]
 |m id=>
  by_cases e:d=id
  .simp[St.kn,St.pm,w,dB,bf,e]
  .simp[St.kn,St.pm,w,dB,bf,e]
def AA(a:St) d id x b:((a.pm id b).put d x).kn=dB a.kn [(.s d,some<|.v x),(.m id,some<|.b b)]:=by
 funext k;cases k with
 |s t=>
  by_cases e:d=t
  .simp[St.kn,St.put,St.pm,w,dB,bf,e]
  .simp[St.kn,St.put,St.pm,w,dB,bf,e]
 |m j=>
  by_cases e:id=j
  .simp[St.kn,St.put,St.pm,w,dB,bf,e]
  .simp[St.kn,St.put,St.pm,w,dB,bf,e]
abbrev Ks:=V Key×V Key
def cH:V rB->V Key
 |[]=>[]
 | .tmp a::r=> .s a::cH r
 |_::r=>cH r
def fv:V I->V Key
 |[]=>[]
 |id::r=> .m id::fv r
def fZ(b:St):∀(xs:V rB),∀k∈gn (xs.flatMap<|dO b),k∈cH xs
 |[],k,a=>by simp[gn]at a
 |x::xs,k,a=>by
  simp only[gn,mm,fe,b8]at a;rcases a with a|a
  .cases x with
   |tmp c=>
    simp only[dO]at a
    split at a
    .simp at a;subst a;simp[cH]
    .simp at a
   |_=>simp[dO]at a
  .have:=fZ b xs k a;cases x<;>simp[cH,this]
def py(c:St):∀(b:V I),∀k∈gn (k5 c b),k∈fv b
 |[],k,a=>by simp[gn,k5]at a
 |id::b,k,a=>by
  simp only[gn,k5,mm,fe,b8]at a;rcases a with a|a
  .split at a
   .simp at a;subst a;simp[fv]
   .simp at a
  .have:=py c b k a;simp[fv,this]
def yO(tt:TT)(n b:I)(i:bF I)(op:Op):St->bF (St×Pr×Ks)
 |⟨sl,mem,nx,gd⟩=>match i,op with
 |some d,.load a x=>if d<n then(match St.ev ⟨sl,mem,nx,gd⟩ x with
   |some v=>(match FR tt ⟨sl,mem,nx,gd⟩ a v with
    |some (f,p,ids)=>some (⟨(d,f)::sl,mem,nx,gd⟩,p,(cH [x]++fv ids,[.s d]))
    |none=>none)
   |none=>none)else none
 |none,.store a x f=>(match St.ev ⟨sl,mem,nx,gd⟩ x,St.ev ⟨sl,mem,nx,gd⟩ f with
   |some (.c<|.Y id m k 0),some g=>(match w id mem,px tt a,js g with
    |some (.vec E l xs),some (sz,_),some cs=>if l.n=m/\sz=m then(match F0 l cs with
     |some B=>some (⟨sl,(id,.vec E l<|xs.set k B)::mem,nx,gd⟩,.JM k<|G xs,(cH [x,f]++fv [id],[.m id]))
     |none=>none)else none
    |_,_,_=>none)
   |some F,some g=>(match PR tt ⟨sl,mem,nx,gd⟩ a F g with
    |some (id,H)=>some (⟨sl,(id,H)::mem,nx,gd⟩,.t,(cH [x,f]++fv [id],[.m id]))
    |none=>none)
   |_,_=>none)
 |some d,.indexAddr a x f=>if d<n then(match St.ev ⟨sl,mem,nx,gd⟩ x,St.ev ⟨sl,mem,nx,gd⟩ f with
   |some (.c<|.X id),some g=>(match J3 tt ⟨sl,mem,nx,gd⟩ a id g with
    |some (v,p)=>some (⟨(d,v)::sl,mem,nx,gd⟩,p,(cH [x,f]++fv [id],[.s d]))
    |none=>none)
   |some (.c<|.W id off len),some g=>(match PX tt ⟨sl,mem,nx,gd⟩ a id off len g with
    |some (v,p)=>some (⟨(d,v)::sl,mem,nx,gd⟩,p,(cH [x,f]++fv [id],[.s d]))
    |none=>none)
   |some _,some _=>(match FJ tt ⟨sl,mem,nx,gd⟩ (.indexAddr a x f)with
    |some (v,p)=>some (⟨(d,v)::sl,mem,nx,gd⟩,p,(cH [x,f],[.s d]))
    |none=>none)
   |_,_=>none)else none
 |some d,.build a parts=>if d<n then(match PY tt ⟨sl,mem,nx,gd⟩ a parts.toList with
   |some v=>some (⟨(d,v)::sl,mem,nx,gd⟩,.t,(cH (Op.build a parts).operands.toList,[.s d]))
   |none=>none)else none
 |some d,.call ⟨.builtin .len,args,r⟩=>if d<n then(match args.toList,r.toList with
   |[x],[a]=>(match St.ev ⟨sl,mem,nx,gd⟩ x with
    |some (.c<|.X id)=>(match C0 tt ⟨sl,mem,nx,gd⟩ a id with
     |some v=>some (⟨(d,v)::sl,mem,nx,gd⟩,.t,(cH [x]++fv [id],[.s d]))
     |none=>none)
    |some v=>(match JS tt a v with
     |some Q=>some (⟨(d,Q)::sl,mem,nx,gd⟩,.t,(cH [x],[.s d]))
     |none=>none)
    |none=>none)
   |_,_=>none)else none
 |some d,.box E x=>if d<n then(match St.ev ⟨sl,mem,nx,gd⟩ x with
   |some v=>(match js v with
    |some cs=>if cs.all qy=ae then some (⟨(d,.c<|.P b 0)::sl,(b,.box E 0 cs)::mem,nx,gd⟩,.t,(cH [x],[.s d,.m b]))else none
    |none=>none)
   |none=>none)else none
 |some d,.alloc E=>if d<n then(match w E tt with
   |some R=>some (⟨(d,.c<|.P b 0)::sl,(b,.box E 0<|R.zero.map ZV.ru)::mem,nx,gd⟩,.t,([],[.s d,.m b]))
   |none=>none)else none
 |some d,op=>if d<n then(match FJ tt ⟨sl,mem,nx,gd⟩ op with
   |some (x,p)=>some (⟨(d,x)::sl,mem,nx,gd⟩,p,(cH op.operands.toList,[.s d]))
   |none=>none)else none
 |none,_=>none
def lI(P:cT)(n:I)(a:Array dv)(i:I)(g b:St)(c:I)(l:Ks):Prop:=
 ∃d f,ml P n a i d f c/\(∀m∈d,g.kn m.1=some m.2)/\b.kn=dB g.kn f/\(∀k∈gn d,k∈l.1)/\∀k∈oc f,k∈l.2
def W6(g:cN P tt=ae){n b}{ops}{i}{o}(H:ops[i]? =some o)(Q:o.guard=none){st st'}{p}{ks}
  (h:yO tt n b o.dst o.op st=some (st',p,ks)) (hp:p):lI P n ops i st st' b ks:=by
 let ⟨sl,mem,nx,gd⟩:=st
 simp only[yO]at h
 split at h
 .rename_i d t x r a;split at h
  .rename_i c;split at h
   .rename_i v s;split at h
    .rename_i y q w D;simp only[aR,cG]at h;obtain⟨rfl,rfl,rfl⟩:=h;refine⟨_,_,ahr g H Q r c a s D hp b,?_,nH ⟨sl,mem,nx,gd⟩ d y,?_,λk hk=>jG⟩
     .intro l B;rcases b8.1 B with h|h
      .exact gw _ x l h
      .exact qA _ w l h
     .intro k hk;simp only[gn,fe,b8]at hk;rcases hk with h|h
      .exact fC _ (fZ ⟨sl,mem,nx,gd⟩ [x] k (by simpa[gn]using h))
      .exact jo _<|py ⟨sl,mem,nx,gd⟩ w k h
    .simp at h
   .simp at h
  .simp at h
 .rename_i t x y r a;have K:∀f k,k∈gn (dO ⟨sl,mem,nx,gd⟩ x++dO ⟨sl,mem,nx,gd⟩ y++k5 ⟨sl,mem,nx,gd⟩ [f])->k∈cH [x,y]++fv [f]:=by
   intro f k hk;simp only[gn,fe,b8]at hk;rcases hk with(h|h)|h
   .exact fC _<|fZ ⟨sl,mem,nx,gd⟩ [x,y] k wY
   .exact fC _<|fZ ⟨sl,mem,nx,gd⟩ [x,y] k wZ
   .exact jo _<|py ⟨sl,mem,nx,gd⟩ [f] k h
  have F:∀f,∀l∈dO ⟨sl,mem,nx,gd⟩ x++dO ⟨sl,mem,nx,gd⟩ y++k5 ⟨sl,mem,nx,gd⟩ [f],St.kn ⟨sl,mem,nx,gd⟩ l.1=some l.2:=by
   intro f l B;rcases b8.1 B with h|h
   .rcases b8.1 h with h|h
    .exact gw _ x l h
    .exact gw _ y l h
   .exact qA _ [f] l h
  split at h
  .rename_i f m k G C R;split at h
   .rename_i E dR xs sz ag O D I U;split at h
    .rename_i W;split at h
     .rename_i e X;simp only[aR,cG]at h;obtain⟨rfl,rfl,rfl⟩:=h;let ⟨S,h2⟩:=W;subst h2;have z:=ahF X;subst z;exact⟨_,_,W4 g H Q r a C R D S I U hp b,F f,J9 ⟨sl,mem,nx,gd⟩ f _,K f,λk hk=>jG⟩
     .simp at h
    .simp at h
   .simp at h
  .rename_i vx G C R;split at h
   .rename_i f V Y;simp only[aR,cG]at h;obtain⟨rfl,rfl,rfl⟩:=h;exact⟨_,_,ahy g H Q r a C R Y b,F f,J9 ⟨sl,mem,nx,gd⟩ f V,K f,λk hk=>jG⟩
   .simp at h
  .simp at h
 .rename_i d t x y r a;split at h
  .rename_i c;split at h
   .rename_i f G C R;split at h
    .rename_i v q X;simp only[aR,cG]at h;obtain⟨rfl,rfl,rfl⟩:=h;refine⟨_,_,ahC g H Q r c a C R X hp b,?_,nH ⟨sl,mem,nx,gd⟩ d _,?_,λk hk=>jG⟩
     .intro l B;rcases b8.1 B with h|h
      .rcases b8.1 h with h|h
       .exact gw _ x l h
       .exact gw _ y l h
      .exact qA _ [f] l h
     .intro k hk;simp only[gn,fe,b8]at hk;rcases hk with(h|h)|h
      .exact fC _<|fZ ⟨sl,mem,nx,gd⟩ [x,y] k wY
      .exact fC _<|fZ ⟨sl,mem,nx,gd⟩ [x,y] k wZ
      .exact jo _<|py ⟨sl,mem,nx,gd⟩ [f] k h
    .simp at h
   .rename_i f Z len G C R;split at h
    .rename_i v q X;simp only[aR,cG]at h;obtain⟨rfl,rfl,rfl⟩:=h;refine⟨_,_,ahD g H Q r c a C R X hp b,?_,nH ⟨sl,mem,nx,gd⟩ d _,?_,λk hk=>jG⟩
     .intro l B;rcases b8.1 B with h|h
      .rcases b8.1 h with h|h
       .exact gw _ x l h
       .exact gw _ y l h
      .exact qA _ [f] l h
     .intro k hk;simp only[gn,fe,b8]at hk;rcases hk with(h|h)|h
      .exact fC _<|fZ ⟨sl,mem,nx,gd⟩ [x,y] k wY
      .exact fC _<|fZ ⟨sl,mem,nx,gd⟩ [x,y] k wZ
      .exact jo _<|py ⟨sl,mem,nx,gd⟩ [f] k h
    .simp at h
   .split at h
    .rename_i v q C;simp only[aR,cG]at h;obtain⟨rfl,rfl,rfl⟩:=h;refine⟨_,_,PM g H Q r c (by rw[a];exact C) hp b,C2 _ _,nH ⟨sl,mem,nx,gd⟩ _ _,λk hk=>?_,λk hk=>jG⟩;rw[a]at hk;exact fZ ⟨sl,mem,nx,gd⟩ _ k hk
    .simp at h
   .simp at h
  .simp at h
 .rename_i d t J r a;split at h
  .rename_i c;split at h
   .rename_i v s;simp only[aR,cG]at h;obtain⟨rfl,rfl,rfl⟩:=h;refine⟨_,_,ahK g H Q r c a s b,C2 _ _,nH ⟨sl,mem,nx,gd⟩ _ _,λk hk=>?_,λk hk=>jG⟩;rw[a]at hk;exact fZ ⟨sl,mem,nx,gd⟩ _ k hk
   .simp at h
  .simp at h
 .rename_i d args L r a;split at h
  .rename_i c;split at h
   .rename_i x t ha ht;have j:args= #[x]:=FO;have A:L= #[t]:=PN;subst j A;split at h
    .rename_i f C;split at h
     .rename_i v X;simp only[aR,cG]at h;obtain⟨rfl,rfl,rfl⟩:=h;refine⟨_,_,ahE g H Q r c a C X b,?_,nH ⟨sl,mem,nx,gd⟩ d _,?_,λk hk=>jG⟩
      .intro l B;rcases b8.1 B with h|h
       .exact gw _ x l h
       .exact qA _ [f] l h
      .intro k hk;simp only[gn,fe,b8]at hk;rcases hk with h|h
       .exact fC _ (fZ ⟨sl,mem,nx,gd⟩ [x] k (by simpa[gn]using h))
       .exact jo _<|py ⟨sl,mem,nx,gd⟩ [f] k h
     .simp at h
    .rename_i v C;split at h
     .rename_i u hu;simp only[aR,cG]at h;obtain⟨rfl,rfl,rfl⟩:=h;refine⟨_,_,PM g H Q r c (x:=u) (p:= .t) (st:=⟨sl,mem,nx,gd⟩) (by rw[a];simp[FJ,C,hu]) T b,C2 _ _,nH ⟨sl,mem,nx,gd⟩ _ _,λk hk=>?_,λk hk=>jG⟩;rw[a]at hk;exact fZ ⟨sl,mem,nx,gd⟩ [x] k hk
     .simp at h
    .simp at h
   .simp at h
  .simp at h
 .rename_i d E x r a;split at h
  .rename_i c;split at h
   .rename_i v s;split at h
    .rename_i O U;split at h
     .rename_i M;simp only[aR,cG]at h;obtain⟨rfl,rfl,rfl⟩:=h;exact⟨_,_,ahA H Q r c a s U M b,gw _ x,AA ⟨sl,mem,nx,gd⟩ d b _ _,λk hk=>fZ ⟨sl,mem,nx,gd⟩ [x] k (by simpa[gn]using hk),λk hk=>jG⟩
     .simp at h
    .simp at h
   .simp at h
  .simp at h
 .rename_i d E r a;split at h
  .rename_i c;split at h
   .rename_i ti N;simp only[aR,cG]at h;obtain⟨rfl,rfl,rfl⟩:=h;exact⟨_,_,ahB g H Q r c a N b,ax,AA ⟨sl,mem,nx,gd⟩ d b _ _,by simp[gn],λk hk=>jG⟩
   .simp at h
  .simp at h
 .rename_i d _ r _ _ _ _ _ _;split at h
  .rename_i c;split at h
   .rename_i x q C;simp only[aR,cG]at h;obtain⟨rfl,rfl,rfl⟩:=h;exact⟨_,_,PM g H Q r c C hp b,C2 _ _,nH ⟨sl,mem,nx,gd⟩ _ x,λk hk=>fZ ⟨sl,mem,nx,gd⟩ _ k hk,λk hk=>jG⟩
   .simp at h
  .simp at h
 .simp at h
def vH(a:V dv)(b:I):bF I:=match a[b]? with
 |some o=>o.dst
 |none=>none
def PZ{d}{l f}(i:vH d.toList l=some f){g}{a:Act}{b}(r:bI g (.c<|.B b) (a.tmps.getD f undef)):yielded d a.tmps l=some b:=by
 have m:a.tmps.getD f undef= .bool b:=r;have:(d[l]?).bind (·.dst)=some f:=by
  unfold vH at i;rw[C3]at i;cases p:d[l]? with
  |none=>rw[p]at i;simp at i
  |some v=>rw[p]at i;simpa using i
 unfold yielded;rw[this];rcases oG f a.tmps.size with k|n
 .have:a.tmps[f]? =some (.bool b):=by rw[P0 k];rw[ux,P0 k]at m;simpa using m
  simp[this]
 .exfalso;rw[ux,Array.getElem?_eq_none n]at m;simp[undef]at m
def J'{n x}{d}{i}{H}(ho:d[i]? =some H){fQ}{f b}(hg:H.guard=some (fQ,f)){r}(hj:vH d.toList fQ=some r){R E}(hb:w r R.sl=some (.c<|.B b))(U:b=f){ks}
  (m:lI P n (#[{H with guard:=none}]) 0 R E x ks):lI P n d i R E x (.s r::ks.1,ks.2):=by
 let ⟨rd,wr,G,X,e,q,t⟩:=m
 refine⟨(.s r,.v<|.c<|.B b)::rd,wr,?_,?_,e,λk A=>?_,t⟩
 .intro F u Q p I g W a K C l D J;have y:=G F u Q p I g W a K C l (λz dL=>D z jt) J;have L:=l.gM r (.c<|.B b)<|D (.s r,.v<|.c<|.B b) ax;have M:nG H (yielded d a.tmps)=ae:=by simp only[nG,hg,PZ hj L,U,beq_self_eq_true]
  unfold wpOp at y⊢;simp only[ho,M,cA];simp only[FI,yI,nG,cA]at y;exact y
 .intro z dL;rcases df.1 dL with rfl|m
  .simp[St.kn,hb]
  .exact X z m
 .simp only[gn,gZ,df]at A;rcases A with m|m
  .simp[m]
  .exact uj _<|q k m
def ahL{n r}{m}{i}{H:dv}(ho:m[i]? =some H){fQ}{l b}(hg:H.guard=some (fQ,l)){p}(hj:vH m.toList fQ=some p){R}(hb:w p R.sl=some (.c<|.B b))(U:b= !l)
  {d:I} (hd:H.dst=some d):lI P n m i R (R.put d<|.c .any) r ([.s p],[.s d]):=by
 refine⟨[(.s p,.v<|.c<|.B b)],[(.s d,some<|.v<|.c .any)],?_,?_,nH R d _,λk hk=>by simpa[gn]using hk,λk hk=>jG⟩
 .intro F D Q X O g W a K x f G L;have M:=f.gM p (.c<|.B b)<|G (.s p,.v<|.c<|.B b) ax;have N:nG H (yielded m a.tmps)=ah:=by simp only[nG,hg,PZ hj M,U];cases l<;>rfl
  unfold wpOp;simp only[ho,N,jQ,cC,hd];refine L g W _<|f.step (chg:=λ_=>False) (g':=g) (W':=W) ⟨⟨cz.refl _,λ_ _=>rfl⟩,λ_ _ _=>rfl,f.sub,a8 _,λ_ _ _=>rfl,J,J,J⟩ _ r x qt f.defers ?_ (λ_ h=>h.elim) ?_ ?_ ?_ ?_
  .intro t ht;have q:d≠t:=rz;simp[jq,nf q]
  .intro t u ht;simp only[bf]at ht;split at ht
   .simp only[aR,Info.v.injEq]at ht;subst ht;exact T
   .simp at ht
  .intro A b ht;simp[bf]at ht
  .intro k y ht;simp only[bf]at ht;split at ht
   .simp only[aR]at ht;subst ht;intro A z;simp[Info.ar,AV.ar,C.ar]at z
   .simp at ht
  .intro A y ht;simp[bf]at ht
 .intro S E;simp only[iu]at E;subst E;simp[St.kn,hb]
def yP(tt:TT)(n g:I)(i:V dv)(f:dv)(a:St):bF (St×Pr×Ks):=match f.guard with
 |none=>yO tt n g f.dst f.op a
 |some (j,want)=>(match vH i j with
  |some k=>(match w k a.gd,w k a.sl with
   |some dec,some (.c<|.B b)=>if dec=want then(match yO tt n g f.dst f.op a with
     |some (l,p,m)=>some (l,.an (.As b want) p,(.s k::m.1,m.2))
     |none=>none)
    else(match f.dst with
     |some d=>some (⟨(d,.c .any)::a.sl,a.mem,a.nx,a.gd⟩,.As b<|!want,([.s k],[.s d]))
     |none=>none)
   |_,_=>none)
  |none=>none)
def W7(g:cN P tt=ae){n k}{c}{i}{r}(v:c[i]? =some r){x l}{p}{B}
  (a:yP tt n k c.toList r x=some (l,p,B)) (f:p):lI P n c i x l k B:=by
 unfold yP at a
 split at a
 .rename_i m;exact W6 g v m a f
 .rename_i j C m;split at a
  .rename_i W E;split at a
   .rename_i K b _ F;split at a
    .split at a
     .rename_i H q Q R;simp only[aR,cG]at a;obtain⟨rfl,rfl,rfl⟩:=a;have f:=Pr.CK f;exact J' v m E F f.1<|W6 g (o:={r with guard:=none}) ax J R f.2
     .simp at a
    .split at a
     .rename_i d U;simp only[aR,cG]at a;obtain⟨rfl,rfl,rfl⟩:=a;exact ahL v m E F f U
     .simp at a
   .simp at a
  .simp at a
end
section
variable{P:cT}{tt:TT}
def mask(l:V Edge)(a:V I):I:=l.foldl (λs e=>if uo .any e then s|||2^e.on|||Y a e.on 0 else s) 0
def xa:V dv->V I->V I
 |[],acc=>acc
 |a::os,acc=>xa os<|acc++[mask a.after.toList acc]
def C4:V dv->I->Bool
 |[],_=>ae
 |b::os,i=>b.after.toList.all (λa=> !uo .any a||decide (a.on<i))&&C4 os (i+1)
def F9(a b:V Key):Bool:=a.any λk=>b.any λc=>k=c
def rD(a b:Ks):Bool:=F9 a.2 b.2||F9 a.2 b.1||F9 a.1 b.2
def AB(m:I)(b:Ks):V Ks->I->Bool
 |[],_=>ae
 |a::l,i=>(!rD a b||mO m i)&&AB m b l (i+1)
def xb:V I->V Ks->V Ks->Bool
 |m::ms,b::a,done=>AB m b done 0&&xb ms a (done++[b])
 |[],[],_=>ae
 |_,_,_=>ah
def rE(a:V dv)(b:V Ks):Bool:=C4 a 0&&xb (xa a []) b []
def ahM{l}{c}{d}(a:(mask l c).testBit d=ae):∃b∈l,uo .any b=ae/\(b.on=d\/mO (Y c b.on 0) d=ae):=by
 unfold mask at a;have f:∀(l:V Edge)(s:I),mO (l.foldl (λs b=>if uo .any b then s|||2^b.on|||Y c b.on 0 else s) s) d=ae->
   mO s d=ae\/∃b∈l,uo .any b=ae/\(b.on=d\/mO (Y c b.on 0) d=ae):=by
  intro l
  induction l with
  |nil=>intro s a;exact .inl a
  |cons b l k=>
   intro s a
   simp only[W5]at a
   rcases k _ a with a|⟨m,g,n,h2⟩
   .split at a
    .rename_i i;simp only[Nat.testBit_or,vI,Nat.testBit_two_pow,decide_eq_true_eq]at a;rcases a with(a|a)|a
     .exact .inl a
     .exact .inr ⟨b,ax,i,.inl a⟩
     .exact .inr ⟨b,ax,i,.inr a⟩
    .exact .inl a
   .exact .inr ⟨m,by simp[g],n,h2⟩
 rcases f l 0 a with a|a
 .simp at a
 .exact a
def W8{ops:Array dv}:∀(f:V dv)(a:V I),ops.toList=y (G a) ops.toList++f->G a+G f=ops.size->
  (∀k(r:k<G a) b,a[k].testBit b=ae->ob ops b k)->G (xa f a)=ops.size/\∀k(r:k<G (xa f a)) b,(xa f a)[k].testBit b=ae->ob ops b k
 |[],a,_,hl,m=>by simp only[xa];exact⟨wU,m⟩
 |v::f,a,he,hl,m=>by
  have x:ops[G a]? =some v:=by
   rw[<-C3,he,vF bP];simp only[il];have:min (G a) (G ops.toList)=G a:=by simp;simp at hl;omega
   rw[this];simp
  simp only[xa];refine W8 f _ ?_ (by simp at hl⊢;omega) ?_
  .have c:G a<G ops.toList:=by simp;simp at hl;omega
   simp only[fO,fu,k6,dU];rw[FV c];have E:ops.toList[G a]=v:=by have:=x;rw[<-C3,bD c]at this;simpa using this
   rw[E,jR];exact he
  .intro k r b n;rcases oG k (G a)with l|F
   .rw[wW l]at n;exact m k l b n
   .have:k=G a:=by simp at r;omega
    subst this;simp only[List.getElem_append_right (a8 _),gx,vE]at n;let ⟨e,B,C,g⟩:=ahM n;have d:e∈v.after:=by simpa using B
    rcases g with i|i
    .exact .one x d C i
    .rcases oG e.on (G a)with p|p
     .rw[aF,bD p]at i;exact .more x d C J<|m e.on p b i
     .rw[aF,lG p]at i;simp at i
def W9:∀(d:V dv)(i:I),C4 d i=ae->∀k f,d[k]? =some f->∀c∈f.after,uo .any c=ae->c.on<i+k
 |[],_,_,k,f,a=>by simp at a
 |f::d,i,g,0,m,a=>by
  simp only[yI,aR]at a;subst a;simp only[C4,eG,rv,vI,C5,decide_eq_true_eq]at g;intro c l b;have:=g.1 c (by simpa using l);rcases this with a|a
  .rw[a]at b;cases b
  .omega
 |f::d,i,g,k+1,m,a=>by simp only[At]at a;simp only[C4,eG]at g;intro c l b;have:=W9 d (i+1) g.2 k m a c l b;omega
def Xa{m:I}{b:Ks}:∀(l:V Ks)(i:I),AB m b l i=ae->∀k a,l[k]? =some a->rD a b=ae->mO m (i+k)=ae
 |[],_,_,k,a,c=>by simp at c
 |a::l,i,d,0,g,c=>by
  simp only[yI,aR]at c;subst c;simp only[AB,eG,vI,C5]at d;intro f;rcases d.1 with c|c
  .rw[c]at f;cases f
  .simpa using c
 |a::l,i,d,k+1,g,c=>by simp only[At]at c;simp only[AB,eG]at d;intro f;have:=Xa l (i+1) d.2 k g c f;rw[(S:i+(k+1)=i+1+k)];exact this
def Xb:∀(g:V I)(d done:V Ks),xb g d done=ae->∀f m b,g[f]? =some m->d[f]? =some b->∀i a,i<done.length+f->(done++d)[i]? =some a->rD a b=ae->mO m i=ae
 |m::g,b::d,done,c,0,p,r,hm,k=>by simp only[yI,aR]at hm k;subst hm k;simp only[xb,eG]at c;intro i a v l n;rw[yN S]at l;have:=Xa done 0 c.1 i a l n;simpa using this
 |m::g,b::d,done,c,f+1,p,r,hm,k=>by simp only[At]at hm k;simp only[xb,eG]at c;intro i a v l n;exact Xb g d (done++[b]) c.2 f p r hm k i a bP (by simpa using l) n
 |[],[],_,_,f,m,b,hm,_=>by simp at hm
 |[],_::_,_,c,_,_,_,_,_=>by simp[xb]at c
 |_::_,[],_,c,_,_,_,_,_=>by simp[xb]at c
def C6{a b}{k:Key}(c:k∈a)(d:k∈b):F9 a b=ae:=by simp only[F9,List.any_eq_true];exact⟨k,c,k,d,ax⟩
def Xc{c}{n}(p:rE c.toList n=ae):(∀i m f,c[i]? =some m->f∈m.after->uo .any f=ae->f.on<i)/\
  ∀i d a b,i<d->d<c.size->n[i]? =some a->n[d]? =some b->rD a b=ae->ob c i d:=by
 simp only[rE,eG]at p
 refine⟨λi m f B C r=>?_,λi d a b v E F r H=>?_⟩
 .have:=W9 c.toList 0 p.1 i m (by rw[C3];exact B) f C r;omega
 .have x:=W8 (ops:=c) c.toList [] ax ax (λk K=>by simp at K);have g:d<G (xa c.toList []):=by rw[x.1];exact E
  have l:=Xb _ _ [] p.2 d _ b (bD g) r i a (by simpa using v) (by simpa using F) H;exact x.2 d g i l
def vJ(a:Kn)(b:V (V (Key×Info)×V (Key×bF Info))):Kn:=b.foldl (λa d=>dB a d.2) a
def ahN(a:V (V (Key×Info)×V (Key×bF Info)))(b:V Ks):Prop:=
 G b=G a/\∀j(h:j<G a)(c:j<G b),(∀k∈gn a[j].1,k∈b[j].1)/\∀k∈oc a[j].2,k∈b[j].2
def RG(P:cT)(n:I)(a:Array dv)(d:Bool)(g i:I)(k:V dv)(l:St)(p:V Ks)(Q:St->Prop):Prop:=
 aE i a.toList=k->∃(b:V (V (Key×Info)×V (Key×bF Info)))(c:St),G b=G k/\
  (∀j(h:j<G b),yG P n a (i+j) b[j].1 b[j].2 (rq (λi=>1000000*g+1000*i)<|i+j))/\
  (∀j(h:j<G b),∀m∈b[j].1,vJ l.kn (y j b) m.1=some m.2)/\
  c.kn=vJ l.kn b/\c.nx=g+1/\a.size<=1000/\(d=ae->∃f,ahN b f/\rE a.toList (p++f)=ae)/\Q c
def F'{n}{b}{a}{c i}{d}{mem}{l}{m}{k}{Q:St->Prop}(f:Q ⟨d,mem,c+1,[]⟩)(p:(!a||rE b.toList k)=ae:=by kernel_rfl)(g:iv b.size 1000=ae:=by rfl):
  RG P n b a c i [] ⟨d,mem,l,m⟩ k Q:=by
 intro _
 refine⟨[],⟨d,mem,c+1,[]⟩,J,ax,ax,J,J,cY g,λr=>⟨[],⟨J,λj f=>by simp at f⟩,?_⟩,f⟩
 subst r
 simpa using p
def k7{n}{a}{f}{g i}{v}{x}{st m}{ks}{k}{Q:St->Prop}
  (hs:a[i]? =some v->lI P n a i st m (1000000*g+1000*i) k) (bW:RG P n a f g (i+1) x m (ks++[k]) Q):RG P n a f g i (v::x) st ks Q:=by
 intro b
 have q:a[i]? =some v:=by have:=aC (λl=>l[0]?) b;simpa[rA]using this
 have c:aE (i+1) a.toList=x:=by rw[<-vK,b];rfl
 let ⟨rd,wr,B,C,p,E,F⟩:=hs q
 let ⟨ds,H,hl,s,h2,t,u,K,w,y⟩:=bW c
 refine⟨(rd,wr)::ds,H,by simp[hl],?_,?_,?_,u,K,?_,y⟩
 .intro j hj;cases j with
  |zero=>simpa using B.Wz (new:=rq (λi=>1000000*g+1000*i) i) ⟨a8 _,(S:1000000*g+1000*i<1000000*g+1000*(i+1))⟩
  |succ j=>
   have:=s j xc
   rw[(S:i+(j+1)=i+1+j)]
   simpa using this
 .intro j hj e d;cases j with
  |zero=>simp only[vE]at d;simpa[vJ]using C e d
  |succ j=>
   simp only[CR]at d
   have:=h2 j xc e d
   rw[p]at this
   simpa[vJ]using this
 .rw[t,p];simp[vJ]
 .intro z;let ⟨R,⟨U,W⟩,r⟩:=w z;refine⟨k::R,⟨by simp[U],λj hj X=>?_⟩,by simpa using r⟩;cases j with
  |zero=>exact⟨E,F⟩
  |succ j=>exact W j xc (by simpa using X)
def ahO{n}{b}{g i}{k}{l}{m c}{Q:St->Prop}(p:RG P n b ah g i k l c Q):RG P n b ah g i k l m Q:=by intro a;let ⟨ds,d,hl,r,h2,v,x,f,_,B⟩:=p a;exact⟨ds,d,hl,r,h2,v,x,f,ax,B⟩
def C7{n}{b}{a}{c i}{f}{g}{l st1}{m}{k}{p}{Q:St->Prop}(d:cN P tt=ae)
  (r:yP tt n (1000000*c+1000*i) b.toList f l=some (st1,p,k)) (v:p) (x:RG P n b a c (i+1) g st1 (m++[k]) Q):RG P n b a c i (f::g) l m Q:=
 k7 (λB=>W7 d B r v) x
def ff(a:Bool)(b:V Ks)(k:Ks):V Ks:=match a with
 |true=>b++[k]
 |false=>[]
def jH{n}{b}{a}{c i}{d}{f}{g}{k}{Q:St->Prop}(l:RG P n b a c i d f (ff a g k) Q):RG P n b a c i d f (g++[k]) Q:=by
 cases a with
 |true=>exact l
 |false=>exact ahO l
def runs(tt:TT)(n f:I)(a:Bool)(b:V dv):V dv->I->St->Pr->V Ks->V dv×I×St×Pr×V Ks
 |[],i,st,p,c=>([],i,st,p,c)
 |g::os,i,st,p,c=>match yP tt n (1000000*f+1000*i) b g st with
  |some (d,l,k)=>runs tt n f a b os (i+1) d (.an p l)<|ff a c k
  |none=>(g::os,i,st,p,c)
def Xd{n:I}{g:Array dv}{a:Bool}{F:I}{Q:St->Prop}(l:cN P tt=ae):∀(r:V dv)(i:I)(v:St)(p:Pr)(m:V Ks){b:V dv}{x:I}{c:St}{B:Pr}{d:V Ks},
  runs tt n F a g.toList r i v p m=(b,x,c,B,d)->B.h->(RG P n g a F x b c d Q)->p.h/\RG P n g a F i r v m Q
 |[],i,v,p,m,b,x,c,B,d,f,hp,E=>by simp only[runs,cG]at f;obtain⟨rfl,rfl,rfl,rfl,rfl⟩:=f;exact⟨hp,E⟩
 |o::r,i,v,p,m,b,x,c,B,d,f,hp,E=>by
  simp only[runs]at f;split at f
  .rename_i C q k K;let ⟨H,R⟩:=Xd l r (i+1) C (.an p q) (ff a m k) f hp E;let ⟨U,h2⟩:=Pr.CK H;exact⟨U,C7 l K h2<|jH R⟩
  .simp only[cG]at f;obtain⟨rfl,rfl,rfl,rfl,rfl⟩:=f;exact⟨hp,E⟩
def jI{n}{b}{a}{g i}{k}{l}{m}{Q:St->Prop}{c}{r}{d}{v}{f}(p:cN P tt=ae)
  (x:runs tt n g a b.toList k i l .t m=(c,r,d,v,f)) (B:v) (E:RG P n b a g r c d f Q):RG P n b a g i k l m Q:=
 (Xd p k i l .t m x B E).2
def AD{b:Type} ds(d:b) a(c:a<G ds):Y ds a d=ds[a]:=by rw[aF,bD c];rfl
def Ka ds(b:Kn):∀a,a<=G ds->fold (λi=>(Y ds i ([],[])).2) b (be a)=vJ b (y a ds):=by
 intro a;induction a with
 |zero=>intro _;rfl
 |succ a c=>
  intro d
  rw[nE,Pq,c S,FV S]
  simp only[vJ,List.foldl_append,W5,List.foldl_nil]
  rw[AD ds _ a S]
def kb(a:St):I->Prop:=λb=>b<1000000*a.nx
def ahP{d}{m}{st}{Q:St->Prop}{F}{id}{R:Exit->Act->da->Prop}(kX:F.rd=none)(Ap:P.follows .mixedOrders=ae)(bW:RG P F.n d m st.nx 0 d.toList st [] Q)
  (hQ:∀p,Q p->∀g W a,bu F (kb p) p.kn g W a->R .normal a W) {g}{W}{a}(h0:bu F (kb st) st.kn g W a):(Code.region id d m).wp P R a W:=by
 refine(ag4 kX).1 ?_
 have X:yF F.rd d:=by rw[kX];exact ag3
 let ⟨ds,p,hl,M,h2,N,O,T,V,Z⟩:=bW ax
 have hl':G ds=d.size:=wU
 have A:∀i,i<d.size->yG P F.n d i ((Y ds i ([],[])).1) ((Y ds i ([],[])).2) (rq (λi=>1000000*st.nx+1000*i) i):=by intro i u;have:=M i S;rw[AD ds _ i S];simpa using this
 have D:∀i,i<d.size->∀t∈(Y ds i ([],[])).1,fold (λi=>(Y ds i ([],[])).2) st.kn (be i) t.1=some t.2:=by intro i u t e;rw[Ka ds st.kn i S];rw[AD ds _ i S]at e;exact h2 i S t e
 have C:∀g W a,bu F (·<1000000*st.nx+1000*d.size) (fold (λi=>(Y ds i ([],[])).2) st.kn<|be d.size) g W a->R .normal a W:=by intro g W a I;refine hQ p Z g W a ?_;rw[N];rw[Ka ds st.kn d.size S,iI S]at I;exact I.weaken (λid eo=>by simp only[kb,O];omega)
 cases m with
 |false=>exact WA (c:=λi=>1000000*st.nx+1000*i) (λi=>Kb) h0 A D C X
 |true=>
  let ⟨o,⟨sM,w⟩,q⟩:=V J
  have L:=Xc q
  have r:∀i j,i<j->j<d.size->∀a b:Ks,(o[i]? =some a->o[j]? =some b->rD a b=ae->ob d i j):=by intro i j l B a b E H hc;exact L.2 i j a b l B (by simpa using E) (by simpa using H) hc
  have f:∀i(u:i<d.size),∃a,o[i]? =some a/\(∀k∈gn (Y ds i ([],[])).1,k∈a.1)/\∀k∈oc (Y ds i ([],[])).2,k∈a.2:=by intro i u;have s:i<G o:=S;refine⟨o[i],bD s,?_⟩;rw[AD ds _ i S];exact w i S s
  refine WB (c:=λi=>1000000*st.nx+1000*i) (λi=>Kb) Ap L.1 h0 A D ?_ ?_ ?_ C X
  .intro i j l B k v x;let ⟨a,E,_,K⟩:=f i S;let ⟨b,H,_,U⟩:=f j B;exact r i j l B a b E H (by simp only[rD,C6 (K k v)<|U k x,Kc])
  .intro i j l B k v x;let ⟨a,E,_,K⟩:=f i S;let ⟨b,H,y,_⟩:=f j B;exact r i j l B a b E H (by simp only[rD,C6 (K k v)<|y k x,Kc,Kd])
  .intro i j l B k v x;let ⟨a,E,z,_⟩:=f i S;let ⟨b,H,_,U⟩:=f j B;exact r i j l B a b E H (by simp only[rD,C6 (z k v)<|U k x,Kd])
end
def jc:I->bH:=λ_=>undef
def ju(g:Gh):V AV->V bH->Prop
 |[],vs=>vs=[]
 |x::xs,vs=>∃v r,vs=v::r/\bI g x v/\ju g xs r
def fE:V AV->V I
 |[]=>[]
 |x::xs=>x.ar++fE xs
def bI.iw{g}{x}{v}(a:bI g x v)(b:x.ar=[]){H}(c:cz g.H H)(γ:I->bH):bI ⟨H,γ⟩ x v:=
 bI.mono (known:=λ_=>False) ⟨c,λ_ a=>a.elim⟩ (by simp[b]) a
def ju.iw{g:Gh}{γ:I->bH}:∀{xs:V AV}{vs:V bH},ju g xs vs->fE xs=[]->ju ⟨g.H,γ⟩ xs vs
 |[],_,a,_=>a
 |x::xs,_,a,hm=>by simp only[fE,CS]at hm;obtain⟨v,r,rfl,b,c⟩:=a;exact⟨v,r,J,b.iw hm.1 (cz.refl _) γ,c.iw hm.2⟩
def Ke(W:da)(H:FH)(r:AV)(d:Ending)(c:da):Prop:=
 ∃v a,d= .returned v/\bI ⟨a,jc⟩ r v/\cz H a/\(∀b o,b<W.heap.size->a b o=H b o)/\Sub a c/\Below W.heap.size W c
def oJ(P:cT)(f:FuncId):Bool:=match P.funcs[f]? with
 |some fn=>fn.name != "runtime.NumGoroutine" &&fn.body.isSome
 |none=>ah
structure af(P:cT)(f:FuncId)(args:V AV)(r:AV):Prop where
 call:oJ P f=ae
 iw:r.ar=[]
 spec:∀H W vs,Sub H W->ju ⟨H,jc⟩ args vs->Calls P f vs.toArray W (Ke W H r)
section
variable{P:cT}{tt:TT}
def km(a:St):V rB->bF (V AV)
 |[]=>some []
 |x::xs=>match a.ev x,km a xs with
  |some v,some vs=>some<|v::vs
  |_,_=>none
def yQ{F:eF}{b:I->Prop}{k:Kn}{g:Gh}{W:da}{a:Act}(l:bu F b k g W a)(d:St):∀(xs:V rB)(vs:V AV),km d xs=some vs->
  (∀c∈xs.flatMap (dO d),k c.1=some c.2)->ju g vs (xs.map a.eval)
 |[],vs,he,_=>by simp only[km,aR]at he;subst he;rfl
 |x::xs,vs,he,m=>by
  simp only[km]at he;split at he
  .rename_i v f n i;simp only[aR]at he;subst he;refine⟨_,_,J,gO l d x v n<|λc dL=>m c jt,yQ l d xs f i<|λc dL=>m c ?_⟩;simp only[mm,b8];exact .inr dL
  .simp at he
def P1{n E}{ops}{i}{R:dv}(ho:ops[i]? =some R)(hg:R.guard=none){d:I}(hd:R.dst=some d)(dC:d<n){f}{args}{lV}(dZ:R.op= .call ⟨.value<|.func f,args,lV⟩)
 {m}{vs}{r:AV} (hv:km m args.toList=some vs) (hm:fE vs=[]) (hf:af P f vs r):lI P n ops i m (m.put d r) E (cH args.toList,[.s d]):=by
 refine⟨args.toList.flatMap<|dO m,[(.s d,some<|.v r)],?_,?_,nH m d r,fZ m _,λk hk=>jG⟩
 .intro F nF Q q σ g W a K C bC w O;have p:=(yQ bC m _ _ hv w).iw (γ:=jc) hm;have S:=hf.spec g.H W _ bC.sub p;unfold wpOp;simp only[ho,nG,hg,cA];refine .inl ?_;unfold uk;have z:(execOp a.eval R).run P W= .ok (.enter f<|args.map a.eval) W:=by
   have c:=hf.call;unfold oJ at c;rw[execOp,dZ];cases B:P.funcs[f]? with
   |none=>rw[B]at c;simp at c
   |some fn=>
    rw[B]at c
    simp only[eG,bne_iff_ne,ne_eq]at c
    have T:fn.body≠none:=by intro V;rw[V]at c;simp at c
    simp[resolve,Act.eval,Deferred.ofValue,invoke,callFunc,B,c.1,T]
  rw[z];simp only[sL];have U:(args.map a.eval)=(args.toList.map a.eval).toArray:=uy;rw[U];refine S.mono ?_;rintro e Y ⟨v,N,rfl,X,hle,A,j,l⟩;simp only[hd];have D:d<a.tmps.size:=pq;refine O ⟨N,g.γ⟩ Y _<|bC.step (chg:=λ_=>False) (g':=⟨N,g.γ⟩) ⟨⟨hle,λ_ _=>rfl⟩,A,j,l.size,λk hk _=>l.block k hk,l.os,l.tape,l.output⟩ _ E C qt bC.defers ?_ (λ_ h=>h.elim) ?_ ?_ ?_ ?_
  .intro t ht;have G:d≠t:=rz;simp[jq,nf G]
  .intro t u ht;simp only[bf]at ht;split at ht
   .rename_i e;simp only[Key.s.injEq]at e;simp only[aR,Info.v.injEq]at ht;subst e;subst ht;have:=X.iw hf.iw (cz.refl _) g.γ;simpa[jq,D]using this
   .simp at ht
  .intro J b ht;simp[bf]at ht
  .intro k y ht;simp only[bf]at ht;split at ht
   .simp only[aR]at ht;subst ht;intro J L;have:J∈r.ar:=L;rw[hf.iw]at this;cases this
   .simp at ht
  .intro J y ht;simp[bf]at ht
 .intro Z M;let ⟨x,_,h⟩:=jF.1 M;exact gw m x Z h
def ahQ{n}{b}{a}{v i}{d f:I}{args}{c}{E}{pos}{g}{x}{k}{mem}{l}{m}{B}{Q:St->Prop}{vs}{r}
  (F:km ⟨k,mem,l,m⟩ args.toList=some vs) (H:af P f vs r) (R:RG P n b a v (i+1) x ⟨(d,r)::k,mem,l,m⟩ (ff a B (cH args.toList,[.s d])) Q) (U:fE vs=[]:=by rfl) (p:f' d n=ae:=by rfl):
  RG P n b a v i (⟨some d,.call ⟨.value<|.func f,args,c⟩,E,pos,g,none⟩::x) ⟨k,mem,l,m⟩ B Q:=
 k7 (λC=>P1 C J J (cY p) J F U H) (jH R)
def ahR{n}{k}{a}{R i}{d f:I}{args}{l}{U}{pos}{m}{W v}{g b}{os}{p}{mem}{x}{E}{ks}{Q:St->Prop}{vs}{r}
  (hj:vH k.toList W=some v) (hb:w v p=some (.c<|.B b)) (F:b=g)
  (hv:km ⟨p,mem,x,E⟩ args.toList=some vs) (hf:af P f vs r) (bW:RG P n k a R (i+1) os ⟨(d,r)::p,mem,x,E⟩ (ff a ks (.s v::cH args.toList,[.s d])) Q) (hm:fE vs=[]:=by rfl) (H:f' d n=ae:=by rfl):
  RG P n k a R i (⟨some d,.call ⟨.value<|.func f,args,l⟩,U,pos,m,some (W,g)⟩::os) ⟨p,mem,x,E⟩ ks Q:=
 k7 (λC=>J' C J hj hb F<|P1 (ops:= #[⟨some d,.call ⟨.value<|.func f,args,l⟩,U,pos,m,none⟩]) (i:=0) J J J (cY H) J hv hm hf) (jH bW)
def ahS{n}{f}{a}{E i}d{b}{F}{l}{mem}{p}{v}{H}{Q:St->Prop}(R:w d l=some (.c<|.B b))
  (U:b=ae->RG P n f a E i F ⟨(d,.c<|.B ae)::l,mem,p,(d,ae)::v⟩ H Q)
  (W:b=ah->RG P n f a E i F ⟨(d,.c<|.B ah)::l,mem,p,(d,ah)::v⟩ H Q):RG P n f a E i F ⟨l,mem,p,v⟩ H Q:=by
 have x:∀c:Bool,b=c->(⟨(d,.c<|.B c)::l,mem,p,(d,c)::v⟩:St).kn=(⟨l,mem,p,v⟩:St).kn:=by
  intro c e;subst e;funext k;cases k with
  |s K=>
   by_cases e:d=K
   .subst e;simp[St.kn,w,R]
   .simp[St.kn,w,e]
  |m id=>rfl
 cases b with
 |true=>
  intro C
  let ⟨ds,g,r⟩:=U J C
  rw[x ae J]at r
  exact⟨ds,g,r⟩
 |false=>
  intro C
  let ⟨ds,g,r⟩:=W J C
  rw[x ah J]at r
  exact⟨ds,g,r⟩
structure eF.pl(F:eF)(n:I):Prop where
 n:F.n=n
 k0:F.k0<=1
 rd:F.rd=none
 ds:F.ds=[]
abbrev ix:=eF->Exit->Act->da->Prop
def TR(P:cT)(n:I)(c:Code)(b:St)(Q:ix):Prop:=∀F:eF,F.pl n->∀g W a,bu F (kb b) b.kn g W a->c.wp P (Q F) a W
def fw(n:I)(c:Exit)(b:St)(Q:ix):Prop:=∀F:eF,F.pl n->∀g W a,bu F (kb b) b.kn g W a->Q F c a W
def sY(P:cT)(b:Code)(Q:ix):ix:=λF=>Exit.then (λa W=>b.wp P (Q F) a W)<|Q F
def xd(a:I)(Q:ix):ix:=λF=>Ga a<|Q F
def Gb{c:Type}(b:c->St)(i:c->Prop)(f:c->I)(x:c)(Q:ix):ix:=λF=>Exit.then (λa W=>∃d g,i d/\f d<f x/\bu F (kb<|b d) (b d).kn g W a)<|Q F
variable{n:I}{Q:ix}{st:St}
def gy{x b}(c:TR P n x st (sY P b Q)):TR P n (.seq x b) st Q:=λF d g W a f=>wp_seq<|c F d g W a f
def bN(b:fw n .normal st Q):TR P n .skip st Q:=λF c g W a d=>wp_skip<|b F c g W a d
def jS{b}(c:fw n (.exit b) st Q):TR P n (.exit b) st Q:=λF d g W a f=>wp_exit<|c F d g W a f
def bc(b:fw n .ret st Q):TR P n .ret st Q:=λF c g W a d=>wp_ret<|b F c g W a d
def vL{b}{c}(d:TR P n c st (xd b Q)):TR P n (.block b c) st Q:=λF f g W a i=>wp_block<|d F f g W a i
def auI{c}{x f}{b}(k:st.ev c=some (.c<|.B b))(l:b=ae->TR P n x st Q)(m:b=ah->TR P n f st Q):TR P n (.cond c x f) st Q:=by intro F i g W a d;have p:bI g (.c<|.B b) (a.eval c):=gO d st c _ k<|gw st c;exact wp_cond_split p (λe=>l e F i g W a d)<|λe=>m e F i g W a d
def Kf{l}{c}{b}(f:P.follows .mixedOrders=ae)(m:RG P n c b st.nx 0 c.toList st [] (λd=>fw n .normal d Q)):TR P n (.region l c b) st Q:=by intro F i g W a p;have r:=i.n;subst r;exact ahP i.rd f m (λd v g W a k=>v F i g W a k) p
def ay{a}(b:TR P n a st Q):fw n .normal st (sY P a Q):=b
def lJ{b}{a}(c:fw n (.exit a) st Q):fw n (.exit a) st (sY P b Q):=c
def bt{a}(b:fw n .ret st Q):fw n .ret st (sY P a Q):=b
def dy{a}(b:fw n .normal st Q):fw n .normal st (xd a Q):=b
def eH{a}(b:fw n .ret st Q):fw n .ret st (xd a Q):=b
def jT{b}(c:fw n .normal st Q):fw n (.exit b) st (xd b Q):=λF d g W a f=>by simp only[xd,Ga,cA];exact c F d g W a f
def Gc{d b}(f:fw n (.exit b) st Q)(c:b≠d:=by decide):fw n (.exit b) st (xd d Q):=λF i g W a k=>by simp only[xd,Ga,c,cC];exact f F i g W a k
def kF{a:Type}{b:a->St}{d:a->Prop}{f:a->I}{x}{c}(g:fw n (.exit c) st Q):fw n (.exit c) st (Gb b d f x Q):=g
def gf{a:Type}{b:a->St}{c:a->Prop}{d:a->I}{x}(f:fw n .ret st Q):fw n .ret st (Gb b c d x Q):=f
def Wk(st b:St):Prop:=∀F:eF,F.k0<=1->∀g W a,bu F (kb st) st.kn g W a->∃c,bu F (kb b) b.kn c W a
def aA{d:Type}{b:d->St}{i:d->Prop}{f:d->I}{x}c(k:i c)(l:f c<f x)(m:Wk st (b c)):fw n .normal st (Gb b i f x Q):=by intro F p g W a r;let ⟨v,B⟩:=m F p.k0 g W a r;exact⟨c,v,k,l,B⟩
def ahT{c}{α:Type}(U:α->Act->da->Prop)(W:α->I){Q:Exit->Act->da->Prop} x{a}{i}(F:U x a i)
  (round:∀x a i,U x a i->c.wp P (Exit.then (λB E=>∃H,U H B E/\W H<W x) Q) a i):(Code.loop c).wp P Q a i:=by
 intro b k X
 have h:∀n x a i,W x=n->U x a i->
   ∃e B E,Q e B E/\Arrives P (lone (b.at a<|.code c:: .inLoop c::k) X i) b k X e B E:=by
  intro n
  induction n using Nat.strongRecOn with
  |_ n o=>
   intro x a i q s
   let ⟨e,f,g,p,d⟩:=round x a i s b (.inLoop c::k) X
   cases e with
   |normal=>
    let ⟨H,r,j⟩:=p
    let ⟨C,K,R,v,m⟩:=o (W H) (q▸j) H f g J r
    exact⟨C,K,R,v,.of_steps (Steps.trans d<|.one step_inLoop) m⟩
   |exit id=>exact⟨_,f,g,p,.pass (x:= .inLoop c) J (λ_ _=> .inl ax) d⟩
   |goto l=>exact⟨_,f,g,p,.pass (x:= .inLoop c) J (λ_ _=> .inl ax) d⟩
   |ret=>exact⟨_,f,g,p,.pass (x:= .inLoop c) J (λ_ _=> .inl ax) d⟩
   |panic ch=>exact⟨_,f,g,p,.pass (x:= .inLoop c) J (λ_ _=> .inl ax) d⟩
   |outgrown=>exact⟨_,f,g,p,.pass (x:= .inLoop c) J (λ_ _=> .inl ax) d⟩
 let ⟨e,B,E,p,d⟩:=h _ x a i J F
 exact⟨e,B,E,p,.of_steps (.one step_loop) d⟩
def aK{α:Type}(b:α->St)(d:α->Prop)(l:α->I) f{c}(r:d f)(v:Wk st (b f))(round:∀x,d x->TR P n c (b x) (Gb b d l x Q)):TR P n (.loop c) st Q:=by
 intro F m g W a B;let ⟨C,E⟩:=v F m.k0 g W a B;refine ahT (λx a W=>d x/\∃g,bu F (kb<|b x) (b x).kn g W a) l f ⟨r,C,E⟩ ?_;rintro x a W ⟨i,g,hg⟩;refine wp_mono (round x i F m g W a hg) ?_;intro e U X p;cases e with
 |normal=>
  let ⟨H,k,K,h2,R⟩:=p
  exact⟨H,⟨K,k,R⟩,h2⟩
 |_=>exact p
end
section
variable{P:cT}{tt:TT}{n:I}{Q:ix}{st:St}
def a7(v a:AV):Prop:=(∀g x,bI g v x->bI g a x)/\∀b∈a.ar,b∈v.ar
def a7.refl v:a7 v v:=⟨λ_ _ h=>h,λ_ h=>h⟩
def a7.of_eq{v a}(b:v=a):a7 v a:=b▸a7.refl v
def a7.nil a:a7 (.c<|.V<|.slice none 0 0) (.c<|.S a []):=⟨λg x h=>by have b:x= .slice none 0 0:=h;subst b;exact⟨none,0,J,a8 _,ax,.inl J⟩,sQ⟩
def cK(b c:aH):Prop:=(∀N g W a,jn N g W a b->jn N g W a c)/\∀a∈c.ar,a∈b.ar
def cK.refl b:cK b b:=⟨λ_ _ _ _ h=>h,λ_ h=>h⟩
def cK.of_eq{b a}(c:b=a):cK b a:=c▸cK.refl b
def xe(l:V (I×AV)):V (I×AV)->Prop
 |[]=>True
 | (a,b)::r=>(∃v,w a l=some v/\a7 v b)/\xe l r
def iV(l:V (I×aH)):V (I×aH)->Prop
 |[]=>True
 | (a,b)::r=>(∃v,w a l=some v/\cK v b)/\iV l r
def xe.get{l:V (I×AV)}:∀{m:V (I×AV)},xe l m->∀{b c},w b m=some c->∃v,w b l=some v/\a7 v c
 |[],_,_,_,a=>by simp[w]at a
 | (k,x)::m,hw,b,c,a=>by
  simp only[w]at a;split at a
  .rename_i d;subst d;cases a;exact hw.1
  .exact xe.get hw.2 a
def iV.get{l:V (I×aH)}:∀{m:V (I×aH)},iV l m->∀{b c},w b m=some c->∃v,w b l=some v/\cK v c
 |[],_,_,_,a=>by simp[w]at a
 | (k,x)::m,hw,b,c,a=>by
  simp only[w]at a;split at a
  .rename_i d;subst d;cases a;exact hw.1
  .exact iV.get hw.2 a
def rF(b:I):V I->Bool
 |[]=>ae
 |id::r=>f' id b&&rF b r
def rG(b:I):V (I×AV)->Bool
 |[]=>ae
 | (_,v)::r=>rF b v.ar&&rG b r
def nh(b:I):V (I×aH)->Bool
 |[]=>ae
 | (id,v)::r=>f' id b&&rF b v.ar&&nh b r
def Kg{b:I}:∀{l:V I},rF b l=ae->∀c∈l,c<b
 |[],_,_,a=>by simp at a
 |f::r,d,c,a=>by
  simp only[rF,eG]at d;rcases df.1 a with rfl|a
  .exact cY d.1
  .exact Kg d.2 c a
def yR{b:I}:∀{l:V (I×AV)},rG b l=ae->∀c v,w c l=some v->∀f∈v.ar,f<b
 |[],_,_,_,a=>by simp[w]at a
 | (k,x)::r,d,c,v,a=>by
  simp only[rG,eG]at d;simp only[w]at a;split at a
  .cases a;exact Kg d.1
  .exact yR d.2 c v a
def Kh{b:I}:∀{l:V (I×aH)},nh b l=ae->∀c v,w c l=some v->c<b/\∀f∈v.ar,f<b
 |[],_,_,_,a=>by simp[w]at a
 | (k,x)::r,d,c,v,a=>by
  simp only[nh,eG]at d;simp only[w]at a;split at a
  .rename_i g;subst g;cases a;exact⟨cY d.1.1,Kg d.1.2⟩
  .exact Kh d.2 c v a
def wk{st st'}(hs:xe st.sl st'.sl)(hm:iV st.mem st'.mem)(p:(rG (1000000*st'.nx) st'.sl&&nh (1000000*st'.nx) st'.mem&&(iv 1 st'.nx||iv st.nx 0))=ae:=by rfl):Wk st st':=by
 intro F X g W a h;simp only[eG,vI]at p;let ⟨p,C⟩:=p;have E:∀d,d<F.k0->kb st' d/\g.γ d=F.γ0 d:=by
  intro d l;let ⟨R,h2⟩:=h.iJ d l;refine⟨?_,h2⟩;have R:d<1000000*st.nx:=R;show d<1000000*st'.nx;rcases C with e|e
  .have:=cY e;omega
  .have:=cY e;omega
 have U:∀t f,st'.kn (.s t)=some (.v f)->(∃v,st.kn (.s t)=some (.v v)/\a7 v f)/\∀d∈f.ar,d<1000000*st'.nx:=by intro t f e;simp only[St.kn,cd]at e;let ⟨x,hx,he⟩:=e;cases he;let ⟨v,hv,hle⟩:=hs.get hx;exact⟨⟨v,mq,hle⟩,yR p.1 t f hx⟩
 have r:∀d i,st'.kn (.m d)=some (.b i)->(∃b,st.kn (.m d)=some (.b b)/\cK b i)/\d<1000000*st'.nx/\∀j∈i.ar,j<1000000*st'.nx:=by intro t f e;simp only[St.kn,cd]at e;let ⟨x,hx,he⟩:=e;cases he;let ⟨v,hv,hle⟩:=hm.get hx;exact⟨⟨v,mq,hle⟩,Kh p.2 t f hx⟩
 refine⟨g,h.size,h.defers,?_,?_,?_,?_,?_,h.sub,h.below,h.le,h.fresh,E⟩
 .intro t f e;let ⟨⟨v,hv,hle⟩,_⟩:=U t f e;exact hle.1 _ _<|h.gM t v hv
 .intro d i e;let ⟨⟨b,o,hle⟩,_⟩:=r d i e;exact hle.1 _ _ _ _<|h.db d b o
 .intro d B b i k e q u H;let ⟨⟨c,hc,_⟩,_⟩:=r d b e;let ⟨⟨w,K,_⟩,_⟩:=r B i q;exact h.inj d B c w k hc K u H
 .intro k x e d l;cases k with
  |s t=>
   cases x with
   |v f=>exact(U t f e).2 d l
   |b i=>simp only[St.kn,cd]at e;let ⟨_,_,he⟩:=e;cases he
  |m j=>
   cases x with
   |v f=>simp only[St.kn,cd]at e;let ⟨_,_,he⟩:=e;cases he
   |b i=>exact(r j i e).2.2 d l
 .intro d x e;cases x with
  |v f=>simp only[St.kn,cd]at e;let ⟨_,_,he⟩:=e;cases he
  |b i=>exact(r d i e).2.1
def dc{c}{st'}(d:Wk st st')(f:TR P n c st' Q):TR P n c st Q:=by intro F b g W a i;let ⟨k,l⟩:=d F b.k0 g W a i;exact f F b k W a l
def P2{b}{st'}(d:Wk st st')(f:fw n b st' Q):fw n b st Q:=by intro F c g W a i;let ⟨k,l⟩:=d F c.k0 g W a i;exact f F c k W a l
def xf(P:cT)(c:Func)(r:AV):ix:=λF e a W=>(∀b,¬F.own b)->bodyPost P c (Ke F.w0 F.H0 r) e a W
def AE(tt:TT)(st:St):Ki->bF AV
 | .tmp a=>w a st.sl
 | .cell a ty=>(match w a st.sl with
  |some (.c<|.P id off)=>(match w id st.mem,px tt ty with
   |some (.box _ _ cs),some (sz,b)=>oH cs off sz b
   |_,_=>none)
  |_=>none)
def vM:AV->bF (Bool×V C)
 | .c x=>some (ah,[x])
 | .a cs=>some (ae,cs)
 | .t _=>none
def C8(tt:TT)(st:St):V Ki->bF (V<|Bool×V C)
 |[]=>some []
 |x::xs=>(match AE tt st x with
  |some v=>(match vM v,C8 tt st xs with
   |some a,some r=>some<|a::r
   |_,_=>none)
  |none=>none)
def oK(tt:TT)(st:St):V Ki->bF AV
 |[x]=>AE tt st x
 |xs=>(C8 tt st xs).map .t
def AF(a:Array bH):Ki->Go.Sem bH
 | .tmp c=>pure<|a.getD c undef
 | .cell b c=>do loadVar c (<-asAddr (a.getD b undef))
def Xe(l:cN P tt=ae){F}{i:I->Prop}{g}{W}{a}(m:bu F i st.kn g W a){x}{v}(hv:AE tt st x=some v):
  ∃k,(AF a.tmps x).run P W= .ok k W/\bI g v k:=by
 cases x with
 |tmp t=>
  simp only[AE]at hv
  exact⟨_,by simp[AF,pure],m.gM t v mq⟩
 |cell b t=>
  simp only[AE]at hv
  split at hv
  .rename_i C p H;split at hv
   .rename_i E K R sz s U r;let ⟨X,vs,rest,B,hh,e,_,_⟩:=m.db C (.box E K R) (by simp[St.kn,U]);let ⟨o,d,hp⟩:=m.gM b (.c<|.P C p) (by simp[St.kn,H]);rw[B]at d;simp only[aR]at d;subst d;let ⟨k,f,hu⟩:=FQ (W:=W) l r e hv X 0 (λj q=>by have:=sU hh j bP;rw[wW q]at this;simpa using this);refine⟨k,?_,hu⟩;simp only[dU]at f;simp only[AF,hp,asAddr];simpa[Instr.loadAt,Instr.sureAddr]using f
   .simp at hv
  .simp at hv
def Xf{g}{v}{d}(b:vM v=some d){f}(i:bI g v f):Ah g d f:=by
 cases v with
 |c x=>simp only[vM,aR]at b;subst b;exact i
 |a cs=>simp only[vM,aR]at b;subst b;exact i
 |t _=>simp[vM]at b
def AG(B:cN P tt=ae){F}{i:I->Prop}{g}{W}{a}(H:bu F i st.kn g W a){R}{rs}(U:R.results=rs.toArray){v}(f:oK tt st rs=some v):
  ∃k,(results R a.tmps).run P W= .ok k W/\bI g v k:=by
 have X:∀(rs:V Ki)(p:V (Bool×V C)),C8 tt st rs=some p->∃d:V bH,(rs.mapM<|AF a.tmps).run P W= .ok d W/\dt g p d/\G d=G rs:=by
  intro rs;induction rs with
  |nil=>intro p b;simp only[C8,aR]at b;subst b;exact⟨[],by simp[pure],J,J⟩
  |cons x xs j=>
   intro p b
   simp only[C8]at b
   split at b
   .rename_i w K;split at b
    .rename_i s r o q;simp only[aR]at b;subst b;let ⟨k,hu,c⟩:=Xe B H K;let ⟨d,l,m,hlen⟩:=j r q;refine⟨k::d,?_,⟨k,d,J,Xf o c,m⟩,by simp[hlen]⟩;rw[List.mapM_cons];simp only[dY,hu,eP,l];simp[pure]
    .simp at b
   .simp at b
 have e:results R a.tmps=(do let vs <-rs.toArray.mapM (AF a.tmps);pure (if H:vs.size=1 then vs[0]else .tuple vs)):=by unfold results;rw[U];rfl
 have E:Array.mapM (AF a.tmps) rs.toArray=Functor.map List.toArray (rs.mapM<|AF a.tmps):=ax
 rw[e,E]
 match rs,f with
 |[],f=>
  simp only[oK,C8,Kj,aR]at f
  subst f
  exact⟨.tuple #[],by simp[lU,pure],[],J,J⟩
 |[x],f=>
  let ⟨k,hu,c⟩:=Xe B H f
  refine⟨k,?_,c⟩
  simp[hu,lU,pure]
 |x::y::r,f=>
  simp only[oK,cd]at f
  obtain⟨p,b,rfl⟩:=f
  let ⟨d,l,m,hlen⟩:=X _ p b
  refine⟨.tuple d.toArray,?_,d,J,m⟩
  have t:d.toArray.size≠1:=by simp[hlen]
  simp only[map_eq_pure_bind,bind_assoc,pure_bind,dY,l,eP]
  rw[dif_neg t]
  rfl
def g8(f:cN P tt=ae){m}{p}{v r}(x:oK tt st p=some v)(i:a7 v r)(l:m.results=p.toArray:=by rfl)(B:r.ar=[]:=by rfl):fw n .ret st (xf P m r):=by intro F C g W a h c;let ⟨u,hu,d⟩:=AG f h l x;refine⟨h.defers.trans C.ds,u,hu,u,g.H,J,?_,h.le,λb o E=>h.fresh b o E<|c b,h.sub,⟨h.below.os,h.below.tape,h.below.output,h.below.size,λk K=>h.below.block k K<|c k⟩⟩;exact(i.1 _ _ d).iw B (cz.refl _) jc
def ahU(b:cN P tt=ae){f}{i}{k r}(l:oK tt st i=some k)(c:a7 k r)(d:f.results=i.toArray:=by rfl)(m:r.ar=[]:=by rfl):fw n .normal st (xf P f r):=
 λF p g W a h=>g8 b l c d m F p g W a h
def k8:I->V AV->V (I×AV)
 |_,[]=>[]
 |i,v::vs=>(i,v)::k8 (i+1) vs
def oL{g:Gh}:∀(vs:V AV)(k:V bH)(i:I),ju g vs k->∀a v,w a (k8 i vs)=some v->i<=a/\∃d,k[a-i]? =some d/\bI g v d/\∀f∈v.ar,f∈fE vs
 |[],_,i,_,a,v,c=>by simp[k8,w]at c
 |x::vs,_,i,l,a,v,c=>by
  obtain⟨d,r,rfl,m,p⟩:=l;simp only[k8,w]at c;split at c
  .rename_i e;subst e;cases c;exact⟨a8 _,d,ax,m,λf b=>by simp[fE,b]⟩
  .let ⟨H,B,C,E,F⟩:=oL vs r (i+1) p a v c;refine⟨S,B,?_,E,λf b=>by simp[fE,F f b]⟩;rw[(S:a-i=(a-(i+1))+1)];simpa using C
def yS{g:Gh}:∀{vs:V AV}{b:V bH},ju g vs b->G b=G vs
 |[],_,a=>by simp only[ju]at a;subst a;rfl
 |_::vs,_,a=>by obtain⟨d,r,rfl,_,c⟩:=a;simp[yS c]
def yT{f}{g}{c}{args}{r}(hf:P.funcs[f]? =some g)(hb:g.body=some c)(hN:g.ntmps=n)(i:iv args.length n=ae)(E:fE args=[])(F:r.ar=[])(yU:(g.name != "runtime.NumGoroutine")=ae)
  (l:TR P n c ⟨k8 0 args,[],0,[]⟩ (xf P g r)):af P f args r:=by
 refine⟨C9,F,?_⟩
 intro H W vs p d
 refine calls_of_wp hf hb ?_
 have R:=yS d
 have i:=cY i
 refine wp_mono (l {w0:=W,H0:=H,n:=n} ⟨J,aW _,J,J⟩ ⟨H,jc⟩ W _ ⟨?_,J,?_,?_,?_,?_,?_,p,⟨J,J,J,a8 _,λ_ _ _=>rfl⟩,cz.refl _,λ_ _ _ _=>rfl,λ_ l=>absurd l<|yV _⟩)<|λe a D X=>X<|λ_ l=>l
 .simp[hN];omega
 .intro t v U;simp only[St.kn,cd]at U;let ⟨x,hx,he⟩:=U;cases he;let ⟨_,u,hu,o,_⟩:=oL args vs 0 d t v hx;have B:vs[t]? =some u:=AH;have iD:t<G vs:=(uv.1 B).1;have:(vs.toArray++Array.replicate (g.ntmps-vs.toArray.size) undef).getD t undef=u:=by rw[ux,yW C'];simp[B]
  rw[this];exact o
 .intro C b e;simp[St.kn,w]at e
 .intro C q b I k e;simp[St.kn,w]at e
 .intro k x e C K;cases k with
  |m j=>simp[St.kn,w]at e
  |s t=>
   simp only[St.kn,cd]at e
   let ⟨y,z,he⟩:=e
   subst he
   let ⟨_,u,_,_,A⟩:=oL args vs 0 d t y z
   have:=A C K
   rw[E]at this
   cases this
 .intro C x e;simp[St.kn,w]at e
end
def sR{l:V (I×AV)}{a:I}{v:AV}(b:w a l=some v):∃x,w a l=some x/\a7 x v:=⟨v,b,a7.refl v⟩
def bR{l:V (I×aH)}{a:I}{v:aH}(b:w a l=some v):∃x,w a l=some x/\cK x v:=⟨v,b,cK.refl v⟩
def sE{l:V (I×AV)}{b:I}{a v:AV}(c:w b l=some a)(d:a=v):∃x,w b l=some x/\a7 x v:=⟨a,c,a7.of_eq d⟩
def bE{l:V (I×aH)}{b:I}{a v:aH}(c:w b l=some a)(d:a=v):∃x,w b l=some x/\cK x v:=⟨a,c,cK.of_eq d⟩
def aS{b:V (I×AV)}:∀{l:V (I×AV)},l.map (λa=>w a.1 b)=l.map (λa=>some a.2)->xe b l
 |[],_=>trivial
 | (d,v)::l,c=>⟨⟨v,(Kk c).1,a7.refl v⟩,aS (Kk c).2⟩
def jv{b:V (I×aH)}:∀{l:V (I×aH)},l.map (λa=>w a.1 b)=l.map (λa=>some a.2)->iV b l
 |[],_=>trivial
 | (d,v)::l,c=>⟨⟨v,(Kk c).1,cK.refl v⟩,jv (Kk c).2⟩
def aM{c a:St}(d:a.sl.map (λb=>w b.1 c.sl)=a.sl.map (λb=>some b.2):=by rfl)(f:a.mem.map (λb=>w b.1 c.mem)=a.mem.map (λb=>some b.2):=by rfl)(g:(rG (1000000*a.nx) a.sl&&nh (1000000*a.nx) a.mem&&(iv 1 a.nx||iv c.nx 0))=ae:=by rfl):Wk c a:=wk (aS d) (jv f) g
def lW{p:Prop}(a:p:=by first|trivial| (simp only[Pr.an,Pr.h,num,eO,true_and,and_true];first|done|omega)| (simp[Pr.an,Pr.h,num,eO];done)| (simp[Pr.an,Pr.h,num,eO];omega)):p:=a
def xg{p:Prop}(a:p:=by first|trivial| (simp only[Pr.an,Pr.h,num,eO,true_and,and_true];first|done|omega)):p:=a
def bA{a b:Int}(d:a=b):AV.c (C.I .u64 a)=AV.c (C.I .u64 b):=by rw[d]
def gh{a b:Int}(d:a=b):AV.c (C.I .i64 a)=AV.c (C.I .i64 b):=by rw[d]
def Da{a b:Int}(d:a=b):AV.c (C.I .u32 a)=AV.c (C.I .u32 b):=by rw[d]
section
variable{P:cT}{tt:TT}
def Xg{b:Type}(a:V b) n i(d:i<n):y (G a) (aE (i*G a)<|(bh n a).flatten)=a:=by
 induction n generalizing i with
 |zero=>omega
 |succ n c=>
  rw[uc,ahV]
  cases i with
  |zero=>simp
  |succ i=>
   rw[(JX:(i+1)*G a=G a+i*G a),<-vK,List.drop_left]
   exact c i S
def ahW{b:Type}(a:V b) n:(bh n a).flatten.length=n*G a:=ax
def P3(a:V bH) n(f:a≠[]):(Xh<|n*G a).map (λi=>a.toArray[i%a.toArray.size]!)=((bh n a).flatten).toArray:=by
 apply Array.ext
 .simp
 .intro i d h2;simp at d;have g:0<G a:=bX.2 f;have c:i%G a<G a:=fg _ g;simp only[Array.getElem_map,Array.getElem_range,List.size_toArray,ahX];rw[getElem!_pos _ _ (by simpa using c),ahX];have k:i/G a<n:=Db (by rw[fR];exact d);have l:=Xg a n (i/G a) k;have m:i=i/G a*G a+i%G a:=by rw[fR];exact(sZ i<|G a).symm
  have b:(y (G a)<|(bh n a).flatten.drop<|i/G a*G a)[i%G a]? =a[i%G a]? :=by rw[l]
  rw[yC c,rA,<-m]at b;rw[bD lj,bD c]at b;simp only[aR]at b;exact b.symm
def Xi{ops}{i}{r:dv}{d:I}(ho:ops[i]? =some r)(hg:r.guard=none)(hd:r.dst=some d){n}(dC:d<n){U}{E}{dR}{xs}new(hlen:G xs*dR.n<=140737488355328)
  (bW:∀(F:eF)(f:I->Prop)(σ:Kn)(g:Gh)(W:da)(a:Act),bu F f σ g W a->(∀kx∈qu U r.op,σ kx.1=some kx.2)->
   ∃(vs:V bH)(l:I)(W1:da),(execOp a.eval r).run P W= .ok (.value<|.slice (some ⟨W.heap.size,0,none⟩) (G xs) l) {W1 with heap:=W.heap.push<|.cells vs.toArray E (0,0)}/\W1.os=W.os/\W1.tape=W.tape/\W1.output=W.output/\G vs=l*dR.n/\G xs<=l/\
    ∀i(bW:i<G xs),dk g.H dR xs[i] ((aE (i*dR.n) vs).take dR.n)):
  lI P n ops i U ((U.pm new<|.vec E dR xs).put d<|.c<|.X new) new (cH r.op.operands.toList,[.s d,.m new]):=by
 refine⟨qu U r.op,[(.s d,some<|.v<|.c<|.X new),(.m new,some<|.b<|.vec E dR xs)],?_,C2 U _,AA U d new _ _,fZ U _,λk hk=>jG⟩
 intro F nF Q f σ g W a K B bC D O
 let ⟨vs,l,W1,q,S,Y,Z,L,hle,w⟩:=bW F f σ g W a bC D
 unfold wpOp
 simp only[ho,nG,hg,cA]
 refine .inl ?_
 unfold uk
 rw[q]
 simp only[sL,hd]
 have M:d<a.tmps.size:=pq
 let j:Gh:=⟨g.H,λR=>if R=new then .slice (some ⟨W.heap.size,0,none⟩) (G xs) l else g.γ R⟩
 have z:iT f g j:=⟨cz.refl _,λR p=>by
  have:R≠new:=λe=>B<|e▸p
  simp[j,this]⟩
 have x:∀r,g.H W.heap.size r=none:=by
  intro r;cases hv:g.H W.heap.size r with
  |none=>rfl
  |some v=>
   have:=FZ W _<|bC.sub _ _ _ hv
   simp at this
 have A:Sub g.H {W1 with heap:=W.heap.push<|.cells vs.toArray E (0,0)}:=by have:=FY bC.sub<|.cells vs.toArray E (0,0);exact this
 refine O j _ _<|bC.step (chg:=λ_=>False) (g':=j) ⟨z,λ_ _ _=>rfl,A,ax,λk hk _=>FX W _ k hk,S,Y,Z⟩ _ new B qt bC.defers ?_ (λ_ bW=>bW.elim) ?_ ?_ ?_ ?_
 .intro t ht;have N:d≠t:=rz;simp[jq,nf N]
 .intro t u ht;simp only[bf]at ht;split at ht
  .rename_i e;simp only[Key.s.injEq]at e;simp only[aR,Info.v.injEq]at ht;subst e;subst ht;simp[jq,M,bI,dn,j]
  .split at ht
   .simp at ht
   .simp at ht
 .intro R b ht;simp only[bf,reduceCtorEq,cC]at ht;split at ht
  .rename_i e;simp only[Key.m.injEq]at e;subst e;simp only[aR,Info.b.injEq]at ht;subst ht;refine⟨.inr ⟨W.heap.size,l,vs,by simp[j],ax,L,hle,hlen,w,.inl bC.below.size,x⟩,.inr ⟨J,λk hk=> .inl ?_⟩⟩;simp only[j,cA,cP,aR]at hk;omega
  .simp at ht
 .intro k y ht;simp only[bf]at ht;split at ht
  .simp only[aR]at ht;subst ht;intro R p;simp[Info.ar,AV.ar,C.ar]at p;exact .inr p
  .split at ht
   .simp only[aR]at ht;subst ht;intro R p;simp[Info.ar,aH.ar]at p
   .simp at ht
 .intro R y ht;simp only[bf,reduceCtorEq,cC]at ht;split at ht
  .rename_i e;simp only[Key.m.injEq]at e;exact .inr e.symm
  .simp at ht
def Xj{ops}{i}{f:dv}{d:I}(ho:ops[i]? =some f)(hg:f.guard=none)(hd:f.dst=some d){n}(dC:d<n){st}{E}{p}{xs}new(hlen:G xs*p.n<=140737488355328)
  (bW:∀(F:eF)(m:I->Prop)(σ:Kn)(g:Gh)(W:da)(a:Act),bu F m σ g W a->(∀kx∈qu st f.op,σ kx.1=some kx.2)->
   ∃(vs:V bH)(l:I)(W1:da),(execOp a.eval f).run P W= .ok (.value<|.slice (some ⟨W.heap.size,0,none⟩) (G xs) l) {W1 with heap:=W.heap.push<|.cells vs.toArray E (0,0)}/\W1.os=W.os/\W1.tape=W.tape/\W1.output=W.output/\G vs=l*p.n/\G xs<=l/\
    ∀i(bW:i<G xs),dk g.H p xs[i] ((aE (i*p.n) vs).take p.n)):
  lI P n ops i st (st.put d<|.c<|.S p xs) new (cH f.op.operands.toList,[.s d]):=by
 refine⟨qu st f.op,[(.s d,some<|.v<|.c<|.S p xs)],?_,C2 st _,nH st d _,fZ st _,λk hk=>jG⟩
 intro F nF Q m σ g W a K X bC A Y
 let ⟨vs,l,W1,q,Z,e2,e3,xh,hle,R⟩:=bW F m σ g W a bC A
 unfold wpOp
 simp only[ho,nG,hg,cA]
 refine .inl ?_
 unfold uk
 rw[q]
 simp only[sL,hd]
 have D:d<a.tmps.size:=pq
 let x:Gh:=⟨λb f=>if b=W.heap.size then vs[f]? else g.H b f,g.γ⟩
 have B:∀f,g.H W.heap.size f=none:=by
  intro f;cases r:g.H W.heap.size f with
  |none=>rfl
  |some v=>
   have:=FZ W _<|bC.sub _ _ _ r
   simp at this
 have U:cz g.H x.H:=by
  intro b f v r;by_cases e:b=W.heap.size
  .subst e;rw[B]at r;cases r
  .simp[x,e,r]
 have w:Sub x.H {W1 with heap:=W.heap.push<|.cells vs.toArray E (0,0)}:=by
  intro b f v r;by_cases e:b=W.heap.size
  .subst e;simp only[x,cA]at r;simp[World.cell?,r]
  .simp only[x,e,cC]at r;exact FY bC.sub (.cells vs.toArray E (0,0)) b f v r
 refine Y x _ _<|bC.step (chg:=λ_=>False) (g':=x) ⟨⟨U,λ_ _=>rfl⟩,?_,w,ax,λk hk _=>FX W _ k hk,Z,e2,e3⟩ _ new X qt bC.defers ?_ (λ_ bW=>bW.elim) ?_ ?_ ?_ ?_
 .intro b f hb;have:b≠W.heap.size:=S;simp[x,this]
 .intro t ht;have L:d≠t:=rz;simp[jq,nf L]
 .intro t u ht;simp only[bf]at ht;split at ht
  .rename_i e;simp only[Key.s.injEq]at e;simp only[aR,Info.v.injEq]at ht;subst e;subst ht;have z:(a.put (some d)<|.slice (some ⟨W.heap.size,0,none⟩) (G xs) l).tmps.getD d undef= .slice (some ⟨W.heap.size,0,none⟩) (G xs) l:=by simp[jq,D]
   rw[z];refine⟨_,l,J,hle,hlen,?_⟩;by_cases hx:xs=[]
   .exact .inl hx
   .refine .inr ⟨W.heap.size,0,J,λk hk=>⟨(aE (k*p.n) vs).take p.n,dk.length p _ _<|R k hk,dk.mono U p _ _<|R k hk,λj hj=>?_⟩⟩;have M:(k+1)*p.n<=l*p.n:=eB _ S;rw[g7,iL]at M;simp only[il,yX]at hj;simp only[x,cA,dU,sT,uw];exact bD S
  .simp at ht
 .intro O b ht;simp[bf]at ht
 .intro k y ht;simp only[bf]at ht;split at ht
  .simp only[aR]at ht;subst ht;intro O N;simp[Info.ar,AV.ar,C.ar]at N
  .simp at ht
 .intro O y ht;simp[bf]at ht
def ahY(B:cN P tt=ae){H}{i}{Q:dv}{d:I}(ho:H[i]? =some Q)(hg:Q.guard=none)(hd:Q.dst=some d){n}(dC:d<n){b9}{x}(dZ:Q.op= .makeSlice b9 x x)
 {st}{m:I} {k}(hx:st.ev x=some (.c<|.I k (m:Int))) {E}{ti l:TI} (ry:w b9 tt=some ti) (hk:ti.kind= .sl E) (s0:w E tt=some l) (f:ET) (qx:l.size=f.n)
  (hz:∀g:Gh,bL g (av f f.cJ) (l.zero.map ZV.gq)) (hb:m*l.bytes<=281474976710656) (oM:m*f.n<=140737488355328) (p:I):
  lI P n H i st ((st.pm p<|.vec E f<|bh m f.cJ).put d<|.c<|.X p) p (cH Q.op.operands.toList,[.s d,.m p]):=by
 refine Xi ho hg hd dC p Dc ?_
 intro F u V g W a C y
 have M:a.eval x= .int k (m:Int):=gO C st x _ hx<|λN dL=>y N P4
 have G:=(g5 B ry).kind
 rw[hk]at G
 let ⟨inf,K,R,U,z,A,Az⟩:=(g5 B s0).info
 have b:(l.zero.map ZV.gq).length=f.n:=dk.length f _ _<|yx f _ _<|hz g
 have h:z.cells=(l.zero.map ZV.gq).toArray:=F6
 have q:(l.zero.map ZV.gq)≠[]:=by intro e;rw[e]at b;have:=f.Ct;simp at b;omega
 have O:m*1<=m*f.n:=jw m f.Ct
 have D:(inf.bytes:Int)*(m:Int)<=281474976710656:=by
  rw[U];have:(l.bytes:Int)*(m:Int)=((m*l.bytes:I):Int):=by rw[fR];simp
  rw[this];omega
 have r:=run_make (P:=P) W b9 E inf z G K A k k m m S S D S
 refine⟨(bh m<|l.zero.map ZV.gq).flatten,m,W,?_,J,J,J,?_,ax,?_⟩
 .rw[execOp,dZ];have v:madeCells z.cells (m*inf.size)=((bh m<|l.zero.map ZV.gq).flatten).toArray:=by rw[R,qx,h,<-b,<-P3 _ m q];rfl
  simp only[aV]at r;rw[v]at r;simp only[M,dY,r,eP,fo];rfl
 .rw[ahW,b]
 .intro j L;simp only[fo]at L;have:=Xg (l.zero.map ZV.gq) m j L;rw[b]at this;rw[this,List.getElem_replicate];exact yx f _ _<|hz g
end
section
variable{P:cT}{tt:TT}{n:I}{Q:ix}{st:St}
def xi(b:I)(d:ET)(xs:V d.den):C->C
 | .X a=>if a=b then .S d xs else .X a
 | .Y a m i off=>if a=b then .any else .Y a m i off
 |c=>c
def xj(b:I)(a:ET)(xs:V a.den):V C->V C
 |[]=>[]
 |c::r=>xi b a xs c::xj b a xs r
def Gd(c:I)(a:ET)(xs:V a.den):V (Bool×V C)->V (Bool×V C)
 |[]=>[]
 | (b,cs)::r=>(b,xj c a xs cs)::Gd c a xs r
def Ge(d:I)(b:ET)(xs:V b.den):AV->AV
 | .c x=> .c<|xi d b xs x
 | .a cs=> .a<|xj d b xs cs
 | .t f=> .t<|Gd d b xs f
def vO(b:I)(a:ET)(xs:V a.den):V (I×AV)->V (I×AV)
 |[]=>[]
 | (c,v)::r=>(c,Ge b a xs v)::vO b a xs r
def Gf(c:I)(a:ET)(xs:V a.den):aH->aH
 | .box E d cs=> .box E d<|xj c a xs cs
 |b=>b
def mQ(a:I)(c:ET)(xs:V c.den):V (I×aH)->V (I×aH)
 |[]=>[]
 | (d,b)::r=>if d=a then mQ a c xs r else(d,Gf a c xs b)::mQ a c xs r
def Xk(b:I)(a:ET)(xs:V a.den)(c:I):∀l,w c (vO b a xs l)=(w c l).map (Ge b a xs)
 |[]=>rfl
 | (k,v)::r=>by
  simp only[vO,w];split
  .rfl
  .exact Xk b a xs c r
def P6(d:I)(a:ET)(xs:V a.den)(b:I):∀l,w b (mQ d a xs l)=if b=d then none else(w b l).map (Gf d a xs)
 |[]=>by simp[mQ,w]
 | (k,v)::r=>by
  simp only[mQ,w];split
  .rename_i c;subst c;rw[P6 k a xs b r];split
   .rfl
   .rename_i f;rw[M (λc=>f c.symm)]
  .rename_i c;simp only[w];split
   .rename_i g;subst g;rw[M c];rfl
   .exact P6 d a xs b r
def Xl id d xs c:∀b∈(xi id d xs c).ar,b∈c.ar:=by
 intro b a;cases c with
 |X k=>simp only[xi]at a;split at a;simp[C.ar]at a;exact a
 |Y k m i off=>simp only[xi]at a;split at a;simp[C.ar]at a;exact a
 |_=>exact a
def Ko(g:I)(b:ET)(xs:V b.den):∀(d:V C),∀a∈cy (xj g b xs d),a∈cy d
 |[],a,f=>f
 |c::d,a,f=>by simp only[xj,cy,b8]at f⊢;exact f.imp (Xl g b xs c a)<|Ko g b xs d a
def Xm(i:I)(d:ET)(xs:V d.den):∀(f:V (Bool×V C)),∀a∈fN (Gd i d xs f),a∈fN f
 |[],a,g=>g
 | (b,c)::f,a,g=>by simp only[Gd,fN,b8]at g⊢;exact g.imp (Ko i d xs c a)<|Xm i d xs f a
def ahZ id b xs v:∀d∈(Ge id b xs v).ar,d∈v.ar:=by
 cases v with
 |c x=>exact Xl id b xs x
 |a cs=>exact Ko id b xs cs
 |t f=>exact Xm id b xs f
section
variable{id:I}{T:ET}{xs:V T.den}{known:I->Prop}{g g':Gh}
def P7(a:iT known g g')(d:m' (dk g'.H T) T.n g'.H xs (g.γ id)):∀{c:C}{v:bH},(∀f∈c.ar,known f)->dn g c v->dn g' (xi id T xs c) v:=by
 intro c v b h;cases c with
 |X k=>
  simp only[xi]
  split
  .rename_i e;subst e;simp only[dn]at h;subst h;exact d
  .exact dn.mono a b h
 |Y k m i off=>
  simp only[xi]
  split
  .trivial
  .exact dn.mono a b h
 |_=>exact dn.mono a b h
def Kq(f:iT known g g')(i:m' (dk g'.H T) T.n g'.H xs (g.γ id)):∀{b:V C}{vs:V bH},(∀a∈cy b,known a)->bL g b vs->bL g' (xj id T xs b) vs
 |[],_,_,c=>c
 |_::_,_,k,c=>by let ⟨v,r,l,m,h2⟩:=c;exact⟨v,r,l,P7 f i (λa d=>k a<|by simp[cy,d]) m,Kq f i (λa d=>k a<|by simp[cy,d]) h2⟩
def Xn(l:iT known g g')(m:m' (dk g'.H T) T.n g'.H xs (g.γ id)):∀{p:V (Bool×V C)}{vs:V bH},(∀a∈fN p,known a)->dt g p vs->dt g' (Gd id T xs p) vs
 |[],_,_,d=>d
 | (b,c)::_,_,B,d=>by
  let ⟨v,r,x,f,h2⟩:=d;refine⟨v,r,x,?_,Xn l m (λa i=>B a<|by simp[fN,i]) h2⟩;have k:∀a∈cy c,known a:=λa i=>B a (by simp[fN,i])
  match b,c,f with
  |true,c,f=>let ⟨vs,x,d⟩:=f;exact⟨vs,x,Kq l m k d⟩
  |false,[c],f=>exact P7 l m (λa i=>k a<|by simp[cy,i]) f
def ah0(d:iT known g g')(f:m' (dk g'.H T) T.n g'.H xs (g.γ id)){x}{v}(i:∀k∈x.ar,known k)(b:bI g x v):bI g' (Ge id T xs x) v:=by
 cases x with
 |c y=>exact P7 d f i b
 |a cs=>let ⟨vs,e,b⟩:=b;exact⟨vs,e,Kq d f i b⟩
 |t l=>let ⟨vs,e,b⟩:=b;exact⟨vs,e,Xn d f i b⟩
end
def oN l{E}{d}{xs}{U}{mem}{nx}{gd}(hl:w l mem=some (.vec E d xs)):Wk ⟨U,mem,nx,gd⟩ ⟨vO l d xs U,mQ l d xs mem,nx,gd⟩:=by
 intro F s5 g W a h;have R:St.kn ⟨U,mem,nx,gd⟩ (.m l)=some (.b<|.vec E d xs):=by simp[St.kn,hl]
 have V:=h.db l _ R;have main:∀r:Gh,iT (kb ⟨U,mem,nx,gd⟩) g r->m' (dk r.H d) d.n r.H xs (g.γ l)->Sub r.H W->(∀b o,b<F.w0.heap.size->¬F.own b->r.H b o=F.H0 b o)->(∀b o,cP (g.γ l)≠some b->r.H b o=g.H b o)->r.γ=g.γ->
   bu F (kb ⟨vO l d xs U,mQ l d xs mem,nx,gd⟩) (St.kn ⟨vO l d xs U,mQ l d xs mem,nx,gd⟩) r W a:=by
  intro r B hX Y rH hH hγ
  have hS:∀t X,St.kn ⟨vO l d xs U,mQ l d xs mem,nx,gd⟩ (.s t)=some (.v X)->∃v,St.kn ⟨U,mem,nx,gd⟩ (.s t)=some (.v v)/\X=Ge l d xs v:=by intro t X e;simp only[St.kn,Xk,Option.map_map,cd]at e;let ⟨v,hv,he⟩:=e;cases he;exact⟨v,mq,J⟩
  have Z:∀j p,St.kn ⟨vO l d xs U,mQ l d xs mem,nx,gd⟩ (.m j)=some (.b p)->∃b,St.kn ⟨U,mem,nx,gd⟩ (.m j)=some (.b b)/\p=Gf l d xs b/\j≠l:=by
   intro j p e;simp only[St.kn,P6]at e;split at e
   .simp at e
   .rename_i I;simp only[Option.map_map,cd]at e;let ⟨b,K,he⟩:=e;cases he;exact⟨b,by simp[St.kn,K],J,I⟩
  refine⟨h.size,h.defers,?_,?_,?_,?_,?_,Y,h.below,h.le.trans B.H,rH,λl R=>⟨(h.iJ l R).1,by rw[hγ];exact(h.iJ l R).2⟩⟩
  .intro t X e;obtain⟨v,hv,rfl⟩:=hS t X e;exact ah0 B hX (λj q=>h.ar _ _ hv j q)<|h.gM t v hv
  .intro j p e;obtain⟨b,K,rfl,I⟩:=Z j p e;have L:=h.db j b K;have C:∀k,cP (g.γ j)=some k->cP (g.γ l)≠some k:=λk M u=>I (h.inj j l b _ k K R M u)
   cases b with
   |box E' bz cs=>
    let ⟨k,vs,rest,e1,y,N,e4,e5,e6⟩:=L
    exact⟨k,vs,rest,vP,y,Kq B hX (λi z=>h.ar _ _ K i z) N,e4,λo=>by rw[hH k o (C k e1)];exact e5 o,by rw[hγ];exact e6⟩
   |vec E' T' ys=>
    rcases L with⟨e1,y⟩|⟨k,A,vs,e1,y,N,e4,Kt,e5,e6,e7⟩
    .exact .inl ⟨vP,y⟩
    .exact .inr ⟨k,A,vs,vP,y,N,e4,Kt,λi z=>dk.mono B.H _ _ _<|e5 i z,e6,λo=>by rw[hH k o (C k<|by rw[e1];rfl)];exact e7 o⟩
   |fX f first caps=>
    let ⟨us,ws,e1,y,N⟩:=L
    exact⟨us,ws,vP,dt.mono B (λi z=>h.ar _ _ K i<|fC _ z) y,dt.mono B (λi z=>h.ar _ _ K i<|jo _ z) N⟩
   |fz E' cs=>
    let ⟨k,vs,rest,e1,y,N,e4,e5⟩:=L
    exact⟨k,vs,rest,vP,y,bL.mono B (λi z=>h.ar _ _ K i z) N,e4,λo=>by rw[hH k o (C k e1)];exact e5 o⟩
  .intro i j b p k e e' M u;let ⟨c,hc,_⟩:=Z i b e;let ⟨c',P8,_⟩:=Z j p e';rw[hγ]at M u;exact h.inj i j c c' k hc P8 M u
  .intro k x e j q;cases k with
   |s t=>
    cases x with
    |v X=>obtain⟨v,hv,rfl⟩:=hS t X e;exact h.ar _ _ hv j<|ahZ l d xs v j q
    |b p=>simp only[St.kn,cd]at e;let ⟨_,_,he⟩:=e;cases he
   |m i=>
    cases x with
    |v X=>simp only[St.kn,cd]at e;let ⟨_,_,he⟩:=e;cases he
    |b p=>
     obtain⟨b,K,rfl,_⟩:=Z i p e
     refine h.ar _ _ K j ?_
     cases b with
     |box E' bz cs=>exact Ko l d xs cs j q
     |vec E' T' ys=>exact q
     |fX f first caps=>exact q
     |fz E' cs=>exact q
  .intro i x e;cases x with
   |v X=>simp only[St.kn,cd]at e;let ⟨_,_,he⟩:=e;cases he
   |b p=>let ⟨b,K,_⟩:=Z i p e;exact h.fD _ _ K
 rcases V with⟨hγ,hx⟩|⟨b,A,vs,hγ,hh,xh,B,hlen,L,hN,hz⟩
 .refine⟨g,main g ⟨cz.refl _,λ_ _=>rfl⟩ ?_ h.sub h.fresh (λ_ _ _=>rfl) J⟩;subst hx;exact⟨none,0,hγ,ax,ax,.inl J⟩
 .let r:Gh:=⟨λp o=>if p=b then(if o<G xs*d.n then vs[o]? else none)else g.H p o,g.γ⟩;have D:cz g.H r.H:=by
   intro p o v hv;by_cases e:p=b
   .subst e;rw[hz]at hv;cases hv
   .simp[r,e,hv]
  refine⟨r,main r ⟨D,λ_ _=>rfl⟩ ?_ ?_ ?_ ?_ J⟩
  .refine⟨some ⟨b,0,none⟩,A,hγ,B,hlen,?_⟩;by_cases hx:xs=[]
   .exact .inl hx
   .refine .inr ⟨b,0,J,λk M=>⟨(aE (k*d.n) vs).take d.n,dk.length d _ _<|L k M,dk.mono D d _ _<|L k M,λj q=>?_⟩⟩;have oe:(k+1)*d.n<=A*d.n:=eB _ S;have Ku:(k+1)*d.n<=G xs*d.n:=eB _ S;rw[g7,iL]at oe Ku;simp only[il,yX]at q;have iD:k*d.n+j<G xs*d.n:=S;simp only[r,cA,dU,sT,uw,iD];exact bD S
  .intro p o v hv;by_cases e:p=b
   .subst e;simp only[r,cA]at hv;split at hv
    .simp[World.cell?,hh,hv]
    .cases hv
   .simp only[r,e,cC]at hv;exact h.sub p o v hv
  .intro p o O Dd;have:p≠b:=by
    intro e;subst e;rcases hN with h1|h1
    .omega
    .exact Dd h1
   simp only[r,this,cC];exact h.fresh p o O Dd
  .intro p o O;have:p≠b:=λe=>O (by rw[hγ,e];rfl)
   simp[r,this]
def cD id{E}{d}{xs}{c}{f}{mem}{g}{i}(k:w id mem=some (.vec E d xs)){b}{a}(l:vO id d xs f=b)(m:mQ id d xs mem=a)
  (p:TR P n c ⟨b,a,g,i⟩ Q):TR P n c ⟨f,mem,g,i⟩ Q:=by
 subst l m
 exact dc (oN id k) p
def yY d{b}{xs}{c}{f}{mem}{i}{k}(m:w d f=some (.c<|.S b xs))(p:G xs*b.n<=140737488355328->TR P n c ⟨f,mem,i,k⟩ Q):TR P n c ⟨f,mem,i,k⟩ Q:=by intro F r g W a l;have v:dn g (.S b xs) (a.tmps.getD d undef):=l.gM d (.c<|.S b xs) (by simp[St.kn,m]);let ⟨_,_,_,_,h2,_⟩:=v;exact p h2 F r g W a l
def ah1{f}{a}{l i}{d b9}{x}{ty}{pos}{r}{os}{B}{mem}{F}{H}{ks}{Q:St->Prop}(R:cN P tt=ae)
 b (m:I) {k}{v}(hx:St.ev ⟨B,mem,F,H⟩ x=some (.c<|.I k v)) (hv:v=(m:Int)) {E}{ti p}(U:w b9 tt=some ti) (hk:ti.kind= .sl E) (W:w E tt=some p) (qx:p.size=b.n)
  (hz:∀g:Gh,bL g (av b b.cJ) (p.zero.map ZV.gq)) (hb:m*p.bytes<=281474976710656) (oM:m*b.n<=140737488355328)
  (bW:RG P n f a l (i+1) os ⟨(d,.c<|.X<|1000000*l+1000*i)::B,(1000000*l+1000*i,.vec E b<|bh m b.cJ)::mem,F,H⟩ (ff a ks (cH [x,x],[.s d,.m<|1000000*l+1000*i])) Q) (dC:f' d n=ae:=by rfl):
  RG P n f a l i (⟨some d,.makeSlice b9 x x,ty,pos,r,none⟩::os) ⟨B,mem,F,H⟩ ks Q:=by
 subst hv
 exact k7 (λC=>ahY R C J J (cY dC) J hx U hk W b qx hz hb oM _)<|jH bW
def AI{l}{a}{H i}{R}{x g}{ty}{pos}{p}{U}{b}{mem}{d}{f}{W}{Q:St->Prop}(r:cN P tt=ae)
 {id m k}{E}{T}{xs}{vy}(hx:St.ev ⟨b,mem,d,f⟩ x=some (.c<|.Y id m k 0)) (hl:w id mem=some (.vec E T xs)) (hy:St.ev ⟨b,mem,d,f⟩ g=some vy) (hm:T.n=m) {ag}(v:px tt R=some (m,ag)) (bZ:T.den) (B:js vy=some (av T bZ)) (hk:k<G xs)
  (h:RG P n l a H (i+1) U ⟨b,(id,.vec E T<|xs.set k bZ)::mem,d,f⟩ (ff a W (cH [x,g]++fv [id],[.m id])) Q):
  RG P n l a H i (⟨none,.store R x g,ty,pos,p,none⟩::U) ⟨b,mem,d,f⟩ W Q:=by
 refine k7 (λK=>⟨_,_,W4 r K J J J hx hy hl hm v B hk _,?_,J9 ⟨b,mem,d,f⟩ id _,?_,λk hk=>jG⟩)<|jH h
 .intro C F;rcases b8.1 F with h|h
  .rcases b8.1 h with h|h
   .exact gw _ x C h
   .exact gw _ g C h
  .exact qA _ [id] C h
 .intro k hk;simp only[gn,fe,b8]at hk;rcases hk with(h|h)|h
  .exact fC _<|fZ ⟨b,mem,d,f⟩ [x,g] k wY
  .exact fC _<|fZ ⟨b,mem,d,f⟩ [x,g] k wZ
  .exact jo _<|py ⟨b,mem,d,f⟩ [id] k h
end
section
variable{P:cT}{tt:TT}{n:I}
def Kv:∀(a:ET)(x:a.den),G (av a x)=a.n
 | .int _,_=>rfl
 | .bool,_=>rfl
 | .z,_=>rfl
 | .q,_=>rfl
 | .sl _,_=>rfl
 | .pr b B,x=>by simp[av,Kv b,Kv B]
def Xo{g:Gh}(c:ET):∀(xs:V c.den)(vs:V bH),bL g (xs.flatMap<|av c) vs->∀i(h:i<G xs),dk g.H c xs[i] ((aE (i*c.n) vs).take c.n)
 |[],_,_,i,h=>by simp at h
 |x::xs,vs,d,i,h=>by
  rw[mm]at d;obtain⟨a,b,rfl,f,k⟩:=Ft d;have l:G a=c.n:=by rw[f.length,Kv]
  cases i with
  |zero=>
   simp only[vQ,rI,vE]
   rw[yM S,iI S]
   exact yx c x a f
  |succ i=>
   simp only[CR]
   rw[show(i+1)*c.n=G a+i*c.n by rw[g7,iL];omega,<-vK,List.drop_left]
   exact Xo c xs b k i du
def xk(sz:I):I->I->V (I×I)
 |_,0=>[]
 |k,m+1=>(k*sz,sz)::xk sz (k+1) m
def P9(sz:I):∀(m k i:I)(x:I×I),(xk sz k m)[i]? =some x->x=((k+i)*sz,sz)
 |0,_,_,_,a=>by simp[xk]at a
 |m+1,k,0,x,a=>by simp[xk]at a;simp[<-a]
 |m+1,k,i+1,x,a=>by simp only[xk,At]at a;have:=P9 sz m (k+1) i x a;rw[this,(S:k+1+i=k+(i+1))]
def xl(l:V C):I->V C
 |0=>[]
 |m+1=>l++xl l m
def P'{g:Gh}{l:V C}{vs:V bH}(a:bL g l vs):∀m,bL g (xl l m) ((bh m vs).flatten)
 |0=>rfl
 |m+1=>by rw[uc,ahV];exact bL.append a<|P' a m
def Qa{l:V C}(c:cy l=[]):∀m,cy (xl l m)=[]
 |0=>rfl
 |m+1=>by
  have:=Qa c m;apply List.eq_nil_iff_forall_not_mem.2;intro d b;rcases J1 _ _ d b with a|a
  .rw[c]at a;cases a
  .rw[this]at a;cases a
def AJ(tt:TT)(d:St)(f b:I)(a:V (I×rB)):bF (I×TI×V C):=match w f tt with
 |some g=>(match g.kind with
  | .sl E=>(match w E tt with
   |some c=>(match Ay (xk c.size 0 b) d (xl (c.zero.map ZV.ru) b) a with
    |some cs=>some (E,c,cs)
    |none=>none)
   |none=>none)
  |_=>none)
 |none=>none
def Qb(B:cN P tt=ae){F}{Q:I->Prop}{σ}{g}{W}{a}(bC:bu F Q σ g W a){st}{br}{b9 b}{c}(dZ:br.op= .buildSlice b9 b c){E}{ei}{k}{xs}(hT:ei.size=k.n)(xm:G xs=b)(AK:b*k.n<=16777216)
  (l:AJ tt st b9 b c.toList=some (E,ei,xs.flatMap<|av k)) (kX:∀kx∈qu st br.op,σ kx.1=some kx.2):
  ∃(vs:V bH)(R:I)(W1:da),(execOp a.eval br).run P W= .ok (.value<|.slice (some ⟨W.heap.size,0,none⟩) (G xs) R) {W1 with heap:=W.heap.push<|.cells vs.toArray E (0,0)}/\W1.os=W.os/\W1.tape=W.tape/\W1.output=W.output/\G vs=R*k.n/\G xs<=R/\
    ∀i(bW:i<G xs),dk g.H k xs[i] ((aE (i*k.n) vs).take k.n):=by
 unfold AJ at l
 split at l
 .rename_i ti L;split at l
  .rename_i E' hk;split at l
   .rename_i d j;split at l
    .rename_i cs N;simp only[aR,cG]at l;obtain⟨rfl,rfl,rfl⟩:=l;have hu:=(g5 B L).kind;rw[hk]at hu;let ⟨inf,r,q,_,z,hz,Az⟩:=(g5 B j).info;have s:z.cells=(d.zero.map ZV.gq).toArray:=F6;let ⟨us,u,po,hu3,hu4⟩:=J6 bC st (xk d.size 0 b) (λi=>some (i*d.size,d.size)) (λi x bW=>by rw[P9 _ _ _ _ _ bW];simp) c.toList _ _ _ N (P' (CZ g d.zero) b) (λp hp kx O=>kX kx<|by rw[dZ];refine jF.2 ⟨p.2,?_,O⟩;simp only[Op.operands,kY];exact⟨p,hp,J⟩) (by rw[Qa (J8 _)];simp);have C:=po.length;have S:∀w:V k.den,G (w.flatMap<|av k)=G w*k.n:=by
      intro w;induction w with
      |nil=>simp
      |cons y w ih=>simp[Kv,ih,g7,AL]
     rw[S]at C;refine⟨us,G xs,W,?_,J,J,J,C,a8 _,Xo k xs us po⟩;have K:execOp a.eval br=(do pure (.value<|<-Xp b9 b (c.map λ(i,x)=>(i,a.eval x)))):=wV;have A:(c.map λ(i,x)=>(i,a.eval x)).toList=c.toList.map λp=>(p.1,a.eval p.2):=ax
     have U:(d.zero.map ZV.gq).length=d.size:=by simpa using(g5 B j).Py
     have ah2:0<d.size:=by rw[hT];exact k.Ct
     have Y:(zeroValue E').run P W= .ok z W:=by simp[zeroValue,typeInfo,r,hz]
     have m:((Xh<|b*d.size).map<|λi=>(d.zero.map ZV.gq).toArray[i%(d.zero.map ZV.gq).toArray.size]!)=((bh b<|d.zero.map ZV.gq).flatten).toArray:=by have:=P3 (d.zero.map ZV.gq) b (by intro e;rw[e]at U;simp at U;omega);rw[U]at this;exact this
     have hb:(Xp b9 b<|c.map λ(i,x)=>(i,a.eval x)).run P W= .ok (.slice (some ⟨W.heap.size,0,none⟩) b b) {W with heap:=W.heap.push<|.cells us.toArray E' (0,0)}:=by
      unfold Xp;rw[dY,run_underlying hu];simp only[eP];rw[dY,run_sizeOf r];simp only[eP,q];rw[M (by rw[hT];omega)];by_cases D:b*d.size=0
      .have X:b=0:=by
        rcases Nat.mul_eq_zero.1 D with bW|bW
        .exact bW
        .omega
       subst X;have Z:us=[]:=et (by rw[C,xm];simp);subst Z;have v:=u;simp only[uz,List.flatten_nil]at v;have De:∀f:I->bH,(Xh 0).map f= #[]:=λf=>by simp
       simp only[vQ,cA,pure_bind,De,A,v];rfl
      .rw[M D];simp only[pure_bind,dY,Y,eP,s,m,A,u];rfl
     rw[K,dY,hb,xm];rfl
    .simp at l
   .simp at l
  .simp at l
 .simp at l
def ah3{g}{b}{H i}{d m f}{a}{ty}{pos}{p}{R}{r}{mem}{v}{x}{U}{Q:St->Prop}(B:cN P tt=ae)
 l xs {E}{W}(hv:AJ tt ⟨r,mem,v,x⟩ m f a.toList=some (E,W,xs.flatMap<|av l)) (hT:W.size=l.n) (xm:G xs=f) (AK:iv (f*l.n) 16777216=ae)
  (bW:RG P n g b H (i+1) R ⟨(d,.c<|.S l xs)::r,mem,v,x⟩ (ff b U (cH (Op.buildSlice m f a).operands.toList,[.s d])) Q) (F:f' d n=ae:=by rfl):
  RG P n g b H i (⟨some d,.buildSlice m f a,ty,pos,p,none⟩::R) ⟨r,mem,v,x⟩ U Q:=
 k7 (λK=>Xj K J J (cY F) _ Qc<|λ_ _ _ _ _ _ k C=>Qb B k J hT xm (cY AK) hv C) (jH bW)
def ah4{g}{b}{k i}{d r f}{a}{ty}{pos}{v}{U}{x}{mem}{B}{F}{W}{Q:St->Prop}(H:cN P tt=ae)
 p xs {E}{ei}(hv:AJ tt ⟨x,mem,B,F⟩ r f a.toList=some (E,ei,xs.flatMap<|av p)) (hT:ei.size=p.n) (xm:G xs=f) (AK:iv (f*p.n) 16777216=ae)
  (bW:RG P n g b k (i+1) U ⟨(d,.c<|.X<|1000000*k+1000*i)::x,(1000000*k+1000*i,.vec E p xs)::mem,B,F⟩ (ff b W (cH (Op.buildSlice r f a).operands.toList,[.s d,.m<|1000000*k+1000*i])) Q) (R:f' d n=ae:=by rfl):
  RG P n g b k i (⟨some d,.buildSlice r f a,ty,pos,v,none⟩::U) ⟨x,mem,B,F⟩ W Q:=
 k7 (λK=>Xi K J J (cY R) _ Qc<|λ_ _ _ _ _ _ l C=>Qb H l J hT xm (cY AK) hv C) (jH bW)
end
end Go.El
