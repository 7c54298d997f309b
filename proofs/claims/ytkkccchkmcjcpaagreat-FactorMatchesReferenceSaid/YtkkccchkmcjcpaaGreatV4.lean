/- The engine, part 42: functions that write into a slice of the caller; windows on vectors; copy into vectors. Own work; no condition. -/
import Derived.Test.YtkkccchkmcjcpaaGreatV3
import Derived.Test.YtkkccchkmcjcpaaGreatV1
set_option linter.all false
set_option maxHeartbeats 16000000
set_option maxRecDepth 100000
open Bool renaming true->ae,false->ah
open Decidable renaming byContradiction->GN
open Go renaming TypeId->eL
open Go.El renaming rr->e,cS->N,vL->q,gy->L,cI->D,re->o,auI->z,rb->t,kZ->w
open Go.Instr renaming sliceBounds->wT
open Go.IntKind renaming wrap->ao,signed->AY
open Go.Proofs.Tryz renaming prog->j
open Int renaming toNat->ad,natAbs->aq,gcd->fh,ediv_ediv_of_nonneg->ajl,neg_ediv_of_dvd->ajr
open List renaming length->G,drop->aE,getD->Y,take->y,replicate->bh
open Rat renaming divInt->iE
open _root_ renaming List->V,Nat->I,Int->Z
namespace Go.El
open Go Go.Proofs Go.RowKit
def X0(g:Gh)(W:World)(E:eL)(f:ET)(r:AV)(c:V f.den)(i:Ending)(d:World):Prop:=
 ∃v a,i= .returned v/\bI ⟨a.H,jc⟩ r v/\jn (λ_=>True) a d 0 (.vec E f c)/\a.γ 0=g.γ 0/\cz g.H a.H/\(∀b o,b<W.heap.size->¬cP (g.γ 0)=some b->a.H b o=g.H b o)/\Sub a.H d/\CF (λb=>cP (g.γ 0)=some b) W d
structure mR(P:Program)(f:FuncId)(args:V AV)(E:eL)(a:ET)(xs:V a.den)(r:AV)(b:V a.den):Prop where
 call:oJ P f=ae
 iw:r.ar=[]
 spec:∀g W vs,Sub g.H W->ju g args vs->jn (λ_=>True) g W 0 (.vec E a xs)->Calls P f vs.toArray W (X0 g W E a r b)
def Qy(P:Program)(i:Func)(E:eL)(g:ET)(r:AV)(d:V g.den):ix:=λF e a W=>F.k0=1->bodyPost P i (λe f=>∃v c,e= .returned v/\bI ⟨c.H,jc⟩ r v/\jn F.N c f 0 (.vec E g d)/\c.γ 0=F.γ0 0/\cz F.H0 c.H/\(∀b o,b<F.w0.heap.size->¬F.own b->c.H b o=F.H0 b o)/\Sub c.H f/\CF F.own F.w0 f) e a W
section
variable{P:Program}{tt:TT}{n:I}{st:St}
def s7(d:cN P tt=ae){l}{m}{p r}{E}{v}{b}(x:oK tt st m=some p)(f:a7 p r)(i:w 0 st.mem=some (.vec E v b))(k:l.results=m.toArray:=by rfl)(B:r.ar=[]:=by rfl):fw n .ret st (Qy P l E v r b):=by intro F C g W a h H;let ⟨u,hu,c⟩:=AG d h k x;exact⟨h.defers.trans C.ds,u,hu,u,g,J,(f.1 _ _ c).iw B (cz.refl _) jc,h.db 0 _ (by simp[St.kn,i]),(h.iJ 0 S).2,h.le,h.fresh,h.sub,h.below⟩
def y7(c:cN P tt=ae){k}{l}{m r}{E}{p}{b}(v:oK tt st l=some m)(d:a7 m r)(f:w 0 st.mem=some (.vec E p b))(i:k.results=l.toArray:=by rfl)(x:r.ar=[]:=by rfl):fw n .normal st (Qy P k E p r b):=
 λF B g W a h=>s7 c v d f i x F B g W a h
def KM:V I->Bool
 |[]=>ae
 |id::r=>Nat.beq id 0&&KM r
def X1:∀{l:V I},KM l=ae->∀b∈l,b=0
 |[],_,_,a=>by cases a
 |d::r,c,b,a=>by
  simp only[KM,eG]at c;rcases df.1 a with rfl|a
  .exact y8 c.1
  .exact X1 c.2 b a
def pB{f}{fn}{c}{args}{E}{R}{xs p}{r}(hf:P.funcs[f]? =some fn)(hb:fn.body=some c)(hN:fn.ntmps=n)(hle:Nat.ble args.length n=ae)(y':KM (fE args)=ae)(Qz:r.ar=[])(yU:(fn.name != "runtime.NumGoroutine")=ae)
  (bW:TR P n c ⟨k8 0 args,[(0,.vec E R xs)],1,[]⟩ (Qy P fn E R r p)):mR P f args E R xs r p:=by
 refine⟨C9,Qz,?_⟩
 intro g W vs z l D
 refine calls_of_wp hf hb ?_
 have M:=yS l
 have hle:=cY hle
 have d:∀i b,St.kn ⟨k8 0 args,[(0,.vec E R xs)],1,[]⟩ (.m i)=some (.b b)->i=0/\b= .vec E R xs:=by
  intro i b e;simp only[St.kn,w,cd]at e;let ⟨x,hx,he⟩:=e;cases he;split at hx
  .rename_i S;cases hx;exact⟨S.symm,J⟩
  .cases hx
 let F:eF:={w0:=W,H0:=g.H,n:=n,own:=λb=>cP (g.γ 0)=some b,k0:=1,γ0:=g.γ}
 refine wp_mono (bW F ⟨J,a8 _,J,J⟩ g W _ ⟨?_,J,?_,?_,?_,?_,?_,z,⟨J,J,J,a8 _,λ_ _ _=>rfl⟩,cz.refl _,λ_ _ _ _=>rfl,?_⟩) ?_
 .simp[hN,F];omega
 .intro t v O;simp only[St.kn,cd]at O;let ⟨x,hx,he⟩:=O;cases he;let ⟨_,u,hu,V,_⟩:=oL args vs 0 l t v hx;have I:vs[t]? =some u:=AH;have iD:t<G vs:=(uv.1 I).1;have:(vs.toArray++Array.replicate (fn.ntmps-vs.toArray.size) undef).getD t undef=u:=by rw[ux,yW C'];simp[I]
  rw[this];exact V
 .intro i b e;obtain⟨rfl,rfl⟩:=d i b e;exact D.Dj (λk Y=> .inr Y) J J ⟨cz.refl _,λ_ _=>rfl⟩
 .intro i L b Z k e e' _ _;rw[(d i b e).1,(d L Z e').1]
 .intro k x e i B;cases k with
  |m j=>
   cases x with
   |v y=>simp only[St.kn,cd]at e;let ⟨_,_,he⟩:=e;cases he
   |b b=>obtain⟨_,rfl⟩:=d j b e;simp[Info.ar,aH.ar]at B
  |s t=>
   simp only[St.kn,cd]at e
   let ⟨y,hy,he⟩:=e
   subst he
   let ⟨_,u,_,_,h6⟩:=oL args vs 0 l t y hy
   have:=X1 y' i<|h6 i B
   subst this
   show 0<1000000*1
   decide
 .intro i x e;cases x with
  |v y=>simp only[St.kn,cd]at e;let ⟨_,_,he⟩:=e;cases he
  |b b=>rw[(d i b e).1];show 0<1000000*1;decide
 .intro i B;have:i=0:=by have:i<1:=B;omega
  subst this;exact⟨(A:0<1000000*1),J⟩
 .intro e a q K;have K:=K J;have C:∀e q,(∃v Q,e=Ending.returned v/\bI ⟨Q.H,jc⟩ r v/\jn F.N Q q 0 (.vec E R p)/\Q.γ 0=F.γ0 0/\cz F.H0 Q.H/\(∀b o,b<F.w0.heap.size->¬F.own b->Q.H b o=F.H0 b o)/\Sub Q.H q/\CF F.own F.w0 q)->X0 g W E R r p e q:=by rintro e q ⟨v,Q,U,h2,X,h4⟩;exact⟨v,Q,U,h2,X.Dj (λ_ _=>trivial) J J ⟨cz.refl _,λ_ _=>rfl⟩,h4⟩
  cases e with
  |normal=>let ⟨U,v,h2,X⟩:=K;exact⟨U,v,h2,C _ _ X⟩
  |ret=>let ⟨U,v,h2,X⟩:=K;exact⟨U,v,h2,C _ _ X⟩
  |panic c=>let ⟨U,X⟩:=K;exact⟨U,C _ _ X⟩
  |outgrown=>exact C _ _ K
  |exit _=>exact K
  |goto _=>exact K
def Dv(b:I):C->C
 | .P _ a=> .P b a
 | .X _=> .X b
 | .Y _ n i a=> .Y b n i a
 | .L _ a l c=> .L b a l c
 | .W _ a l=> .W b a l
 |c=>c
def GC(b:I):AV->AV
 | .c x=> .c<|Dv b x
 | .a cs=> .a<|cs.map<|Dv b
 | .t f=> .t<|f.map λd=>(d.1,d.2.map<|Dv b)
def QA{g:Gh}{b:I}:∀{c:C}{v:Value},dn g (Dv b c) v->dn ⟨g.H,λ_=>g.γ b⟩ c v
 | .any,_,a=>a
 | .B _,_,a=>a
 | .I _ _,_,a=>a
 | .V _,_,a=>a
 | .S _ _,_,a=>a
 | .P _ _,_,a=>a
 | .X _,_,a=>a
 | .Y _ _ _ _,_,a=>a
 | .E _ _ _,_,a=>a
 | .M _,_,a=>a
 | .L _ _ _ (some _),_,a=>a
 | .L _ _ _ none,_,a=>a
 | .W _ _ _,_,a=>a
def QB{g:Gh}{b:I}:∀{c:V C}{vs:V Value},bL g (c.map<|Dv b) vs->bL ⟨g.H,λ_=>g.γ b⟩ c vs
 |[],_,a=>a
 |_::_,_,a=>by let ⟨v,r,d,f,h2⟩:=a;exact⟨v,r,d,QA f,QB h2⟩
def X2{g:Gh}{i:I}:∀{k:V (Bool×V C)}{vs:V Value},dt g (k.map λl=>(l.1,l.2.map<|Dv i)) vs->dt ⟨g.H,λ_=>g.γ i⟩ k vs
 |[],_,d=>d
 | (b,c)::_,_,d=>by
  let ⟨v,r,f,a,h2⟩:=d;refine⟨v,r,f,?_,X2 h2⟩;match b,c,a with
  |true,c,a=>let ⟨vs,f,d⟩:=a;exact⟨vs,f,QB d⟩
  |false,[c],a=>exact QA a
  |false,[],a=>exact a.elim
  |false,_::_::_,a=>exact a.elim
def aiW{g}{d}{x}{v}(b:bI g (GC d x) v):bI ⟨g.H,λ_=>g.γ d⟩ x v:=by
 cases x with
 |c y=>exact QA b
 |a cs=>let ⟨vs,e,b⟩:=b;exact⟨vs,e,QB b⟩
 |t f=>let ⟨vs,e,b⟩:=b;exact⟨vs,e,X2 b⟩
def X3{g:Gh}{b:I}:∀{xs:V AV}{vs:V Value},ju g (xs.map<|GC b) vs->ju ⟨g.H,λ_=>g.γ b⟩ xs vs
 |[],_,a=>a
 |_::_,_,a=>by let ⟨v,r,c,d,h2⟩:=a;exact⟨v,r,c,aiW d,X3 h2⟩
def aiX{n new}{ops}{i}{U:Oper}(ho:ops[i]? =some U)(hg:U.guard=none){d:I}(hd:U.dst=some d)(dC:d<n){f}{args}{lV}(dZ:U.op= .call ⟨.value<|.func f,args,lV⟩)
 {st}{vs}{c:I} {E:eL} {dR:ET} {xs QC:V dR.den} {r:AV} (hv:km st args.toList=some (vs.map<|GC c)) (hl:w c st.mem=some (.vec E dR xs)) (hf:mR P f vs E dR xs r QC):lI P n ops i st ((st.pm c<|.vec E dR QC).put d r) new (cH args.toList++fv [c],[.s d,.m c]):=by
 refine⟨args.toList.flatMap (dO st)++k5 st [c],[(.s d,some<|.v r),(.m c,some<|.b<|.vec E dR QC)],?_,?_,AA st d c _ _,?_,λk hk=>jG⟩
 .intro F nF Q N σ g W a K FD bC kX hK;have O:=yQ bC st _ _ hv<|λkx C=>kX kx<|fC _ C;have X:σ (.m c)=some (.b<|.vec E dR xs):=kX (.m c,.b<|.vec E dR xs) sW;have q:=bC.db c _ X;have S:jn (λ_=>True) ⟨g.H,λ_=>g.γ c⟩ W 0 (.vec E dR xs):=by
   rcases q with⟨L,e2⟩|⟨b,cap,ws,L,e2,e3,e4,e5,e6,e7,e8⟩
   .exact .inl ⟨L,e2⟩
   .exact .inr ⟨b,cap,ws,L,e2,e3,e4,e5,e6,T,e8⟩
  have hc:=hf.spec ⟨g.H,λ_=>g.γ c⟩ W _ bC.sub (X3 O) S;unfold wpOp;simp only[ho,Region.wanted,hg,cA];refine .inl ?_;unfold Oper.wp;have hex:(execOp a.eval U).run P W= .ok (.enter f<|args.map a.eval) W:=by
   have B:=hf.call;unfold oJ at B;rw[execOp,dZ];cases Y:P.funcs[f]? with
   |none=>rw[Y]at B;simp at B
   |some fn=>
    rw[Y]at B
    simp only[eG,bne_iff_ne,ne_eq]at B
    have h2:fn.body≠none:=by intro hb;rw[hb]at B;simp at B
    simp[resolve,Act.eval,Deferred.ofValue,invoke,callFunc,Y,B.1,h2]
  rw[hex];simp only[Oper.upon];have aiY:(args.map a.eval)=(args.toList.map a.eval).toArray:=uy;rw[aiY];refine hc.mono ?_;rintro e W' ⟨v,g',rfl,hrv,z,l,hle,rH,AR,A⟩;simp only[hd];have ki:d<a.tmps.size:=pq;let g2:Gh:=⟨g'.H,g.γ⟩;have Qh:iT N g g2:=⟨hle,λ_ _=>rfl⟩;have l:g'.γ 0=g.γ c:=l;have ai0:∀b U,b<W.heap.size->g2.H b U=g.H b U:=by
   intro b U hb;by_cases R:cP (g.γ c)=some b
   .rcases q with⟨L,_⟩|⟨b1,cap,ws,L,e2,e3,e4,e5,e6,e7,e8⟩
    .rw[L]at R;simp[cP]at R
    .rcases z with⟨p,_⟩|⟨b2,M,X4,p,G,X5,Kt,X6,X7,e7',Z⟩
     .rw[l,L]at p;simp at p
     .have h1:b1=b:=by rw[L]at R;simpa[cP]using R
      have h2:b2=b:=by rw[<-l,p]at R;simpa[cP]using R
      subst h1;rw[e8 U];subst h2;exact Z U
   .exact rH b U hb R
  refine hK g2 W' _<|bC.step (chg:=λj=>j=c) (g':=g2) ⟨Qh,ai0,AR,A.size,?_,A.os,A.tape,A.output⟩ _ new FD qt bC.defers ?_ ?_ ?_ ?_ ?_ ?_
  .intro k hk kj;exact A.block k hk<|kj c J
  .intro t ht;have kj:d≠t:=rz;simp[Act.put,nf kj]
  .intro j hj;subst hj;exact⟨by simp[bf],_,X⟩
  .intro t u ht;simp only[bf]at ht;split at ht
   .rename_i e;simp only[Key.s.injEq]at e;simp only[aR,Info.v.injEq]at ht;subst e;subst ht;have:=hrv.iw hf.iw (cz.refl _) g.γ;simpa[Act.put,ki,g2]using this
   .split at ht
    .simp at ht
    .simp at ht
  .intro j b ht;simp only[bf,reduceCtorEq,cC]at ht;split at ht
   .rename_i e;simp only[Key.m.injEq]at e;simp only[aR,Info.b.injEq]at ht;subst e;subst ht;refine⟨?_,.inl ⟨bC.fD _ _ X,_,X⟩⟩;rcases z with⟨p,G⟩|⟨b2,M,X4,p,G,X5,Kt,X6,X7,e7',Z⟩
    .exact .inl ⟨by show g.γ c=_;rw[<-l,p],G⟩
    .refine .inr ⟨b2,M,X4,by show g.γ c=_;rw[<-l,p],G,X5,Kt,X6,X7,?_,Z⟩;exact(q.block (k:=b2)<|by rw[<-l,p];rfl).1
   .simp at ht
  .intro k y ht;simp only[bf]at ht;split at ht
   .simp only[aR]at ht;subst ht;intro c D;simp only[Info.ar]at D;rw[hf.iw]at D;cases D
   .split at ht
    .simp only[aR]at ht;subst ht;intro c D;simp[Info.ar,aH.ar]at D
    .simp at ht
  .intro j y ht;simp only[bf,reduceCtorEq,cC]at ht;split at ht
   .rename_i e;simp only[Key.m.injEq]at e;exact .inl<|e▸bC.fD _ _ X
   .simp at ht
 .intro kx C;rcases b8.1 C with C|C
  .let ⟨x,_,h⟩:=jF.1 C;exact gw st x kx h
  .exact qA st [c] kx C
 .intro k hk;simp only[gn,fe,b8]at hk;rcases hk with h|h
  .exact fC _<|fZ st _ k h
  .exact jo _<|py st [c] k h
def ai2{n}{b}{a}{H i}{d f:I}{args}{k}{W}{pos}{l}{R}{p}{mem}{v}{x}{U}{Q:St->Prop}{vs}{c}{E}{B}{xs g}{r}
  (hv:km ⟨p,mem,v,x⟩ args.toList=some (vs.map<|GC c)) (hl:w c mem=some (.vec E B xs)) (hf:mR P f vs E B xs r g) (bW:RG P n b a H (i+1) R ⟨(d,r)::p,(c,.vec E B g)::mem,v,x⟩ (ff a U (cH args.toList++fv [c],[.s d,.m c])) Q) (F:Nat.blt d n=ae:=by rfl):
  RG P n b a H i (⟨some d,.call ⟨.value<|.func f,args,k⟩,W,pos,l,none⟩::R) ⟨p,mem,v,x⟩ U Q:=
 k7 (λC=>aiX C J J (cY F) J hv hl hf) (jH bW)
def ai3(fc:cN P tt=ae){n new}{ops}{i}{br:Oper}(ho:ops[i]? =some br)(hg:br.guard=none){d:I}(hd:br.dst=some d)(dC:d<n){b9}{x H Q}(dZ:br.op= .slice b9 x (some H) (some Q) none)
 {st}{r}{E}{dR:ET} {xs:V dR.den} {k1 k2:IntKind} {a b:Z} (hx:st.ev x=some (.c<|.X r)) (hl:w r st.mem=some (.vec E dR xs)) (hlo:st.ev H=some (.c<|.I k1 a)) (hhi:st.ev Q=some (.c<|.I k2 b)) (hT:dR.n=1) (uF:vC tt b9 1=ae)
  {l v:I} (ea:a=(l:Z)) (eb:b=(v:Z)) (KN:l<v) (hv:v<=G xs):lI P n ops i st (st.put d<|.c<|.W r l<|v-l) new (cH [x,H,Q]++fv [r],[.s d]):=by
 refine⟨(dO st x++(dO st H++dO st Q))++k5 st [r],[(.s d,some<|.v<|.c<|.W r l<|v-l)],?_,?_,nH st d _,?_,λk hk=>jG⟩
 .refine uu ho hg hd dC _ _ new ?_;intro F y σ g W R f K;have z:R.eval x=g.γ r:=gO f st x _ hx<|λB dL=>K B jt;have A:R.eval H= .int k1 a:=gO f st H _ hlo<|λB dL=>K B jt;have D:R.eval Q= .int k2 b:=gO f st Q _ hhi<|λB dL=>K B jt;have L:=uq f st x _ hx<|λB dL=>K B jt;have M:σ (.m r)=some (.b<|.vec E dR xs):=K (.m r,.b<|.vec E dR xs) sW;let ⟨e,i',N,O,hs⟩:=CP fc uF;rcases f.db r _ M with⟨_,h0⟩|⟨bb,p,vs,q,_,_,CT,_⟩
  .subst h0;simp at hv;omega
  .refine⟨λj hj=>L j (by simpa[AV.ar,C.ar]using hj),.slice (some ⟨bb,l,none⟩) (v-l) (p-l),?_,bb,p-l,by rw[q];rfl,J,S⟩;have U:execOp R.eval br=(do pure (.value<|<-Instr.sliceAt b9 (R.eval x) ((some H).map R.eval) ((some Q).map R.eval) (none.map R.eval))):=wV;have Y:(wT ae (G xs) p (some<|.int k1 a) (some<|.int k2 b) none).run P W= .ok (l,v,p) W:=by have c1:v<=p:=S;have c2:l<=v:=S;subst ea eb;simp[wT,Instr.sliceBound,asIntOf,c1,c2,Sem.run,pure]
   have kj:¬p=l:=S;rw[U];simp only[Kj,Option.map_none,z,A,D,q,Instr.sliceAt,Sem.run_bind,run_underlying N,Result.andThen,Instr.slice,Y,run_sizeOf O,hs];simp[kj,pv,Sem.run,pure]
 .intro B dL;rcases b8.1 dL with h|h
  .rcases b8.1 h with h|h
   .exact gw _ x B h
   .rcases b8.1 h with h|h
    .exact gw _ H B h
    .exact gw _ Q B h
  .exact qA _ [r] B h
 .intro k hk;simp only[gn,fe,b8]at hk;rcases hk with(h|h|h)|h
  .exact fC _<|fZ st [x,H,Q] k wY
  .exact fC _<|fZ st [x,H,Q] k wZ
  .exact fC _ (fZ st [x,H,Q] k (by simp only[gn,mm,fe,b8];exact .inr<|.inr<|.inl h))
  .exact jo _<|py st [r] k h
def X8{g:Gh}(c:ET):∀(xs:V c.den)(vs:V Value),bL g (xs.flatMap<|av c) vs->G vs=G xs*c.n/\∀i(d:i<G xs),dk g.H c xs[i] ((aE (i*c.n) vs).take c.n)
 |[],vs,d=>by have d:vs=[]:=d;subst d;exact⟨ax,λi d=>by simp at d⟩
 |x::xs,vs,d=>by
  rw[mm]at d;obtain⟨a,b,rfl,l,m⟩:=Ft d;have k:=yx c x a l;have f:=dk.length c _ _ k;let ⟨hl,hc⟩:=X8 c xs b m;refine⟨by simp[f,hl,g7];omega,λi hi=>?_⟩;cases i with
  |zero=>
   simp only[vQ,rI,vE]
   rw[<-f,List.take_left']
   .exact k
   .rfl
  |succ i=>
   simp only[CR]
   have:=hc i yZ
   rw[show(i+1)*c.n=G a+i*c.n by rw[g7,f];omega,<-vK,List.drop_left']
   .exact this
   .rfl
def ai6(fc:cN P tt=ae){n new}{ops}{i}{br:Oper}(ho:ops[i]? =some br)(hg:br.guard=none){d:I}(hd:br.dst=some d)(dC:d<n){x r}{t1 t2}(dZ:br.op= .call ⟨.builtin .copy,#[x,r],#[t1,t2]⟩)
 {st}{p}{E E1:eL} {f}{xs l:V f.den} {ei:TI} (hx:st.ev x=some (.c<|.X p)) (hl:w p st.mem=some (.vec E f xs)) (hy:st.ev r=some (.c<|.S f l)) (hT:Dq tt t1 t2=some (E1,ei)) (qx:ei.size=f.n) (hle:G l<=G xs) (B:xs≠[]):
  lI P n ops i st ((st.pm p<|.vec E f<|l++aE (G l) xs).put d<|.c<|.I .i64<|G l) new (cH [x,r]++fv [p],[.s d,.m p]):=by
 refine⟨(dO st x++dO st r)++k5 st [p],[(.s d,some<|.v<|.c<|.I .i64<|G l),(.m p,some<|.b<|.vec E f<|l++aE (G l) xs)],?_,?_,AA st d p _ _,?_,λk hk=>jG⟩
 .intro F nF Q known σ g W a K O bC A hK;have hT:=XQ fc hT;rw[qx]at hT;have AQ:a.eval x=g.γ p:=gO bC st x _ hx<|λD dL=>A D jt;have F4:=gO bC st r _ hy<|λD dL=>A D jt;have H:σ (.m p)=some (.b<|.vec E f xs):=A (.m p,.b<|.vec E f xs) sW;let ⟨e2,po⟩:=hT.u2;let ⟨inf,z,Y,Z,Xz,Qg,Gk⟩:=hT.info;let ⟨us,U,hru,GD,X9⟩:=XF (P:=P) (st:=st) (sz:=f.n) (y:= .c<|.S f l) (m:=G l) (cs:=l.flatMap<|av f) (ids:=[]) bC (by simp[KC]) F4 (λp R=>by cases R) po<|rv.2<|XC l;let ⟨L,huc⟩:=X8 f l us hru;rcases bC.db p _ H with⟨_,h0⟩|⟨b,cap,vs,M,hh,xh,CT,hlen,hr,hN,hz⟩
  .exact absurd h0 B
  have auP:G us<=G vs:=by rw[L,xh];exact eB _ S
  have uF:=CY (P:=P) b us W vs 0 0 hh S X9;simp only[jE]at uF;have k4:(Builtin.copy_ #[t1,t2] br.type #[a.eval x,a.eval r]).run P W= .ok (.int .i64<|G l) (jr W b (dx vs us 0) E):=by rw[AQ,M];have ai9:Nat.min (G l) (G xs)=G l:=pj hle;have hc:=U.cells;simp[Builtin.copy_,run_underlying hT.u1,sizeOf,typeInfo,Y,U.len,ai9,Z,hc,uF,goInt,Sem.run,pure]
  have hex:(execOp a.eval br).run P W= .ok (.value<|.int .i64<|G l) (jr W b (dx vs us 0) E):=by refine Kx dZ<|λcs=>?_;have e:(#[x,r]:Array Operand).map a.eval= #[a.eval x,a.eval r]:=ax;rw[e];simp only[Go.builtin,Sem.run_bind,k4,Result.andThen];rfl
  unfold wpOp;simp only[ho,Region.wanted,hg,cA];refine .inl ?_;unfold Oper.wp;rw[hex];simp only[Oper.upon,hd];have ki:d<a.tmps.size:=pq;have hb:b<W.heap.size:=(jP.1 hh).1;have N:G (l++aE (G l) xs)=G xs:=bP;refine hK g _ _<|bC.step (chg:=λj=>j=p) (g':=g) ⟨⟨cz.refl _,λ_ _=>rfl⟩,λ_ _ _=>rfl,FW bC.sub hz,by simp[jr],?_,J,J,J⟩ _ new O qt bC.defers ?_ ?_ ?_ ?_ ?_ ?_
  .intro k' F5 B;have:b≠k':=λe=>B p J (by rw[M,e];rfl)
   exact CV this
  .intro t ht;have B:d≠t:=rz;simp[Act.put,nf B]
  .intro j q;subst q;exact⟨by simp[bf],_,H⟩
  .intro t u ht;simp only[bf]at ht;split at ht
   .rename_i e;simp only[Key.s.injEq]at e;simp only[aR,Info.v.injEq]at ht;subst e;subst ht;simp[Act.put,ki,bI,dn]
   .split at ht
    .simp at ht
    .simp at ht
  .intro j bk q;simp only[bf,reduceCtorEq,cC]at q;split at q
   .rename_i e';simp only[Key.m.injEq]at e';subst e';simp only[aR,Info.b.injEq]at q;subst q;refine⟨.inr ⟨b,cap,dx vs us 0,by rw[N];exact M,CU hb,?_,by rw[N];exact CT,by rw[N];exact hlen,λj q=>?_,hN,hz⟩,.inl ⟨bC.fD _ _ H,_,H⟩⟩
    .rw[CW _ _ _ S];exact xh
    .have KO:dx vs us 0=us++aE (G us) vs:=by simp[dx]
     rw[KO];by_cases Aq:j<G l
     .rw[wW Aq];have h1:=huc j Aq;have h2:j*f.n+f.n<=G us:=by rw[L,(JX:j*f.n+f.n=(j+1)*f.n)];exact eB _ S
      rw[Av S,yM bP];exact h1
     .have hj3:j<G xs:=by omega
      rw[List.getElem_append_right S,uw];have h1:=hr j hj3;have e1:G l+(j-G l)=j:=S;have h3:G us<=j*f.n:=by rw[L];exact eB _ S
      have e2:aE (j*f.n) (us++aE (G us) vs)=aE (j*f.n) vs:=by rw[List.drop_append,wX h3,sV,vK,(S:G us+(j*f.n-G us)=j*f.n)]
      rw[e2];simp only[e1];exact h1
   .simp at q
  .intro k r ht;simp only[bf]at ht;split at ht
   .simp only[aR]at ht;subst ht;intro p R;simp[Info.ar,AV.ar,C.ar]at R
   .split at ht
    .simp only[aR]at ht;subst ht;intro p R;simp[Info.ar,aH.ar]at R
    .simp at ht
  .intro j r ht;simp only[bf,reduceCtorEq,cC]at ht;split at ht
   .rename_i e;simp only[Key.m.injEq]at e;exact .inl<|e▸bC.fD _ _ H
   .simp at ht
 .intro D dL;rcases b8.1 dL with h|h
  .rcases b8.1 h with h|h
   .exact gw _ x D h
   .exact gw _ r D h
  .exact qA _ [p] D h
 .intro k hk;simp only[gn,fe,b8]at hk;rcases hk with(h|h)|h
  .exact fC _<|fZ st [x,r] k wY
  .exact fC _<|fZ st [x,r] k wZ
  .exact jo _<|py st [p] k h
end
section
variable{n:I}{sl sl':V (I×AV)}{mem mem':V (I×aH)}{nx:I}{gd gd':V (I×Bool)}{ops:Array Oper}{draw:Bool}{p:Pr}{ks dd:V Ks}{i i' n0 bQ:I}{os dm:V Oper}{d:I}{ty:eL}{pos:String}{hJ:Array Edge}{R:St->Prop}
def nJ id{f}{args}{b}{vs}{E}{c}{xs a}{r}(k:runs dD n nx draw ops.toList os i ⟨sl,mem,n0,gd⟩ .t ks=(⟨some d,.call ⟨.value<|.func f,args,b⟩,ty,pos,hJ,none⟩::dm,i',⟨sl',mem',bQ,gd'⟩,p,dd))(l:mR j f vs E c xs r a)(v:km ⟨sl',mem',bQ,gd'⟩ args.toList=some (vs.map<|GC id))(x:w id mem'=some (.vec E c xs))
  (B:RG j n ops draw nx (i'+1) dm ⟨(d,r)::sl',(id,.vec E c a)::mem',bQ,gd'⟩ (ff draw dd (cH args.toList++fv [id],[.s d,.m id])) R)
  (hp:p:=by exact lW) (g:Nat.blt d n=ae:=by rfl):RG j n ops draw nx i os ⟨sl,mem,n0,gd⟩ ks R:=
 jI a6 k hp (ai2 v x l B g)
def X'(f v:I){P}{x k l}{g}{E}{Q}{xs}{U k2}{a b}(bW:runs dD n nx draw ops.toList os i ⟨sl,mem,n0,gd⟩ .t ks=(⟨some d,.slice P x (some k) (some l) none,ty,pos,hJ,none⟩::dm,i',⟨sl',mem',bQ,gd'⟩,p,dd))
  (hx:St.ev ⟨sl',mem',bQ,gd'⟩ x=some (.c<|.X g)) (hl:w g mem'=some (.vec E Q xs)) (m:St.ev ⟨sl',mem',bQ,gd'⟩ k=some (.c<|.I U a)) (r:St.ev ⟨sl',mem',bQ,gd'⟩ l=some (.c<|.I k2 b)) (ea:a=(f:Z)) (eb:b=(v:Z)) (B:f<v) (hv:v<=G xs)
  (hk:RG j n ops draw nx (i'+1) dm ⟨(d,.c<|.W g f<|v-f)::sl',mem',bQ,gd'⟩ (ff draw dd (cH [x,k,l]++fv [g],[.s d])) R) (hT:Q.n=1:=by rfl) (F:vC dD P 1=ae:=by rfl)
  (hp:p:=by exact lW) (H:Nat.blt d n=ae:=by rfl):RG j n ops draw nx i os ⟨sl,mem,n0,gd⟩ ks R:=
 jI a6 bW hp (k7 (λC=>ai3 a6 C J J (cY H) J hx hl m r hT F ea eb B hv)<|jH hk)
def GF{x g}{B F}{a}{E P:eL}{f}{xs b}{H}(Q:runs dD n nx draw ops.toList os i ⟨sl,mem,n0,gd⟩ .t ks=(⟨some d,.call ⟨.builtin .copy,#[x,g],#[B,F]⟩,ty,pos,hJ,none⟩::dm,i',⟨sl',mem',bQ,gd'⟩,p,dd))
  (U:St.ev ⟨sl',mem',bQ,gd'⟩ x=some (.c<|.X a)) (W:w a mem'=some (.vec E f xs)) (hy:St.ev ⟨sl',mem',bQ,gd'⟩ g=some (.c<|.S f b)) (hT:Dq dD B F=some (P,H)) (k:G b<=G xs) (l:xs≠[])
  (hk:RG j n ops draw nx (i'+1) dm ⟨(d,.c<|.I .i64<|G b)::sl',(a,.vec E f<|b++aE (G b) xs)::mem',bQ,gd'⟩ (ff draw dd (cH [x,g]++fv [a],[.s d,.m a])) R) (r:H.size=f.n:=by rfl)
  (hp:p:=by exact lW) (v:Nat.blt d n=ae:=by rfl):RG j n ops draw nx i os ⟨sl,mem,n0,gd⟩ ks R:=
 jI a6 Q hp (k7 (λC=>ai6 a6 C J J (cY v) J U W hy hT r k l)<|jH hk)
end
def vU(a:V Z):af j 234 [N al a] (N al<|au a):=by
 refine aD Tryz.func234<|yY 0 J λg=>?_;simp only[ET.n,kI]at g;refine e J<|e J ?_;refine L<|q<|aK (α:=I) (λk=>⟨[(0,N al a),(3,D k)],[],2,[]⟩) (λk=>k<=G a/\gY a k=gY a (G a)) (λk=>k) (G a) ⟨a8 _,J⟩ aM ?_;rintro k ⟨l,b⟩;have c:∀v,k=0\/Y a (k-1) 0≠0->v=y k a->a7 (N al v) (N al<|au a):=by
  intro v d h2;refine a7.of_eq ?_;subst h2;unfold au;rw[<-b];cases k with
  |zero=>rfl
  |succ k=>
   rcases d with d|d
   .omega
   .simp only[eJ]at d;simp only[gY,d,cC]
 refine L<|t ?_;refine rg 8 J J (λh=>?_)<|λh=>?_
 .simp at h;refine o J (z J (λh2=>?_)<|λh2=>?_)
  .refine ai (q<|rt J<|dy<|aA (k-1) ⟨S,?_⟩ (S:k-1<k)<|wk ⟨sR J,sE J ?_,T⟩ T)
   .rw[<-b];obtain⟨f,rfl⟩:∃f,k=f+1:=⟨k-1,S⟩;have i:Y a f 0=0:=by have:ad (((f+1:I):Z)-1)=f:=S;simpa[this]using h2
    simp only[eJ,gY,i,cA]
   .congr 2;omega
  .refine aN (ay<|e J<|bc<|g8 a6 J<|c _ (.inr ?_) ?_)
   .have:ad ((k:Z)-1)=k-1:=by omega
    simpa[this]using h2
   .simp
 .simp at h;subst h;refine o J<|z J (λh2=>xt)<|λ_=>?_;exact aN<|ay<|e J<|bc<|g8 a6 J<|c _ (.inl J) J
def za(a:V Z):af j 176 [N al a] (N al<|au a):=by
 refine aD Tryz.func176<|yY 0 J λg=>?_;simp only[ET.n,kI]at g;refine e J<|e J ?_;refine L<|q<|aK (α:=I) (λk=>⟨[(0,N al a),(3,D k)],[],2,[]⟩) (λk=>k<=G a/\gY a k=gY a (G a)) (λk=>k) (G a) ⟨a8 _,J⟩ aM ?_;rintro k ⟨l,b⟩;have c:∀v,k=0\/Y a (k-1) 0≠0->v=y k a->a7 (N al v) (N al<|au a):=by
  intro v d h2;refine a7.of_eq ?_;subst h2;unfold au;rw[<-b];cases k with
  |zero=>rfl
  |succ k=>
   rcases d with d|d
   .omega
   .simp only[eJ]at d;simp only[gY,d,cC]
 refine L<|t ?_;refine rg 8 J J (λh=>?_)<|λh=>?_
 .simp at h;refine o J (z J (λh2=>?_)<|λh2=>?_)
  .refine ai (q<|rt J<|dy<|aA (k-1) ⟨S,?_⟩ (S:k-1<k)<|wk ⟨sR J,sE J ?_,T⟩ T)
   .rw[<-b];obtain⟨f,rfl⟩:∃f,k=f+1:=⟨k-1,S⟩;have i:Y a f 0=0:=by have:ad (((f+1:I):Z)-1)=f:=S;simpa[this]using h2
    simp only[eJ,gY,i,cA]
   .congr 2;omega
  .refine aN (ay<|e J<|bc<|g8 a6 J<|c _ (.inr ?_) ?_)
   .have:ad ((k:Z)-1)=k-1:=by omega
    simpa[this]using h2
   .simp
 .simp at h;subst h;refine o J<|z J (λh2=>xt)<|λ_=>?_;exact aN<|ay<|e J<|bc<|g8 a6 J<|c _ (.inl J) J
def wrap_u32 n(a:0<=n)(b:n<4294967296):ao .u32 n=n:=by simp[ao,IntKind.bits,AY];omega
def wrap_u64 n(a:0<=n)(b:n<18446744073709551616):ao .u64 n=n:=by simp[ao,IntKind.bits,AY];omega
def Ya m(b:m<18446744073709551616):au [((m%4294967296:I):Z),((m/4294967296:I):Z)]=aj m:=by have a:bM [((m%4294967296:I):Z),((m/4294967296:I):Z)]:=yy.mpr ⟨S,yy.mpr ⟨S,Pl⟩⟩;rw[pn a];congr 1;simp only[val];omega
def AZ(m:I)(a:m<18446744073709551616):af j 112 [cU m] (N al<|aj m):=by
 refine aD Tryz.func112 ?_;refine e J<|t ?_;have b:ao .u32 ((m:Z).tmod 4294967296)=((m%4294967296:I):Z):=by rw[wrap_u32]<;>(rw[oh S];omega)
 have c:ao .u32 (ao .u64<|(m:Z).tdiv 4294967296)=((m/4294967296:I):Z):=by
  have:(m:Z).tdiv 4294967296=((m/4294967296:I):Z):=by rw[zb S];omega
  rw[this,wrap_u64 _ S S,wrap_u32 _ S S]
 refine rl al [_,_] J J ?_;refine rc J J (za _) ?_;refine o J<|bq J ?_;rw[b,c,Ya m a]
def aja neg(c:V Z):af j 107 [cB neg,N al c] (.a [.B (neg&&decide (0<G (au c))),.S al<|au c]):=by
 refine aD Tryz.func107 ?_;refine e J<|t ?_;refine rc J J (za _) ?_;refine o J<|t ?_;refine rg 9 J J (λh=>?_)<|λh=>?_
 .refine o J<|bq J ?_;subst h;have d:decide ((G (au c):Z)>0)=(ae&&decide (0<G (au c))):=ax;exact aC (λb=>AV.a [C.B b,C.S al<|au c]) d
 .refine o J<|bq J ?_;subst h;rfl
def A0 ws(i:I)(b:bM ws):af j 177 [N al ws,D i] (cU<|Y ws i 0):=by
 refine aD Tryz.func177 ?_;refine e J<|L<|e J ?_;have:=dp b i;refine z J (λh=>?_)<|λh=>?_
 .simp at h;refine e J<|bc<|bt<|c9 J ?_;have a:ao .u64 (Y ws (ad (i:Z)) 0)=Y ws i 0:=by rw[aV,wrap_u64 _ this.1 S]
  exact bA a
 .simp at h;refine ai<|e J<|bq J ?_;have a:Y ws i 0=0:=by simp[aF,lG h]
  rw[a];rfl
def cX(a b:Z):Z:=if a<b then-1 else if b<a then 1 else 0
def ajb a b(l:bM a)(m:bM b)(E:can a)(F:can b):af Tryz.prog 109 [N al a,N al b] (D<|cX (val a)<|val b):=by
 refine aD Tryz.func109<|yY 0 J λr=>yY 1 J λv=>?_;simp only[ET.n,kI]at r v;refine e J<|L<|e J ?_;refine z J (λh=>?_)<|λh=>?_
 .simp at h;refine e J<|bc<|bt<|c9 J ?_;rw[cX,s<|JI l m F h];rfl
 .simp at h;refine ai<|L<|e J ?_;refine z J (λp=>?_) (λp=>?_)
  .simp at p;refine e J<|bc<|bt<|c9 J ?_;have:=JI m l E p;rw[cX,M S,s this];rfl
  .simp at p;have x:G a=G b:=S;refine ai<|L<|e J ?_;refine q<|aK (α:=I) (λk=>⟨[(0,N al a),(1,N al b),(5,D<|(k:Z)-1)],[],4,[]⟩) (λk=>k<=G a/\aE k a=aE k b) (λk=>k) (G a) ⟨a8 _,by simp[x]⟩ aM ?_;rintro k ⟨K,f⟩;refine L<|e J ?_;refine z J (λB=>?_) (λB=>?_)
   .simp at B;obtain⟨j,rfl⟩:∃j,k=j+1:=⟨k-1,S⟩;have H:(((j+1:I):Z)-1)=j:=S;have d:j<G a:=S;rw[H];refine ai<|L<|q<|L<|e J ?_;refine z J (λg=>?_) (λg=>?_)
    .simp at g;refine e J<|bc ?_;repeat(first|refine bt ?_|refine eH ?_|refine gf ?_)
     refine c9 J ?_;rw[cX,s<|JJ l m j f x d g];rfl
    .have g:¬(Y a j 0<Y b j 0):=by simpa using g
     refine ai<|e J ?_;refine z J (λi=>?_)<|λi=>?_
     .simp at i;refine e J<|bc ?_;repeat(first|refine bt ?_|refine eH ?_|refine gf ?_)
      refine c9 J ?_;have:=JJ m l j f.symm x.symm S i;rw[cX,M S,s this];rfl
     .have i:¬(Y a j 0>Y b j 0):=by simpa using i
      refine bN<|aT<|rt J<|aA j ⟨S,?_⟩ ni aM;have C:Y a j 0=Y b j 0:=S;have c:j<G b:=S;rw[lY d,lY c,f];simp only[aF,bD d,bD c,Aj]at C;rw[C]
   .simp at B;have:k=0:=S;subst this;refine aN<|ay<|e J<|bc ?_;repeat(first|refine bt ?_|refine eH ?_|refine gf ?_)
    refine c9 J ?_;simp only[rI]at f;rw[f,cX,M S,M S];rfl
def ls b i a(c:Z)(d:i<G b):Y (b.set i c) a 0=if i=a then c else Y b a 0:=by
 simp only[aF,Dw];by_cases e:i=a
 .subst e;simp[d]
 .simp[e]
def GG a i b(c:i<G a)(d:Y a i 0=0):val (a.set i b)=val a+b*4294967296^i:=by rw[Pn a i b c,d];simp
structure Dx(a b:V Z)(m:I)(x:I×V Z×Z):Prop where
 i:x.1<=m
 len:x.2.1.length=m
 r:bM x.2.1
 z:∀c,x.1<=c->x.2.1.getD c 0=0
 c0:0<=x.2.2
 c1:x.2.2<=1
 v:val x.2.1+x.2.2*4294967296^x.1=val (a.take x.1)+val (b.take x.1)
def Dx.next{a b}{m}{x}(c:Dx a b m x)(d:x.1<m)(f:bM a)(g:bM b):Dx a b m (x.1+1,x.2.1.set x.1<|(Y a x.1 0+Y b x.1 0+x.2.2)%4294967296,(Y a x.1 0+Y b x.1 0+x.2.2)/4294967296):=by
 have n:=dp f x.1;have p:=dp g x.1;have B:=c.c0;have C:=c.c1;refine⟨d,by simp[c.len],yA c.r _ ⟨S,S⟩,?_,(by show 0<=_/_;omega),(by show _/_<=1;omega),?_⟩
 .intro j i;simp only at i;rw[ls _ _ _ _ (by rw[c.len];exact d),M S];exact c.z j S
 .simp only;rw[GG _ _ _ (by rw[c.len];exact d) (c.z _<|a8 _),lH,lH,dK];have k:=c.v;generalize (4294967296:Z)^x.1=q at k⊢;generalize ht:Y a x.1 0+Y b x.1 0+x.2.2=s;have l:s%4294967296+s/4294967296*4294967296=s:=S;have:val x.2.1=val (y x.1 a)+val (y x.1 b)-x.2.2*q:=S;rw[this];have e:s%4294967296*q+s/4294967296*(q*4294967296)=s*q:=by rw[show s/4294967296*(q*4294967296)=s/4294967296*4294967296*q by grind,<-nb,l]
  have E:s*q=Y a x.1 0*q+Y b x.1 0*q+x.2.2*q:=by rw[<-ht];grind
  omega
def Yb(x a:I):(if(a:Z)>x then(a:Z)else x)=((max x a:I):Z):=by
 by_cases h:(a:Z)>x
 .rw[s h];omega
 .rw[M h];omega
def ajc a b(l:bM a)(m:bM b)(la:G a<=1099511627776)(lb:G b<=1099511627776):af j 108 [N al a,N al b] (N al<|aj<|ad<|val a+val b):=by
 refine aD Tryz.func108 ?_;refine e J<|e J<|t ?_;refine rm al (max (G a) (G b)+1) J J J J J J (kH .u32) ?_ ?_ ?_ ?_
 .rw[Yb];rfl
 .show _*4<=_;omega
 .show _*1<=_;omega
 refine o J<|e J<|L<|e J ?_;generalize hM:max (G a) (G b)+1=M;refine q<|aK (α:=I×V Z×Z) (λx=>⟨[(0,N al a),(1,N al b),(5,D M),(6,.c<|.X 2001000),(7,cU x.2.2),(8,D x.1)],[(2001000,.vec 23 al x.2.1)],5,[]⟩) (Dx a b M) (λx=>M-x.1) (0,bh M 0,0) ?_ ?_ ?_
 .refine⟨aW _,ax,rh M,?_,gk _,A1,A2⟩;intro fQ _;simp only[aF,j9];split<;>rfl
 .refine wk ⟨sR J,sR J,sE J ?_,sR J,sR J,sR J,T⟩ ⟨bR J,T⟩;rw[Yb,<-hM];congr 2
 .rintro⟨i,n,c⟩ d;have B:G n=M:=d.len;have F:0<=c:=d.c0;have H:c<=1:=d.c1;have ga:=dp l i;have gb:=dp m i;refine L<|e J ?_;refine z J (λh=>?_) (λh=>?_)
  .have h:i<M:=by simpa using h
   refine ai<|L<|q<|t ?_;refine rc J J (A0 a i l)<|rc J J (A0 b i m)<|o J ?_;have K:ao .u64 (ao .u64 (Y a i 0+Y b i 0)+c)=Y a i 0+Y b i 0+c:=by rw[wrap_u64 (Y a i 0+Y b i 0) S S,wrap_u64 _ S S]
   rw[K];generalize ht:Y a i 0+Y b i 0+c=s;have P:ao .u32 (s.tmod 4294967296)=s%4294967296:=by rw[oh S,wrap_u32 _ S S]
   have Q:ao .u64 (s.tdiv 4294967296)=s/4294967296:=by rw[zb S,wrap_u64 _ S S]
   have C:=d.next h l m;simp only[ht]at C;refine e J<|rt J<|aT<|rt J<|aA (i+1,n.set i<|s%4294967296,s/4294967296) C xu<|wk ⟨sR J,sR J,sR J,sR J,sE J ?_,sE J ?_,T⟩ ⟨bE J ?_,T⟩
   .exact bA Q
   .rfl
   .rw[P,aV]
  .have h:¬i<M:=by simpa using h
   have R:i=M:=by have:=d.i;simp only at this;omega
   refine aN<|ay<|cD 2001000 J J J<|t ?_;refine rc J J (za _)<|o J<|bq J ?_;have f:=d.v;simp only at f;have p:bM n:=d.r;have U:=nC p;have W:=mN p;have g:val (y i a)=val a:=na a i S;have k:val (y i b)=val b:=na b i S;have u:=nC l;have w:=nC m;have pa:(4294967296:Z)^G a<=4294967296^(M-1):=ug S;have pb:(4294967296:Z)^G b<=4294967296^(M-1):=ug S;have A:(4294967296:Z)^M=4294967296^(M-1)*4294967296:=by rw[<-dK];congr 1;omega
   have E:=kE<|M-1;have O:c=0:=by
    rw[g,k,R,A]at f;rcases Int.lt_or_le c 1 with iD|hge
    .omega
    .have:c=1:=by omega
     subst this;omega
   rw[pn p];subst O;rw[g,k]at f;simp only[ko,mT]at f;rw[f]
structure GH(a b:V Z)(m:I)(x:I×V Z×Z):Prop where
 i:x.1<=m
 len:x.2.1.length=m
 r:bM x.2.1
 z:∀c,x.1<=c->x.2.1.getD c 0=0
 c0:0<=x.2.2
 c1:x.2.2<=1
 v:val x.2.1-x.2.2*4294967296^x.1=val (a.take x.1)-val (b.take x.1)
def GH.next{a b}{m}{x}(c:GH a b m x)(d:x.1<m)(f:bM a)(g:bM b):GH a b m (x.1+1,x.2.1.set x.1<|(4294967296+Y a x.1 0-Y b x.1 0-x.2.2)%4294967296,1-(4294967296+Y a x.1 0-Y b x.1 0-x.2.2)/4294967296):=by
 have n:=dp f x.1;have p:=dp g x.1;have B:=c.c0;have C:=c.c1;refine⟨d,by simp[c.len],yA c.r _ ⟨S,S⟩,?_,(by show 0<=1-_/_;omega),(by show 1-_/_<=1;omega),?_⟩
 .intro j i;simp only at i;rw[ls _ _ _ _ (by rw[c.len];exact d),M S];exact c.z j S
 .simp only;rw[GG _ _ _ (by rw[c.len];exact d) (c.z _<|a8 _),lH,lH,dK];have k:=c.v;generalize (4294967296:Z)^x.1=q at k⊢;generalize ht:4294967296+Y a x.1 0-Y b x.1 0-x.2.2=s;have l:s%4294967296+s/4294967296*4294967296=s:=S;have:val x.2.1=val (y x.1 a)-val (y x.1 b)+x.2.2*q:=S;rw[this];have e:s%4294967296*q+s/4294967296*(q*4294967296)=s*q:=by rw[show s/4294967296*(q*4294967296)=s/4294967296*4294967296*q by grind,<-nb,l]
  have E:s*q=4294967296*q+Y a x.1 0*q-Y b x.1 0*q-x.2.2*q:=by rw[<-ht];grind
  have F:(1-s/4294967296)*(q*4294967296)=4294967296*q-s/4294967296*(q*4294967296):=by grind
  omega
def ajd a b(E:bM a)(m:bM b)(hl:G b<=G a)(H:val b<=val a)(la:G a<=1099511627776):af j 110 [N al a,N al b] (N al<|aj<|ad<|val a-val b):=by
 refine aD Tryz.func110 ?_;refine e J<|t ?_;refine rm al (G a) J J J J J J (kH .u32) J ?_ ?_ ?_
 .show _*4<=_;omega
 .show _*1<=_;omega
 refine o J<|e J<|L<|e J ?_;generalize hM:G a=M;refine q<|aK (α:=I×V Z×Z) (λx=>⟨[(0,N al a),(1,N al b),(5,.c<|.X 1002000),(6,cU x.2.2),(7,D x.1)],[(1002000,.vec 23 al x.2.1)],4,[]⟩) (GH a b M) (λx=>M-x.1) (0,bh M 0,0) ?_ ?_ ?_
 .refine⟨aW _,ax,rh M,?_,gk _,A1,A2⟩;intro fQ _;simp only[aF,j9];split<;>rfl
 .exact wk (aS J) ⟨bR J,T⟩
 .rintro⟨i,n,c⟩ d;have f:G n=M:=d.len;have K:0<=c:=d.c0;have P:c<=1:=d.c1;have ga:=dp E i;have gb:=dp m i;refine L<|e J ?_;refine z J (λh=>?_) (λh=>?_)
  .have h:i<M:=by simpa[hM]using h
   refine ai<|L<|q<|t ?_;refine rc J J (A0 b i m)<|o J ?_;have Q:ao .u64 (ao .u64 (ao .u64 (4294967296+ao .u64 (Y a (ad (i:Z)) 0))-Y b i 0)-c)=4294967296+Y a i 0-Y b i 0-c:=by rw[aV,wrap_u64 (Y a i 0) S S,wrap_u64 (4294967296+Y a i 0) S S,wrap_u64 (4294967296+Y a i 0-Y b i 0) S S,wrap_u64 _ S S]
   simp only[Q];generalize ht:4294967296+Y a i 0-Y b i 0-c=s;have R:ao .u32 (s.tmod 4294967296)=s%4294967296:=by rw[oh S,wrap_u32 _ S S]
   have U:ao .u64 (1-ao .u64 (s.tdiv 4294967296))=1-s/4294967296:=by rw[zb S,wrap_u64 (s/4294967296) S S,wrap_u64 _ S S]
   have C:=d.next h E m;simp only[ht]at C;refine e J<|rt J<|aT<|rt J<|aA (i+1,n.set i<|s%4294967296,1-s/4294967296) C xu<|wk ⟨sR J,sR J,sR J,sE J ?_,sE J ?_,T⟩ ⟨bE J ?_,T⟩
   .exact bA U
   .rfl
   .rw[R,aV]
  .have h:¬i<M:=by simpa[hM]using h
   have W:i=M:=by have:=d.i;simp only at this;omega
   refine aN<|ay<|cD 1002000 J J J<|t ?_;refine rc J J (za _)<|o J<|bq J ?_;have g:=d.v;simp only at g;have p:bM n:=d.r;have B:=nC p;have u:=mN p;have k:val (y i a)=val a:=na a i S;have l:val (y i b)=val b:=na b i S;have F:=kE M;rw[f]at B;have w:c=0:=by
    rw[k,l,W]at g;rcases Int.lt_or_le c 1 with A|O
    .omega
    .have:c=1:=by omega
     subst this;omega
   rw[pn p];subst w;rw[k,l]at g;simp only[ko,xv]at g;rw[g]
structure QD(a b:V Z)(x:I×V Z):Prop where
 i:x.1<=a.length
 len:x.2.length=a.length+b.length
 r:bM x.2
 z:∀c,x.1+b.length<=c->x.2.getD c 0=0
 v:val x.2=val (a.take x.1)*val b
structure A3(a b:V Z)(i:I)(x:I×V Z×Z):Prop where
 k:x.1<=b.length
 len:x.2.1.length=a.length+b.length
 r:bM x.2.1
 z:∀c,i+b.length<=c->x.2.1.getD c 0=0
 c0:0<=x.2.2
 c1:x.2.2<4294967296
 v:val x.2.1+x.2.2*4294967296^(i+x.1)=val (a.take i)*val b+a.getD i 0*val (b.take x.1)*4294967296^i
def GI{x a:Z}(d:0<=x)(b:x<=4294967295)(c:0<=a)(f:a<=4294967295):0<=x*a/\x*a<=18446744065119617025:=by refine⟨jm d c,?_⟩;have g:x*a<=4294967295*a:=iU b c;omega
def A3.next{a b}{i}{x}(c:A3 a b i x)(H:i<G a)(g:x.1<G b)(l:bM a)(m:bM b):A3 a b i (x.1+1,x.2.1.set (i+x.1)<|(Y a i 0*Y b x.1 0+Y x.2.1 (i+x.1) 0+x.2.2)%4294967296,(Y a i 0*Y b x.1 0+Y x.2.1 (i+x.1) 0+x.2.2)/4294967296):=by
 have k:=dp l i;have n:=dp m x.1;have K:=c.c0;have P:=c.c1;have Q:=dp c.r<|i+x.1;have R:=GI k.1 S n.1 S;have d:i+x.1<G x.2.1:=by rw[c.len];omega
 refine⟨g,by simp[c.len],yA c.r _ ⟨S,S⟩,?_,(by show 0<=_/_;omega),(by show _/_<(4294967296:Z);omega),?_⟩
 .intro j p;simp only;rw[ls _ _ _ _ d,M S];exact c.z j p
 .simp only;rw[Pn _ _ _ d,lH,<-qv,dK];have B:=c.v;have f:(4294967296:Z)^(i+x.1)=4294967296^i*4294967296^x.1:=Int.pow_add ..;generalize U:(4294967296:Z)^(i+x.1)=q at B f⊢;generalize ht:Y a i 0*Y b x.1 0+Y x.2.1 (i+x.1) 0+x.2.2=s;have C:s%4294967296+s/4294967296*4294967296=s:=S;have e:s%4294967296*q+s/4294967296*(q*4294967296)=s*q:=by rw[show s/4294967296*(q*4294967296)=s/4294967296*4294967296*q by grind,<-nb,C]
  have W:s*q=Y a i 0*Y b x.1 0*q+Y x.2.1 (i+x.1) 0*q+x.2.2*q:=by rw[<-ht];grind
  have E:(s%4294967296-Y x.2.1 (i+x.1) 0)*q=s%4294967296*q-Y x.2.1 (i+x.1) 0*q:=by grind
  have F:Y a i 0*(val (y x.1 b)+Y b x.1 0*4294967296^x.1)*4294967296^i=Y a i 0*val (y x.1 b)*4294967296^i+Y a i 0*Y b x.1 0*q:=by rw[f];grind
  rw[E,F];omega
def A3.done{a b}{i}{g}{c}(d:A3 a b i (G b,g,c))(l:i<G a):QD a b (i+1,g.set (i+G b) c):=by
 have f:G g=G a+G b:=d.len;have m:=d.c0;have n:=d.c1;have p:Y g (i+G b) 0=0:=d.z _<|a8 _;refine⟨l,by simp[f],yA d.r _ ⟨m,n⟩,?_,?_⟩
 .intro j x;simp only at x⊢;rw[ls _ _ _ _ S,M S];exact d.z j S
 .simp only;rw[GG _ _ _ S p,lH];have k:=d.v;simp only[eE]at k;rw[k];grind
def aje a b(F:bM a)(H:bM b)(la:G a<=1099511627776)(lb:G b<=1099511627776):af j 111 [N al a,N al b] (N al<|aj<|ad<|val a*val b):=by
 refine aD Tryz.func111 ?_;refine e J<|t ?_;refine rm al (G a+G b) J J J J J J (kH .u32) J ?_ ?_ ?_
 .show _*4<=_;omega
 .show _*1<=_;omega
 refine o J<|L<|e J ?_;refine q<|aK (α:=I×V Z) (λx=>⟨[(0,N al a),(1,N al b),(5,.c<|.X 1005000),(6,D x.1)],[(1005000,.vec 23 al x.2)],3,[]⟩) (QD a b) (λx=>G a-x.1) (0,bh (G a+G b) 0) ?_ ?_ ?_
 .refine⟨aW _,ax,rh _,?_,A2⟩;intro A _;simp only[aF,j9];split<;>rfl
 .exact wk (aS J) ⟨bR J,T⟩
 .rintro⟨i,d⟩ l;have g:G d=G a+G b:=l.len;refine L<|e J ?_;refine z J (λh=>?_) (λh=>?_)
  .have h:i<G a:=by simpa using h
   refine ai<|L<|q<|e J<|L<|e J ?_;refine q<|aK (α:=I×V Z×Z) (λx=>⟨[(0,N al a),(1,N al b),(5,.c<|.X 1005000),(6,D i),(7,cU x.2.2),(8,D x.1)],[(1005000,.vec 23 al x.2.1)],6,[]⟩) (A3 a b i) (λx=>G b-x.1) (0,d,0) ?_ ?_ ?_
   .refine⟨aW _,g,l.r,l.z,gk _,(by show(0:Z)<_;decide),?_⟩;have:=l.v;simp only at this;simp[this,val]
   .exact wk (aS J) ⟨bR J,T⟩
   .rintro⟨k,d,c⟩ m;have g:G d=G a+G b:=m.len;have p:0<=c:=m.c0;have B:c<4294967296:=m.c1;refine L<|e J ?_;refine z J (λn=>?_) (λn=>?_)
    .have n:k<G b:=by simpa using n
     have Q:=dp F i;have R:=dp H k;have U:=dp m.r<|i+k;simp only at U;have M:=GI Q.1 S R.1 S;refine ai<|L<|q<|e J ?_ (hp:=iM);have f:ad ((i:Z)+(k:Z))=i+k:=S;have K:ao .u64 (ao .u64 (ao .u64 (ao .u64 (Y a (ad (i:Z)) 0)*ao .u64 (Y b (ad (k:Z)) 0))+ao .u64 (Y d (ad<|(i:Z)+(k:Z)) 0))+c)=Y a i 0*Y b k 0+Y d (i+k) 0+c:=by rw[f,aV,aV,wrap_u64 (Y a i 0) S S,wrap_u64 (Y b k 0) S S,wrap_u64 (Y d (i+k) 0) S S,wrap_u64 (Y a i 0*Y b k 0) S S,wrap_u64 (Y a i 0*Y b k 0+Y d (i+k) 0) S S,wrap_u64 _ S S]
     have C:=m.next h n F H;simp only at C;generalize ht:Y a i 0*Y b k 0+Y d (i+k) 0+c=s at C K;have E:ao .u32 (s.tmod 4294967296)=s%4294967296:=by rw[oh S,wrap_u32 _ S S]
     have W:ao .u64 (s.tdiv 4294967296)=s/4294967296:=by rw[zb S,wrap_u64 _ S S]
     refine dc (st':=⟨[(0,N al a),(1,N al b),(5,.c<|.X 1005000),(6,D i),(8,D k),(9,cU s)],[(1005000,.vec 23 al d)],8,[]⟩) (wk ⟨sR J,sR J,sR J,sR J,sR J,sE J ?_,T⟩ ⟨bR J,T⟩) ?_
     .exact bA K
     refine e J<|rt J<|aT<|rt J<|aA (k+1,d.set (i+k)<|s%4294967296,s/4294967296) C (S:G b-(k+1)<G b-k)<|wk ⟨sR J,sR J,sR J,sR J,sE J ?_,sE J ?_,T⟩ ⟨bE J ?_,T⟩
     .exact bA W
     .rfl
     .rw[E,f]
    .have n:¬k<G b:=by simpa using n
     have u:k=G b:=by have:=m.k;simp only at this;omega
     subst u;have w:=m.done h;have f:ad ((i:Z)+(G b:Z))=i+G b:=S;have E:ao .u32 c=c:=wrap_u32 c p B;refine aN<|ay<|rt J<|aT<|rt J<|aA (i+1,d.set (i+G b) c) w ka<|wk ⟨sR J,sR J,sR J,sE J ?_,T⟩ ⟨bE J ?_,T⟩
     .rfl
     .rw[E,f]
  .have h:¬i<G a:=by simpa using h
   have y:i=G a:=by have:=l.i;simp only at this;omega
   subst y;refine aN<|ay<|cD 1005000 J J J<|t ?_;refine rc J J (za _)<|o J<|bq J ?_;have P:=l.v;simp only[eE]at P;rw[pn l.r];simp only[P]
def Sm(a:Z):Prop:=G (de a)<=1099511627776
def sg(neg:Bool)(m:I):Z:=if neg then-(m:Z)else m
def xw a:sg (bK a) (aq a)=a:=by
 unfold sg bK;by_cases h:a<0
 .simp[h];omega
 .simp[h];omega
def mU{m}:0<G (aj m)↔m≠0:=by
 constructor
 .intro h e;subst e;simp[Cz]at h
 .intro h;rw[wP h];simp
def Yc neg m:(AV.a [.B (neg&&decide (0<G (aj m))),.S al<|aj m])=aZ (sg neg m):=by
 have b:bK (sg neg m)=(neg&&decide (0<G (aj m))):=by
  unfold bK sg;cases neg with
  |false=>simp
  |true=>
   simp only[cA,A4]
   rw[Bool.eq_iff_iff]
   simp only[decide_eq_true_eq]
   rw[mU];omega
 have c:aq (sg neg m)=m:=by unfold sg;cases neg<;>simp
 unfold aZ;simp only[av,de,b,c]
def mr neg m:af j 107 [cB neg,N al<|aj m] (aZ<|sg neg m):=by have:=aja neg<|aj m;rw[Pp,Yc]at this;exact this
def kp n(d: -9223372036854775808<=n)(g:n<=9223372036854775807):af j 38 [D n] (aZ n):=by
 refine aD Tryz.func38 ?_;refine e J<|L<|e J ?_;refine z J (λh=>?_)<|λh=>?_
 .have h:n<0:=by simpa using h
  have a:ao .u64 (ao .u64 (0-(n+1))+1)=(ad (-n):I):=by rw[wrap_u64 (0-(n+1)) S S,wrap_u64 _ S S];omega
  refine t ?_;refine rc J J (f:=112) (r:=N al<|aj<|ad<| -n) (by rw[a];exact AZ _ S) ?_;refine rc J J (mr ae _)<|o J<|bc<|bt<|c9 J ?_;have b:sg ae (ad<| -n)=n:=by unfold sg;simp;omega
  rw[b];rfl
 .have h:¬n<0:=by simpa using h
  have a:ao .u64 n=(ad n:I):=by rw[wrap_u64 _ S S];omega
  refine ai<|t ?_;refine rc J J (f:=112) (r:=N al<|aj<|ad n) (by rw[show(AV.c (num .u64 n).1)=cU ((ad n:I):Z)from bA a];exact AZ _ S) ?_;refine rc J J (mr ah _)<|o J<|bq J ?_;have b:sg ah (ad n)=n:=by unfold sg;simp;omega
  rw[b];rfl
def cq(a:Z):Z:=if a<0 then-1 else if a=0 then 0 else 1
def vV a:af j 57 [aZ a] (D<|cq a):=by
 refine aD Tryz.func57 ?_;refine e J<|L<|e J ?_;refine z J (λh=>?_)<|λh=>?_
 .have h:a<0:=by simpa[bK]using h
  refine e J<|bc<|bt<|c9 J ?_;rw[cq,s h];rfl
 .have h:¬a<0:=by simpa[bK]using h
  refine ai<|e J<|bq J ?_;have c:(if ae=ah then(0:Z)else if(1:Z)<G (de a)then 1 else G (de a))=cq a:=by
   rw[M A,cq,M h];by_cases b:a=0
   .subst b;rfl
   .have:0<G (de a):=mU.2 S;rw[M b];split<;>omega
  exact gh c
def GJ a:af j 58 [aZ a] (aZ<| -a):=by
 refine aD Tryz.func58 ?_;refine e J<|t ?_;refine rc J J (mr (!bK a)<|aq a)<|o J<|bq J ?_;have b:sg (!bK a) (aq a)= -a:=by
  unfold sg bK;by_cases h:a<0
  .simp[h];omega
  .simp[h];omega
 rw[b];rfl
def GK m k:af j 109 [N al (aj m),N al<|aj k] (D<|cX m k):=by have:=ajb (aj m) (aj k) (eh m) (eh k) (ud m)<|ud k;rw[eN,eN]at this;exact this
def KP a b:af j 42 [aZ a,aZ b] (D<|cX a b):=by
 refine aD Tryz.func42 ?_;refine e J<|L<|t ?_;refine rg 7 J J (λh=>?_)<|λh=>?_
 .have d:a<0:=by simpa[bK]using h
  refine o J<|z J (λh2=>?_)<|λh2=>?_
  .have g:¬b<0:=by simpa[bK]using h2
   refine e J<|bc<|bt<|c9 J ?_;rw[cX,s S];rfl
  .have g:b<0:=by simpa[bK]using h2
   refine ai<|L<|t ?_;refine rg 15 J J (λf=>?_)<|λf=>?_
   .simp[bK,d]at f
   .refine o J<|z J (λc=>by simp at c)<|λ_=>?_;refine ai<|L<|e J ?_;refine z J (λc=>?_) (λc=>?_)
    .refine aO J J (GK _ _) J<|bc<|bt<|c9 J ?_;have i:cX (aq b) (aq a)=cX a b:=by unfold cX;split<;>split<;>(try split)<;>omega
     exact gh i
    .simp[bK,d]at c
 .have d:¬a<0:=by simpa[bK]using h
  refine o J<|z J (λh2=>xt)<|λh2=>?_;refine ai<|L<|t ?_;refine rg 15 J J (λf=>?_)<|λf=>?_
  .refine o J (z J (λc=>?_)<|λc=>?_)
   .have g:b<0:=by simpa[bK]using c
    refine e J<|bc<|bt<|c9 J ?_;rw[cX,M S,s S];rfl
   .have g:¬b<0:=by simpa[bK]using c
    refine ai<|L<|e J ?_;refine z J (λc=>?_)<|λc=>?_
    .simp[bK,d]at c
    .refine ai<|aO J J (GK _ _) J<|bq J ?_;have i:cX (aq a) (aq b)=cX a b:=by unfold cX;split<;>split<;>(try split)<;>omega
     exact gh i
  .simp[bK,d]at f
def QE m k(a:G (aj m)<=1099511627776)(b:G (aj k)<=1099511627776):af j 108 [N al (aj m),N al<|aj k] (N al<|aj<|m+k):=by have:=ajc (aj m) (aj k) (eh m) (eh k) a b;rw[eN,eN,(S:ad ((m:Z)+(k:Z))=m+k)]at this;exact this
def rJ{m k}(a:m<=k):G (aj m)<=G (aj k):=Ak (by have:=uf (n:=k);omega)
def KQ m k(a:k<=m)(b:G (aj m)<=1099511627776):af j 110 [N al (aj m),N al<|aj k] (N al<|aj<|m-k):=by have:=ajd (aj m) (aj k) (eh m) (eh k) (rJ a) (by rw[eN,eN];omega) b;rw[eN,eN,(S:ad ((m:Z)-(k:Z))=m-k)]at this;exact this
def QF m k(a:G (aj m)<=1099511627776)(b:G (aj k)<=1099511627776):af j 111 [N al (aj m),N al<|aj k] (N al<|aj<|m*k):=by have:=aje (aj m) (aj k) (eh m) (eh k) a b;rw[eN,eN,show ad ((m:Z)*(k:Z))=m*k by rw[<-fF];rfl]at this;exact this
def lL a b(i:Sm a)(k:Sm b):af j 37 [aZ a,aZ b] (aZ<|a*b):=by
 refine yT Tryz.func37 J J J J J A ?_;refine e J<|t ?_;refine rc J J (QF _ _ i k)<|rc J J (mr _ _)<|o J<|bc<|g8 a6 J<|a7.of_eq ?_;have l:sg (bK a !=bK b) (aq a*aq b)=a*b:=by have c:=xw a;have d:=xw b;generalize aq a=x at c⊢;generalize aq b=y at d⊢;cases f:bK a<;>cases g:bK b<;>rw[f]at c<;>rw[g]at d<;>simp only[sg,cA,cC,jQ]at c d<;>rw[<-c,<-d]<;>simp[sg]<;>grind
 exact aC aZ l
def zc a b(g:Sm a)(i:Sm b):af j 36 [aZ a,aZ b] (aZ<|a+b):=by
 refine aD Tryz.func36 ?_;refine e J<|L<|e J ?_;refine z J (λh=>?_)<|λh=>?_
 .have h:bK a=bK b:=by simpa using h
  refine t<|rc J J (QE _ _ g i)<|rc J J (mr _ _)<|o J<|bc<|bt<|c9 J ?_;have c:sg (bK a) (aq a+aq b)=a+b:=by unfold bK sg at*;by_cases d:a<0<;>by_cases h2:b<0<;>simp[d,h2]at h⊢<;>omega
  exact aC aZ c
 .have h:bK a≠bK b:=by simpa using h
  refine ai<|L<|aO J J (GK _ _) J ?_;refine z J (λh2=>?_)<|λh2=>?_
  .have h2:aq a<aq b:=by
    have h2:cX (aq a) (aq b)<0:=lj;unfold cX at h2;split at h2
    .omega
    .split at h2<;>omega
   refine t<|rc J J (KQ _ _ S i)<|rc J J (mr _ _)<|o J<|bc<|bt<|c9 J ?_;have c:sg (bK b) (aq b-aq a)=a+b:=by unfold bK sg at*;by_cases d:a<0<;>by_cases f:b<0<;>simp[d,f]at h⊢<;>omega
   exact aC aZ c
  .have h2:aq b<=aq a:=by
    have h2:¬cX (aq a) (aq b)<0:=lj;unfold cX at h2;split at h2
    .omega
    .omega
   refine ai<|t<|rc J J (KQ _ _ S g)<|rc J J (mr _ _)<|o J<|bq J ?_;have c:sg (bK a) (aq a-aq b)=a+b:=by unfold bK sg at*;by_cases d:a<0<;>by_cases f:b<0<;>simp[d,f]at h⊢<;>omega
   exact aC aZ c
def Yd(m k:I)(b:m<18446744073709551616)(c:k<18446744073709551616):af j 222 [cU m,cU k] (cU<|Nat.gcd m k):=by
 refine aD Tryz.func222 ?_;refine e J<|L<|q<|aK (α:=I×I) (λx=>⟨[(0,cU x.1),(1,cU x.2)],[],1,[]⟩) (λx=>Nat.gcd x.1 x.2=Nat.gcd m k/\x.1<18446744073709551616/\x.2<18446744073709551616) (λx=>x.2) (m,k) ⟨J,b,c⟩ aM ?_;rintro⟨x,y⟩ ⟨hg,hx,a⟩;simp only at hg hx a;refine L<|e J ?_;refine z J (λh=>?_)<|λh=>?_
 .have h:0<y:=by have:(y:Z)>0:=du;omega
  refine ai<|q<|e J<|e J<|rt J<|dy<|aA (y,x%y) ⟨?_,a,?_⟩ ?_<|wk ⟨sR J,sE J ?_,T⟩ T
  .rw[<-hg,zd x y,Nat.gcd_rec y x,zd]
  .exact jD (fg _ h)<|Cy a
  .exact fg _ h
  .have d:(x:Z).tmod (y:Z)=((x%y:I):Z):=by rw[oh S];omega
   exact bA d
 .have h:y=0:=by have:¬(y:Z)>0:=du;omega
  subst h;refine aN<|ay<|e J<|bq J ?_;rw[<-hg,GL]
def Ye m:Y (aj m) 0 0=((m%4294967296:I):Z):=by
 by_cases h:m=0
 .subst h;rfl
 .rw[wP h];rfl
def ajf m(a:m<18446744073709551616):Y (aj m) 1 0=((m/4294967296:I):Z):=by
 by_cases h:m=0
 .subst h;rfl
 .rw[wP h,Po,Ye];congr 1;omega
def GM m(a:m<18446744073709551616):af j 223 [N al (aj m)] (cU m):=by
 refine aD Tryz.func223 ?_;refine e J<|t ?_;refine rc J J (A0 _ 1<|eh m)<|rc J J (A0 _ 0<|eh m)<|o J<|bq J ?_;have b:ao .u64 (ao .u64 (Y (aj m) 1 0*4294967296)+Y (aj m) 0 0)=m:=by rw[Ye,ajf m a,wrap_u64 (((m/4294967296:I):Z)*4294967296) S S,wrap_u64 _ S S];omega
 exact bA b
def xx{m}(a:m<18446744073709551616):G (aj m)<=2:=Ak (S:(m:Z)<4294967296^2)
def ajg m k(a:m<18446744073709551616)(b:k<18446744073709551616):af j 151 [N al (aj m),N al<|aj k] (N al<|aj<|Nat.gcd m k):=by
 refine aD Tryz.func151 ?_;have i:=xx a;have l:=xx b;refine e J<|L<|q<|aK (α:=Unit) (λ_=>⟨[(0,N al<|aj m),(1,N al<|aj k)],[],1,[]⟩) (λ_=>True) (λ_=>0) () T aM ?_;rintro⟨⟩ _;refine L<|e J ?_;refine z J (λh=>?_)<|λh=>?_
 .refine ai<|q<|L<|t ?_;refine rg 13 J J (λf=>?_) (λf=>?_)
  .refine o J (z J (λg=>?_)<|λg=>?_)
   .refine t (rc J J (GM m a)<|rc J J (GM k b)<|rc J J (Yd m k a b)<|rc J J (AZ _ ?_)<|o J<|bc ?_)
    .by_cases c:m=0
     .rw[c,QG];exact b
     .exact s8 (Nat.gcd_le_left k S) a
    .repeat(first|refine bt ?_|refine eH ?_|refine gf ?_)
     exact atR J
   .simp at g;omega
  .simp at f;omega
 .have h:G (aj k)=0:=by have:¬(G (aj k):Z)>0:=du;omega
  have c:k=0:=GN λd=>by have:=mU.2 d;omega
  subst c;refine aN<|ay<|e J<|bq J ?_;rw[GL]
def QH a b(c:aq a<18446744073709551616)(d:aq b<18446744073709551616):af j 80 [aZ a,aZ b] (aZ<|fh a b):=by refine aD Tryz.func80 ?_;refine e J<|t ?_;refine rc J J (ajg _ _ c d)<|rc J J (mr ah _)<|o J<|bq J ?_;rfl
structure Dy(a:V Z)(d:Z)(x:I×V Z×Z):Prop where
 k:x.1<=a.length
 len:x.2.1.length=a.length
 r:bM x.2.1
 r0:0<=x.2.2
 r1:x.2.2<d
 v:val (a.drop x.1)=val (x.2.1.drop x.1)*d+x.2.2
def drop_cons(l:V Z) a(b:a<G l):aE a l=Y l a 0::aE (a+1) l:=by rw[lY b];simp[aF,bD b]
def KR{r a d:Z}(c:0<=r)(f:r<d)(g:0<=a)(i:a<4294967296)(k:d<4294967296):0<=r*4294967296+a/\r*4294967296+a<18446744073709551616/\0<=(r*4294967296+a)/d/\(r*4294967296+a)/d<4294967296/\0<=(r*4294967296+a)%d/\(r*4294967296+a)%d<d:=by have b:0<d:=S;refine⟨S,S,uh S S,?_,fS _ S,gA _ b⟩;apply CC b;have:(r+1)*4294967296<=d*4294967296:=iU S A;omega
def Dy.next{a}{d}{b}{i}{c}(f:Dy a d (b+1,i,c))(m:bM a)(n:d<4294967296):Dy a d (b,i.set b<|(c*4294967296+Y a b 0)/d,(c*4294967296+Y a b 0)%d):=by have g:=dp m b;have p:0<=c:=f.r0;have B:c<d:=f.r1;have l:=KR p B g.1 g.2 n;have F:b+1<=G a:=f.k;have C:G i=G a:=f.len;refine⟨by show b<=_;omega,by simp[C],yA f.r _ ⟨l.2.2.1,l.2.2.2.1⟩,l.2.2.2.2.1,l.2.2.2.2.2,?_⟩;have E:val (aE (b+1) a)=val (aE (b+1) i)*d+c:=f.v;simp only;rw[drop_cons a b S,drop_cons (i.set b _) b bP,ls _ _ _ _ S,s J,List.drop_set_of_lt S];simp only[val];rw[E];have:=oi (c*4294967296+Y a b 0) d;generalize (c*4294967296+Y a b 0)/d=x at*;generalize (c*4294967296+Y a b 0)%d=y at*;grind
def Yf a d(n:bM a)(i:0<d)(p:d<4294967296)(W:G a<=1099511627776):af Tryz.prog 224 [N al a,cU d] (.t [(ah,[.S al (aj<|ad<|val a/d)]),(ah,[.I .u64 (val a%d)])]):=by
 refine aD Tryz.func224 ?_;refine e J<|t ?_;refine rm al (G a) J J J J J J (kH .u32) J ?_ ?_ ?_
 .show _*4<=_;omega
 .show _*1<=_;omega
 refine o J<|e J<|L<|e J ?_;refine q<|aK (α:=I×V Z×Z) (λx=>⟨[(0,N al a),(1,cU d),(6,.c<|.X 1002000),(7,cU x.2.2),(8,D<|(x.1:Z)-1)],[(1002000,.vec 23 al x.2.1)],4,[]⟩) (Dy a d) (λx=>x.1) (G a,bh (G a) 0,0) ?_ ?_ ?_
 .exact⟨a8 _,ax,rh _,gk _,i,xy⟩
 .exact wk (aS J) ⟨bR J,T⟩
 .rintro⟨k,f,r⟩ b;have B:G f=G a:=b.len;have l:0<=r:=b.r0;have m:r<d:=b.r1;have u:k<=G a:=b.k;refine L<|e J ?_;refine z J (λh=>?_) (λh=>?_)
  .have h:(k:Z)-1>=0:=by simpa using h
   obtain⟨j,rfl⟩:∃j,k=j+1:=⟨k-1,S⟩;have C:ad (((j+1:I):Z)-1)=j:=S;have g:=dp n j;have K:=KR l m g.1 g.2 p;have E:=b.next n p;refine ai<|L<|q<|e J ?_;have F:ao .u64 (ao .u64 (r*4294967296)+ao .u64 (Y a (ad<|((j+1:I):Z)-1) 0))=r*4294967296+Y a j 0:=by rw[C,wrap_u64 (r*4294967296) S S,wrap_u64 (Y a j 0) S S,wrap_u64 _ S S]
   generalize ht:r*4294967296+Y a j 0=s at E K F;have P:ao .u32 (ao .u64<|s.tdiv d)=s/d:=by rw[zb S,wrap_u64 _ S S,wrap_u32 _ S S]
   have Q:s.tmod d=s%d:=oh S;refine dc (st':=⟨[(0,N al a),(1,cU d),(6,.c<|.X 1002000),(8,D<|((j+1:I):Z)-1),(9,cU s)],[(1002000,.vec 23 al f)],6,[]⟩) (wk ⟨sR J,sR J,sR J,sR J,sE J ?_,T⟩ ⟨bR J,T⟩) ?_
   .exact bA F
   refine e J<|rt J<|aT<|rt J<|aA (j,f.set j<|s/d,s%d) E ni<|wk ⟨sR J,sR J,sR J,sE J ?_,sE J ?_,T⟩ ⟨bE J ?_,T⟩
   .exact bA Q
   .refine gh ?_;show((j+1:I):Z)-1-1=(j:Z)-1;omega
   .rw[P,C]
  .have h:¬((k:Z)-1>=0):=by simpa using h
   have:k=0:=S;subst this;refine aN<|ay<|cD 1002000 J J J<|t ?_;refine rc J J (za _)<|o J<|bq J ?_;have H:val a=val f*d+r:=b.v;have R:bM f:=b.r;have eq:val a/d=val f:=by rw[H,vW,A5 _ _ S,Dz l m];omega
   have U:val a%d=r:=by rw[H,vW,QI,gT l m]
   rw[pn R,eq,U];rfl
def a7.t2{x f i}(b:a7 (.c x) (.c f)):a7 (.t [(ah,[x]),(ah,[i])]) (.t [(ah,[f]),(ah,[i])]):=by
 refine⟨?_,?_⟩
 .rintro g v ⟨vs,rfl,v1,r,rfl,k,d⟩;exact⟨_,J,v1,r,J,b.1 g v1 k,d⟩
 .intro l a;have d:=b.2 l;simp only[AV.ar,fN,cy,iW,b8]at a d⊢;exact a.elim (λb=> .inl<|d b) .inr
def Yg m k(a:k≠0)(d:m<k\/k<4294967296)(g:G (aj m)<=1099511627776):af j 152 [N al (aj m),N al<|aj k] (.t [(ah,[.S al (aj<|m/k)]),(ah,[.S al (aj<|m%k)])]):=by
 refine aD Tryz.func152 ?_;refine e J<|L<|aO J J (GK m k) J ?_;refine z J (λh2=>?_)<|λh2=>?_
 .have h2:m<k:=by
   have h2:cX m k<0:=lj;unfold cX at h2;split at h2
   .omega
   .split at h2<;>omega
  refine e J<|bc<|bt<|g8 a6 J ?_;rw[A6 h2,nK h2];exact a7.t2<|a7.nil al
 .have h2:¬m<k:=by have h2:¬cX m k<0:=lj;unfold cX at h2;split at h2<;>omega
  have i:k<4294967296:=d.resolve_left h2;have l:aj k=[(k:Z)]:=by rw[wP a,(S:k%4294967296=k),(S:k/4294967296=0)];rfl
  refine ai<|L<|e J ?_;rw[l];refine z J (λb=>?_) (λb=>by simp at b);refine t ?_;have n:ao .u64 (k:Z)=k:=wrap_u64 _ S S;refine rc J J (f:=224) (r:= .t [(ah,[.S al (aj<|m/k)]),(ah,[.I .u64 ((m%k:I):Z)])]) ?_ ?_
  .have:=Yf (aj m) k (eh m) S S g;rw[eN,show ad ((m:Z)/(k:Z))=m/k from J,show(m:Z)%(k:Z)=((m%k:I):Z)from J]at this;rw[show(AV.c (num .u64<|[(k:Z)].getD (ad (0:Z)) 0).1)=cU (k:Z)from bA n];exact this
  refine o J<|aO J J (AZ _ ?_) J<|bc<|bt<|atR J;have:=fg m<|oj a;omega
def QJ a B(b:0<B):(aq a:Z)=((aq a%B:I):Z)+(B:Z)*((aq a/B:I):Z)/\aq a%B<B:=by refine⟨?_,fg _ b⟩;have:=Nat.mod_add_div (aq a) B;rw[<-fF,<-uG,this]
def QK{a}{B:I}(b:0<B)(c:¬a<0):a/(B:Z)=((aq a/B:I):Z)/\a%(B:Z)=((aq a%B:I):Z):=by let ⟨d,h2⟩:=QJ a B b;exact(QL S).2 ⟨S,S,S⟩
def QM{a}{B}(b:0<B)(f:a<0)(c:aq a%B=0):a/(B:Z)= -((aq a/B:I):Z)/\a%(B:Z)=0:=by let ⟨d,h2⟩:=QJ a B b;refine(QL S).2 ⟨?_,S,S⟩;rw[c]at d;rw[Int.mul_neg];omega
def QN{a}{B}(b:0<B)(c:a<0)(d:aq a%B≠0):a/(B:Z)= -((aq a/B+1:I):Z)/\a%(B:Z)=((B-aq a%B:I):Z):=by let ⟨f,h2⟩:=QJ a B b;refine(QL S).2 ⟨?_,S,S⟩;rw[Int.mul_neg,uG,nc];omega
def xA a b(g r:I)(c:a/(aq b:Z)=sg (bK a) g)(d:a%(aq b:Z)=r):a/b=sg (bK a !=bK b) g/\a%b=sg ah r:=by
 by_cases i:b<0
 .have e:b= -(aq b:Z):=by omega
  have f:bK b=ae:=by simp[bK,i]
  rw[e,A7,Int.emod_neg,<-e,c,d,f];refine⟨?_,J⟩;unfold sg;cases bK a<;>simp
 .have e:b=(aq b:Z):=by omega
  have f:bK b=ah:=by simp[bK,i]
  rw[<-e]at c d;rw[c,d,f];refine⟨?_,J⟩;cases bK a<;>rfl
def GO a b(n:b≠0)(m:aq a<aq b\/aq b<4294967296)(l:Sm a)(i:Sm b):af j 81 [aZ a,aZ b] (.t [(ae,av .z<|a/b),(ae,av .z<|a%b),(ah,[.I .i64 0])]):=by
 refine aD Tryz.func81 ?_;refine e J<|L<|e J ?_;have c:aq b≠0:=S;refine z J (λh2=>?_)<|λh2=>?_
 .exfalso;have h2:(G (de b):Z)=0:=lj;have:=mU.2 c;unfold de at h2;omega
 .refine ai<|aO J J (Yg _ _ c m l) J<|L<|t ?_;refine rg 25 J J (λh3=>?_) (λh3=>?_)
  .have h3:a<0:=by simpa[bK]using h3
   refine o J<|z J (λh4=>?_)<|λh4=>?_
   .have h4:aq a%aq b≠0:=by have h4:(G (aj<|aq a%aq b):Z)>0:=xB;exact mU.1 S
    let ⟨e1,d⟩:=QN (oj c) h3 h4;have hz:bK a=ae:=xC;let ⟨f,g⟩:=xA a b (aq a/aq b+1) (aq b-aq a%aq b) xD d;have p:aq a%aq b<aq b:=fg _<|oj c;refine t<|rl al [_] J J (rc J J (QE (aq a/aq b) 1 ?_ A)<|o J<|bs<|rc J J (KQ (aq b) _ S i)<|o J<|ay<|t ?_)
    .exact cQ (rJ<|A8 _ _) l
    refine rc J J (mr _ _)<|rc J J (mr _ _)<|o J<|bq J ?_;rw[f,g];rfl
   .have h4:aq a%aq b=0:=by have h4:¬(G (aj<|aq a%aq b):Z)>0:=xB;exact GN λk=>by have:=mU.2 k;omega
    let ⟨e1,d⟩:=QM (oj c) h3 h4;have hz:bK a=ae:=xC;let ⟨f,g⟩:=xA a b (aq a/aq b) (aq a%aq b) xD (by rw[d,h4];rfl);refine ai<|t<|rc J J (mr _ _)<|rc J J (mr _ _)<|o J<|bq J ?_;rw[f,g];rfl
  .have h3:¬a<0:=by simpa[bK]using h3
   refine o J<|z J (λh4=>by simp at h4)<|λh4=>?_;let ⟨e1,d⟩:=QK (oj c) h3;have hz:bK a=ah:=xC;let ⟨f,g⟩:=xA a b (aq a/aq b) (aq a%aq b) xD d;refine ai<|t<|rc J J (mr _ _)<|rc J J (mr _ _)<|o J<|bq J ?_;rw[f,g];rfl
def rK:I->Z->Z->Z->Z->Z->Z
 |0,a,_,_,_,_=>a
 |f+1,a,r,v1,v2,u2=>if a>=4294967296\/a*v2>r*4294967296+u2 then(if r+v1>=4294967296 then a-1 else rK f (a-1) (r+v1) v1 v2 u2)else a
def KS{E c g F v n k H l:Z}(b:Kn1 E c g F v n k H l):∀(f:I)(a r:Z),n=a*c+r->0<=r->r<4294967296->4294967296<=r+f*2147483648->l/v<=a->l/v<=rK f a r c g k/\rK f a r c g k<=l/v+1/\rK f a r c g k<4294967296
 |0,a,r,_,_,h2,P,_=>by omega
 |f+1,a,r,ht,R,h2,P,Q=>by
  have q0:=b.q0;have CB:=b.CB;have C:=b.nD;rw[rK];split
  .rename_i d;have K:l/v<a:=by
    rcases d with d|d
    .omega
    .exact b.down ht S d
   have i:n=(a-1)*c+(r+c):=by rw[An,j7];omega
   split
   .rename_i x;have B:=b.agU i x;have d:a-1-1<=l/v:=b.close i S B (by have U:(a-1)*g<=4294967296*4294967296:=wQ S (by have:=b.Wq;omega) b.Fy A;have:=b.po;omega);exact⟨S,S,B⟩
   .rename_i x;exact KS b f (a-1) (r+c) i S S S S
  .rename_i d;have m:a<4294967296:=by
    by_cases e:a<4294967296
    .exact e
    .exact absurd (.inl S) d
   have p:a*g<=r*4294967296+k:=by
    by_cases e:a*g<=r*4294967296+k
    .exact e
    .exact absurd (.inr S) d
   have:=b.close ht S m p;exact⟨Q,S,m⟩
def DA{a b:Z}(c:0<=a):a.tdiv b=a/b:=zb c
def GP{a b:Z}(c:0<=a):a.tmod b=a%b:=oh c
def ajh U v a n(H:bM U)(hv:bM v)(hn:G v=n+2)(hj:a+n+3<=G U)(hl:G U<=1099511627777){v' u' u}
  (K:Kn1 (4294967296^n) (Y v (n+1) 0) (Y v n 0) v' (val v) (Y U (a+(n+2)) 0*4294967296+Y U (a+(n+1)) 0) (Y U (a+n) 0) u' u):
  mR j 225 [.c (.W 0 a<|n+3),N al v] 23 al U (cU<|rK 2 ((Y U (a+(n+2)) 0*4294967296+Y U (a+(n+1)) 0)/Y v (n+1) 0) ((Y U (a+(n+2)) 0*4294967296+Y U (a+(n+1)) 0)%Y v (n+1) 0) (Y v (n+1) 0) (Y v n 0)<|Y U (a+n) 0) U:=by
 refine pB Tryz.func225 J J J J J A ?_
 have g1:=dp H<|a+(n+2)
 have g2:=dp H<|a+(n+1)
 have g3:=dp H<|a+n
 have k1:=dp hv<|n+1
 have k2:=dp hv n
 have nD:=K.nD
 have a1:ad ((G v:Z))=n+2:=S
 have a2:ad ((G v:Z)-1)=n+1:=S
 have a3:ad ((G v:Z)-2)=n:=S
 generalize hQ:rK 2 ((Y U (a+(n+2)) 0*4294967296+Y U (a+(n+1)) 0)/Y v (n+1) 0) ((Y U (a+(n+2)) 0*4294967296+Y U (a+(n+1)) 0)%Y v (n+1) 0) (Y v (n+1) 0) (Y v n 0) (Y U (a+n) 0)=Q0
 refine e J<|e J<|e J (hp:=iM) ?_
 rw[a1,a2]
 have e6:ao .u64 (ao .u64 (ao .u64 (Y U (a+(n+2)) 0)*4294967296)+ao .u64 (Y U (a+(n+1)) 0))=Y U (a+(n+2)) 0*4294967296+Y U (a+(n+1)) 0:=by rw[wrap_u64 (Y U (a+(n+2)) 0) S S,wrap_u64 (Y U (a+(n+1)) 0) S S,wrap_u64 (_*_) S S,wrap_u64 _ S S]
 have P:ao .u64 (Y v (n+1) 0)=Y v (n+1) 0:=wrap_u64 _ S S
 have Q:ao .u64 (Y v n 0)=Y v n 0:=wrap_u64 _ S S
 have R:ao .u64 (Y U (a+n) 0)=Y U (a+n) 0:=wrap_u64 _ S S
 have i:0<=Y U (a+(n+2)) 0*4294967296+Y U (a+(n+1)) 0:=S
 have ht1:Y U (a+(n+2)) 0*4294967296+Y U (a+(n+1)) 0<18446744073709551616:=S
 have X:=@Kn1.small _ _ _ _ _ _ _ _ _ K
 have dC:=@KS _ _ _ _ _ _ _ _ _ K
 have w:=K.first
 generalize Y U (a+(n+2)) 0*4294967296+Y U (a+(n+1)) 0=t at*
 generalize l:Y v (n+1) 0=v1 at*
 generalize m:Y v n 0=v2 at*
 generalize p:Y U (a+n) 0=u2 at*
 have B:ao .u64 (Y v (ad<|(G v:Z)-1) 0)=v1:=by rw[a2,l];exact P
 have x2:ao .u64 (Y v (ad<|(G v:Z)-2) 0)=v2:=by rw[a3,m];exact Q
 have x3:ao .u64 (Y U (a+ad ((G v:Z)-2)) 0)=u2:=by rw[a3,p];exact R
 have y:0<=t/v1:=uh i S
 have O:0<=t%v1:=fS _ S
 have ze:t%v1<v1:=gA _ S
 have fc:=oi t v1
 refine dc (st':=⟨[(0,.c<|.W 0 a<|n+3),(1,N al v),(5,D<|G v),(6,cU t)],[(0,.vec 23 al U)],4,[]⟩) (wk ⟨sR J,sR J,sR J,⟨_,J,a7.of_eq<|bA e6⟩,T⟩ ⟨bR J,T⟩) ?_
 have hp1:((-9223372036854775808<=(G v:Z)-1/\(G v:Z)-1<=9223372036854775807)/\0<=(G v:Z)-1/\(G v:Z)-1<(G v:Z))/\ao .u64 (Y v (ad<|(G v:Z)-1) 0)≠0:=by rw[B];omega
 refine e J (hp:=Yh)<|e J (hp:=Yh) ?_
 refine L<|vL<|aK (α:=I×Z×Z) (λx=>⟨[(0,.c<|.W 0 a<|n+3),(1,N al v),(5,D<|G v),(6,cU t),(7,cU x.2.1),(8,cU x.2.2)],[(0,.vec 23 al U)],6,[]⟩) (λx=>rK x.1 x.2.1 x.2.2 v1 v2 u2=Q0/\t=x.2.1*v1+x.2.2/\0<=x.2.2/\x.2.2<4294967296/\4294967296<=x.2.2+x.1*2147483648/\u/val v<=x.2.1) (λx=>x.1) (2,t/v1,t%v1) ⟨hQ,by show t=t/v1*v1+t%v1;rw[ew];omega,O,(S:t%v1<4294967296),QO,w⟩ (wk ⟨sR J,sR J,sR J,sR J,sE J ?_,sE J ?_,T⟩ ⟨bR J,T⟩) ?_
 .refine bA ?_;show ao .u64 (t.tdiv<|ao .u64<|Y v (ad<|(G v:Z)-1) 0)=t/v1;have:=KT v1 i;rw[B,DA i,wrap_u64 _ y S]
 .refine bA ?_;show(t.tmod<|ao .u64<|Y v (ad<|(G v:Z)-1) 0)=t%v1;rw[B,GP i]
 .rintro⟨f,q,r⟩ ⟨g,h2,h3,h4,h5,h6⟩;simp only at g h2 h3 h4 h5 h6;have uH:=K.q0;have hqs:=X h2 h3;cases f with
  |zero=>omega
  |succ f=>
  rw[rK]at g;have C:0<=q*v2/\q*v2<18446744073709551616:=by refine⟨jm S S,?_⟩;have:q*v2<=4294967297*4294967295:=wQ S S S A;omega
  refine L<|rb<|rg 42 J J (λh=>?_)<|λh=>?_
  .have E:q>=4294967296:=by simpa using h
   have d:q>=4294967296\/q*v2>r*4294967296+u2:= .inl E;refine o J (z J (λ_=>?_)<|λb=>by cases b);have V:u/val v<q:=by
    rcases d with d|d
    .have:=K.CB;omega
    .exact K.down h2 S d
   have F:ao .u64 (q-1)=q-1:=wrap_u64 _ S S;have w2:ao .u64 (r+ao .u64 (Y v (ad<|(G v:Z)-1) 0))=r+v1:=by rw[B,wrap_u64 _ S S]
   refine ai<|vL<|e J<|e J (hp:=iM)<|e J<|z J (λb=>?_)<|λb=>?_
   .have b:r+v1>=4294967296:=by
     have b:4294967296<=ao .u64 (r+ao .u64 (Y v (ad<|(G v:Z)-1) 0)):=by simpa using b
     omega
    rw[s d,s b]at g;refine jS<|Gc<|kF<|jT<|ay<|e J<|bc<|s7 a6 J (a7.of_eq ?_) J;refine bA ?_;rw[<-g];exact F
   .have b:¬r+v1>=4294967296:=by
     have b:ao .u64 (r+ao .u64 (Y v (ad<|(G v:Z)-1) 0))<4294967296:=by simpa using b
     omega
    rw[s d,M b]at g;refine bN<|dy<|aA (f,q-1,r+v1) ⟨g,KU,KV,KW,KX,KY⟩ (di f)<|wk ⟨sR J,sR J,sR J,sR J,⟨_,J,a7.of_eq<|bA F⟩,⟨_,J,a7.of_eq<|bA w2⟩,T⟩ ⟨bR J,T⟩
  .have E:¬q>=4294967296:=by have:q<4294967296:=du;omega
   have w3:ao .u64 (q*ao .u64 (Y v (ad<|(G v:Z)-2) 0))=q*v2:=by rw[x2,wrap_u64 _ C.1 C.2]
   have w4:ao .u64 (ao .u64 (r*4294967296)+ao .u64 (Y U (a+ad ((G v:Z)-2)) 0))=r*4294967296+u2:=by rw[x3,wrap_u64 (r*4294967296) S S,wrap_u64 _ S S]
   refine o J (hp:=iM)<|z J (λk=>?_)<|λk=>?_
   .have d:q>=4294967296\/q*v2>r*4294967296+u2:= .inr (by
     have k:ao .u64 (q*ao .u64 (Y v (ad<|(G v:Z)-2) 0))>ao .u64 (ao .u64 (r*4294967296)+ao .u64 (Y U (a+ad ((G v:Z)-2)) 0)):=by simpa using k
     rw[w3,w4]at k;exact k)
    have V:u/val v<q:=by
     rcases d with d|d
     .have:=K.CB;omega
     .exact K.down h2 S d
    have F:ao .u64 (q-1)=q-1:=wrap_u64 _ S S;have w2:ao .u64 (r+ao .u64 (Y v (ad<|(G v:Z)-1) 0))=r+v1:=by rw[B,wrap_u64 _ S S]
    refine ai<|vL<|e J<|e J (hp:=iM)<|e J<|z J (λb=>?_)<|λb=>?_
    .have b:r+v1>=4294967296:=by
      have b:4294967296<=ao .u64 (r+ao .u64 (Y v (ad<|(G v:Z)-1) 0)):=by simpa using b
      omega
     rw[s d,s b]at g;refine jS<|Gc<|kF<|jT<|ay<|e J<|bc<|s7 a6 J (a7.of_eq ?_) J;refine bA ?_;rw[<-g];exact F
    .have b:¬r+v1>=4294967296:=by
      have b:ao .u64 (r+ao .u64 (Y v (ad<|(G v:Z)-1) 0))<4294967296:=by simpa using b
      omega
     rw[s d,M b]at g;refine bN<|dy<|aA (f,q-1,r+v1) ⟨g,KU,KV,KW,KX,KY⟩ (di f)<|wk ⟨sR J,sR J,sR J,sR J,⟨_,J,a7.of_eq<|bA F⟩,⟨_,J,a7.of_eq<|bA w2⟩,T⟩ ⟨bR J,T⟩
   .have d:¬(q>=4294967296\/q*v2>r*4294967296+u2):=by
     have k:¬ao .u64 (q*ao .u64 (Y v (ad<|(G v:Z)-2) 0))>ao .u64 (ao .u64 (r*4294967296)+ao .u64 (Y U (a+ad ((G v:Z)-2)) 0)):=by simpa using k
     rw[w3,w4]at k;omega
    rw[M d]at g;subst g;exact aN<|ay<|e J<|bc<|s7 a6 J (a7.refl _) J
def bV:I->Z->V Z
 |0,_=>[]
 |n+1,x=>x%4294967296::bV n (x/4294967296)
def s':∀(n:I)(x:Z),G (bV n x)=n
 |0,_=>rfl
 |n+1,x=>by rw[bV,fu,s' n]
def GQ:∀(n:I)(x:Z),bM (bV n x)
 |0,_=>Pl
 |n+1,x=>yy.2 ⟨⟨fS _ A,gA _ A⟩,GQ n _⟩
def pC n:(4294967296:Z)^(n+1)=4294967296^n*4294967296:=dK _ _
def KZ(x:Z) n:x/4294967296^(n+1)=x/4294967296^n/4294967296:=by rw[pC,ajl<|by have:=kE n;omega]
def Yi(x:Z) n:x/4294967296^(n+1)=x/4294967296/4294967296^n:=by rw[pC,ew,ajl A]
def QP(x:Z) n:x%4294967296^(n+1)=x%4294967296+4294967296*(x/4294967296%4294967296^n):=by
 have f:=oi x<|4294967296^(n+1);have g:=oi x 4294967296;have i:=oi (x/4294967296)<|4294967296^n;rw[Yi,pC]at f;rw[pC];generalize x/4294967296/4294967296^n=a at*;generalize x/4294967296%4294967296^n=b at*;generalize x/4294967296=c at*;have e:4294967296^n*4294967296*a=4294967296*(4294967296^n*a):=by rw[ew (4294967296^n) 4294967296,jb]
 rw[e]at f;generalize (4294967296:Z)^n*a=d at*;omega
def GR:∀(n:I)(x:Z),val (bV n x)=x%4294967296^n
 |0,x=>by rw[oQ,Int.emod_one];rfl
 |n+1,x=>by rw[bV,val,GR n,QP]
def DB:∀(n:I)(x:Z),bV (n+1) x=bV n x++[x/4294967296^n%4294967296]
 |0,x=>by rw[oQ,uI];rfl
 |n+1,x=>by rw[bV,DB n,bV,Yi];rfl
def K0:∀(n:I)(x a:Z),x%4294967296^n=a%4294967296^n->bV n x=bV n a
 |0,_,_,_=>rfl
 |n+1,x,a,b=>by rw[QP,QP]at b;rw[bV,bV,K0 n (x/4294967296) (a/4294967296) S,(S:x%4294967296=a%4294967296)]
def QQ n x a:bV n (x+a*4294967296^n)=bV n x:=K0 n _ _<|QI _ _ _
def Yj:∀{a:V Z},bM a->bV (G a) (val a)=a
 |[],_=>rfl
 |b::a,c=>by let ⟨d,h2⟩:=yy.1 c;rw[fu,bV,val];rw[(S:(b+4294967296*val a)%4294967296=b),(S:(b+4294967296*val a)/4294967296=val a),Yj h2]
def cZ(U:V Z)(a:I)(b:V Z):V Z:=y a U++(b++aE (a+G b) U)
def K1 U a:cZ U a []=U:=by simp[cZ]
def xE{U}{j}{ws}(a:j+G ws<=G U):G (cZ U j ws)=G U:=by simp[cZ];omega
def K2{U}{j}{ws}(b:j+G ws<=G U):Y (cZ U j ws) (j+G ws) 0=Y U (j+G ws) 0:=by unfold cZ;have a:(y j U).length=j:=bP;rw[aF,vF S,a,vF S,rA,aF];congr 2;omega
def K3{U}{j}{ws}a(b:j+G ws<G U):(cZ U j ws).set (j+G ws) a=cZ U j (ws++[a]):=by unfold cZ;have c:(y j U).length=j:=bP;rw[oR _ _ S,c,oR _ _ S,(S:j+G ws-j-G ws=0)];rw[lY b,A9,jR,fO];rfl
def QR{U}{c}{a}(b:bM U)(d:bM a):bM (cZ U c a):=Pm (j5 b _)<|Pm d<|yz b _
def QT{U}{a}{b}(c:a+G b<=G U):aE a (cZ U a b)=b++aE (a+G b) U:=by unfold cZ;have d:(y a U).length=a:=bP;rw[Av S,wX S,sV]
def Yk{U}{a}{b}(c:a+G b<=G U):y a (cZ U a b)=y a U:=by unfold cZ;have d:(y a U).length=a:=bP;rw[yM S,iI S]
def QU(U:V Z) a i:(aE a U).getD i 0=Y U (a+i) 0:=by rw[aF,rA,aF]
def Yl U v a i d{k c b}(n:k=val ((aE a U).take i)-d*val (y i v))(r:k/4294967296^i= -(c+b)):
  (let p:=d*List.getD v i 0+c
   let f:=4294967296+List.getD U (a+i) 0-p%4294967296-b
   let g:=val ((aE a U).take<|i+1)-d*val (List.take (i+1) v)
   bV (i+1) g=bV i k++[f%4294967296]/\g/4294967296^(i+1)= -(p/4294967296+(1-f/4294967296))):=by
 intro p f g
 have l:g=k+(Y U (a+i) 0-d*Y v i 0)*4294967296^i:=by show val ((aE a U).take<|i+1)-d*val (y (i+1) v)=_;rw[lH,lH,QU,n,nc,An,jb];omega
 have m:g/4294967296^i= -(c+b)+(Y U (a+i) 0-d*Y v i 0):=by rw[l,A5 _ _ (by have:=kE i;omega),r]
 have x:p=d*Y v i 0+c:=rfl
 have B:f=4294967296+Y U (a+i) 0-p%4294967296-b:=rfl
 clear_value p f
 refine⟨?_,?_⟩
 .rw[DB,l,QQ,<-l,m];congr 2;omega
 .rw[KZ,m];omega
def Ym U v a i{f c}(l:f=val ((aE a U).take i)+val (y i v))(m:f/4294967296^i=c):
  (let b:=List.getD U (a+i) 0+List.getD v i 0+c
   let d:=val ((aE a U).take<|i+1)+val (List.take (i+1) v)
   bV (i+1) d=bV i f++[b%4294967296]/\d/4294967296^(i+1)=b/4294967296):=by
 intro b d
 have g:d=f+(Y U (a+i) 0+Y v i 0)*4294967296^i:=by show val ((aE a U).take<|i+1)+val (y (i+1) v)=_;rw[lH,lH,QU,l,nb];omega
 have k:d/4294967296^i=c+(Y U (a+i) 0+Y v i 0):=by rw[g,A5 _ _ (by have:=kE i;omega),m]
 have n:b=Y U (a+i) 0+Y v i 0+c:=rfl
 clear_value b
 refine⟨?_,?_⟩
 .rw[DB,g,QQ,<-g,k];congr 2;omega
 .rw[KZ,k];omega
def Yn{v}(c:bM v){a}(b:0<=a)(k:a<4294967296) i:0<=a*val (y i v)/4294967296^i/\a*val (y i v)/4294967296^i<4294967296:=by have d:=mN<|j5 c i;have l:=nC<|j5 c i;have p:=ug (m:=(y i v).length) (n:=i) bP;have f:=kE i;have g:0<=a*val (y i v):=jm b d;refine⟨uh g S,CC f ?_⟩;have r:a*val (y i v)<=4294967296*val (y i v):=iU S d;have x:4294967296*val (y i v)<4294967296*4294967296^i:=Int.mul_lt_mul_of_pos_left S A;omega
def Yo{v}{q c}i(a:c=q*val (y i v)/4294967296^i):q*val (y (i+1) v)/4294967296^(i+1)=(q*Y v i 0+c)/4294967296:=by rw[KZ,lH,nc,<-jb,A5 _ _ (by have:=kE i;omega),a,vW]
def ajm{v}(d:bM v){b}(c:0<=b)(i:b<4294967296){a}(k:G v<a):b*val (y a v)/4294967296^a=0:=by
 rw[na v a S];have f:=mN d;have l:=nC d;have p:=ug (m:=G v) (n:=a-1) S;have g:(4294967296:Z)^a=4294967296^(a-1)*4294967296:=by rw[<-pC];congr 1;omega
 have r:b*val v<=4294967296*val v:=iU S f;exact Dz (jm c f) (by rw[g];omega)
def ajn U v a f d(hU:bM U)(H:bM v)(hj:a+f<=G U)(hL:G v<f)(g:0<=d)(P:d<4294967296)(hl:G U<=1099511627777):
  mR j 226 [.c (.W 0 a f),N al v,cU d] 23 al U (cB<|decide<|val ((aE a U).take f)-d*val v<0) (cZ U a<|bV f<|val ((aE a U).take f)-d*val v):=by
 refine pB Tryz.func226 J J J J J A ?_
 refine e J<|e J<|e J<|L<|e J ?_
 refine q<|aK (α:=I×Z×Z) (λx=>⟨[(0,.c<|.W 0 a f),(1,N al v),(2,cU d),(7,cU x.2.1),(8,cU x.2.2),(9,D x.1)],[(0,.vec 23 al<|cZ U a<|bV x.1<|val ((aE a U).take x.1)-d*val (y x.1 v))],5,[]⟩) (λx=>x.1<=f/\(val ((aE a U).take x.1)-d*val (y x.1 v))/4294967296^x.1= -(x.2.1+x.2.2)/\x.2.1=d*val (y x.1 v)/4294967296^x.1/\(x.2.2=0\/x.2.2=1)) (λx=>f-x.1) (0,0,0) ⟨aW _,xy,xy,.inl J⟩ (wk (aS J) ⟨bE J ?_,T⟩) ?_
 .exact aC (aH.vec 23 al) (K1 U a).symm
 rintro⟨i,c,b⟩ ⟨o,h2,k,l⟩
 simp only at o h2 k l
 have s:=Yn H g P i
 rw[<-k]at s
 refine L<|e J ?_
 refine z J (λh=>?_)<|λh=>?_
 .have h:i<f:=by simpa using h
  have u:=dp H i;have gu:=dp hU<|a+i;have hm:0<=d*Y v i 0/\d*Y v i 0<=18446744065119617025:=GI g S u.1 S;have m:=Yl U v a i d (c:=c) (b:=b) J h2;have K:=Yo (v:=v) (q:=d) i k;simp only at m;let ⟨s1,s2⟩:=m;have n:G (bV i<|val ((aE a U).take i)-d*val (y i v))=i:=s' _ _;have M:=xE (U:=U) (j:=a) (ws:=bV i<|val ((aE a U).take i)-d*val (y i v)) S;have r:=K2 (U:=U) (j:=a) (ws:=bV i<|val ((aE a U).take i)-d*val (y i v)) S;have B:=λw=>K3 (U:=U) (j:=a) (ws:=bV i<|val ((aE a U).take i)-d*val (y i v)) w S
  rw[n]at r B;refine ai<|L<|q<|aO J J (A0 v i H) J ?_;have O:ao .u64 (ao .u64 (d*Y v i 0)+c)=d*Y v i 0+c:=by rw[wrap_u64 (d*Y v i 0) S S,wrap_u64 _ S S]
  generalize Q:d*Y v i 0+c=p at*;have C:0<=p/\p<18446744073709551616:=S;refine dc (st':=⟨[(0,.c<|.W 0 a f),(1,N al v),(2,cU d),(8,cU b),(9,D i),(10,cU p)],[(0,.vec 23 al<|cZ U a<|bV i<|val ((aE a U).take i)-d*val (y i v))],7,[]⟩) (wk ⟨sR J,sR J,sR J,sR J,sR J,⟨_,J,a7.of_eq<|bA O⟩,T⟩ ⟨bR J,T⟩) ?_;generalize hX:cZ U a (bV i<|val ((aE a U).take i)-d*val (y i v))=X at*;refine e J<|e J (hp:=iM) ?_;have R:ad (i:Z)=i:=aV i;have V:ao .u64 (p.tdiv 4294967296)=p/4294967296:=by rw[DA C.1,wrap_u64 _ S S]
  have w3:ao .u64 (ao .u64 (ao .u64 (4294967296+ao .u64 (X.getD (a+ad (i:Z)) 0))-p.tmod 4294967296)-b)=4294967296+Y U (a+i) 0-p%4294967296-b:=by rw[R,r,GP C.1,wrap_u64 (Y U (a+i) 0) S S,wrap_u64 (4294967296+_) S S,wrap_u64 (_-p%4294967296) S S,wrap_u64 _ S S]
  generalize ht:4294967296+Y U (a+i) 0-p%4294967296-b=t at*;have E:0<=t/\t<8589934592:=S;refine dc (st':=⟨[(0,.c<|.W 0 a f),(1,N al v),(2,cU d),(7,cU<|p/4294967296),(9,D i),(11,cU t)],[(0,.vec 23 al X)],9,[]⟩) (wk ⟨sR J,sR J,sR J,⟨_,J,a7.of_eq<|bA V⟩,sR J,⟨_,J,a7.of_eq<|bA w3⟩,T⟩ ⟨bR J,T⟩) ?_;refine e J (hp:=iM)<|rt J ?_;refine aT<|rt J<|aA (i+1,p/4294967296,1-t/4294967296) ⟨h,s2,K.symm,(S:1-t/4294967296=0\/1-t/4294967296=1)⟩ (S:f-(i+1)<f-i)<|wk ⟨sR J,sR J,sR J,sR J,sE J ?_,sE J ?_,T⟩ ⟨bE J ?_,T⟩
  .refine bA ?_;show ao .u64 (1-ao .u64 (t.tdiv 4294967296))=1-t/4294967296;rw[DA E.1,wrap_u64 (t/4294967296) S S,wrap_u64 _ S S]
  .exact aC D S
  .refine aC (aH.vec 23 al) ?_;show X.set (a+ad (i:Z)) (ao .u32<|t.tmod 4294967296)=cZ U a (bV (i+1) _);rw[s1,R,GP E.1,wrap_u32 _ S S,B]
 .have h:¬i<f:=by simpa using h
  have bZ:i=f:=S;subst bZ;rw[ajm H g P hL]at k;rw[na v i S]at h2⊢;refine aN<|ay<|e J<|bc<|s7 a6 J (a7.of_eq ?_) J;refine aC cB ?_;show(b==1)=_;have Q:=kE i;rcases l with l|l
  .subst l k;have:0<=val ((aE a U).take i)-d*val v:=by have F:=oi (val ((aE a U).take i)-d*val v)<|4294967296^i;have h6:=fS (val ((aE a U).take i)-d*val v) (S:(4294967296:Z)^i≠0);rw[h2]at F;simp at F;omega
   rw[iX S];rfl
  .subst l k;have:val ((aE a U).take i)-d*val v<0:=by have F:=oi (val ((aE a U).take i)-d*val v)<|4294967296^i;have h6:=gA (val ((aE a U).take i)-d*val v) Q;rw[h2]at F;simp at F;omega
   rw[jU S];rfl
def ajo U v a b(r:bM U)(n:bM v)(P:a+b<=G U)(Q:G v<=b)(R:G U<=1099511627777):
  mR j 227 [.c (.W 0 a b),N al v] 23 al U (.t []) (cZ U a<|bV b<|val ((aE a U).take b)+val v):=by
 refine pB Tryz.func227 J J J J J A ?_
 refine e J<|e J ?_
 refine q<|aK (α:=I×Z) (λx=>⟨[(0,.c<|.W 0 a b),(1,N al v),(4,cU x.2),(5,D x.1)],[(0,.vec 23 al<|cZ U a<|bV x.1<|val ((aE a U).take x.1)+val (y x.1 v))],3,[]⟩) (λx=>x.1<=b/\(val ((aE a U).take x.1)+val (y x.1 v))/4294967296^x.1=x.2/\(x.2=0\/x.2=1)) (λx=>b-x.1) (0,0) ⟨aW _,xy,.inl J⟩ (wk (aS J) ⟨bE J ?_,T⟩) ?_
 .exact aC (aH.vec 23 al) (K1 U a).symm
 rintro⟨i,c⟩ ⟨B,h2,C⟩
 simp only at B h2 C
 refine L<|e J ?_
 refine z J (λh=>?_)<|λh=>?_
 .have h:i<b:=by simpa using h
  have K:=dp n i;have s:=dp r<|a+i;have f:=Ym U v a i (c:=c) J h2;simp only at f;let ⟨s1,s2⟩:=f;have g:G (bV i<|val ((aE a U).take i)+val (y i v))=i:=s' _ _;have E:=xE (U:=U) (j:=a) (ws:=bV i<|val ((aE a U).take i)+val (y i v)) S;have k:=K2 (U:=U) (j:=a) (ws:=bV i<|val ((aE a U).take i)+val (y i v)) S;have l:=λw=>K3 (U:=U) (j:=a) (ws:=bV i<|val ((aE a U).take i)+val (y i v)) w S
  rw[g]at k l;generalize u:cZ U a (bV i<|val ((aE a U).take i)+val (y i v))=X at*;have p:ad (i:Z)=i:=aV i;refine ai<|L<|q<|t<|rc J J (A0 v i n) (hp:=iM)<|o J ?_;have F:ao .u64 (ao .u64 (ao .u64 (X.getD (a+ad (i:Z)) 0)+Y v i 0)+c)=Y U (a+i) 0+Y v i 0+c:=by rw[p,k,wrap_u64 (Y U (a+i) 0) S S,wrap_u64 (_+Y v i 0) S S,wrap_u64 _ S S]
  generalize ht:Y U (a+i) 0+Y v i 0+c=d at*;have m:0<=d/\d<8589934592:=S;refine dc (st':=⟨[(0,.c<|.W 0 a b),(1,N al v),(5,D i),(6,cU d)],[(0,.vec 23 al X)],5,[]⟩) (wk ⟨sR J,sR J,sR J,⟨_,J,a7.of_eq<|bA F⟩,T⟩ ⟨bR J,T⟩) ?_;refine e J (hp:=iM)<|rt J ?_;refine aT<|rt J<|aA (i+1,d/4294967296) ⟨h,s2,(S:d/4294967296=0\/d/4294967296=1)⟩ (S:b-(i+1)<b-i)<|wk ⟨sR J,sR J,sE J ?_,sE J ?_,T⟩ ⟨bE J ?_,T⟩
  .refine bA ?_;show ao .u64 (d.tdiv 4294967296)=d/4294967296;rw[DA m.1,wrap_u64 (d/4294967296) S S]
  .exact aC D S
  .refine aC (aH.vec 23 al) ?_;show X.set (a+ad (i:Z)) (ao .u32<|d.tmod 4294967296)=cZ U a (bV (i+1) _);rw[s1,p,GP m.1,wrap_u32 _ S S,l]
 .have h:¬i<b:=by simpa using h
  have H:i=b:=S;subst H;rw[na v i S];exact aN<|y7 a6 J (a7.refl _) J
def QV{v}{n}(c:G v=n+2):val v=(Y v (n+1) 0*4294967296+Y v n 0)*4294967296^n+val (y n v):=by
 have b:=lH v n;have a:=lH v<|n+1;rw[na v (n+1+1) S,pC]at a;rw[a,b,nb];have e:Y v (n+1) 0*(4294967296^n*4294967296)=Y v (n+1) 0*4294967296*4294967296^n:=by rw[ew (4294967296^n),jb]
 rw[e];omega
def ajp U d n:val ((aE d U).take<|n+3)=((Y U (d+(n+2)) 0*4294967296+Y U (d+(n+1)) 0)*4294967296+Y U (d+n) 0)*4294967296^n+val ((aE d U).take n):=by have i:=lH (aE d U) n;have f:=lH (aE d U)<|n+1;have g:=lH (aE d U)<|n+2;rw[QU]at i f g;rw[pC]at f;rw[pC (n+1),pC]at g;rw[show n+3=n+2+1 from J,g,f,i];generalize (4294967296:Z)^n=M;generalize Y U (d+(n+2)) 0=a;generalize Y U (d+(n+1)) 0=b;generalize Y U (d+n) 0=c;grind
def Yq{U v}{j n}(a:bM U)(c:bM v)(l:G v=n+2)(p:j+n+3<=G U)(b:2147483648<=Y v (n+1) 0)(d:val ((aE j U).take<|n+3)<val v*4294967296):
  Kn1 (4294967296^n) (Y v (n+1) 0) (Y v n 0) (val<|y n v) (val v) (Y U (j+(n+2)) 0*4294967296+Y U (j+(n+1)) 0) (Y U (j+n) 0) (val<|(aE j U).take n) (val<|(aE j U).take<|n+3):=by
 have m:=dp c<|n+1
 have f:=dp c n
 have r:=dp a<|j+(n+2)
 have x:=dp a<|j+(n+1)
 have g:=dp a<|j+n
 have i:=nC<|j5 c n
 have k:=nC<|j5 (yz a j) n
 rw[(bP:(y n v).length=n)]at i
 rw[(bP:G ((aE j U).take n)=n)]at k
 exact⟨kE n,b,m.2,f.1,f.2,mN<|j5 c n,i,S,g.1,g.2,mN<|j5 (yz a j) n,k,QV l,ajp U j n,d⟩
structure uJ(A v:Z)(lb M:I)(x:I×V Z×V Z):Prop where
 k:x.1<=M+1
 ul:x.2.1.length=M+lb+1
 ur:bM x.2.1
 ub:val (x.2.1.drop x.1)<v
 ql:x.2.2.length=M+1
 qr:bM x.2.2
 qz:∀i,i<x.1->x.2.2.getD i 0=0
 eq:A=val x.2.1+v*val x.2.2
def zf U a(b:a<=G U):val U=val (y a U)+4294967296^a*val (aE a U):=by have:=Cx (y a U)<|aE a U;rw[ri]at this;rw[this];congr 3;simp;omega
def Yr{a}(b:bM a) n(c:n<=G a)(d:val a<4294967296^n):val (aE n a)=0:=by
 have f:=zf a n c;have g:=mN<|j5 b n;have i:=mN<|yz b n;by_cases e:val (aE n a)=0
 .exact e
 .exfalso;have:4294967296^n*1<=4294967296^n*val (aE n a):=ja S (by have:=kE n;omega);omega
def uJ.QW{l v}{b d a}{U Q}(c:uJ l v b d (a+1,U,Q))(n:v<4294967296^b):val (aE a U)=val ((aE a U).take<|b+1)/\val ((aE a U).take<|b+1)<v*4294967296:=by
 have p:a+1<=d+1:=c.k;have r:G U=d+b+1:=c.ul;have f:bM U:=c.ur;have x:val (aE (a+1) U)<v:=c.ub;have m:aE a U=Y U a 0::aE (a+1) U:=by rw[lY S];simp[aF,bD (S:a<G U)]
 have g:val ((aE (a+1) U).drop b)=0:=Yr (yz f _) b bP S;have i:val (aE a U)=val ((aE a U).take<|b+1):=by have:=zf (aE a U) (b+1) bP;rw[vK]at this;rw[vK]at g;rw[this,(S:a+(b+1)=a+1+b),g];simp
 refine⟨i,?_⟩;rw[<-i,m,val];have:=dp f a;omega
def uJ.next{n v}{b f a}{U Q}(d:uJ n v b f (a+1,U,Q))(g:0<v)(P:v<4294967296^b):
  uJ n v b f (a,cZ U a<|bV (b+1)<|val ((aE a U).take<|b+1)%v,Q.set a<|val ((aE a U).take<|b+1)/v):=by
 let ⟨w1,K⟩:=d.QW P
 have D:a+1<=f+1:=d.k
 have R:G U=f+b+1:=d.ul
 have H:bM U:=d.ur
 have p:G Q=f+1:=d.ql
 have r:bM Q:=d.qr
 have l:∀i,i<a+1->Y Q i 0=0:=d.qz
 have heq:n=val U+v*val Q:=d.eq
 have B:0<=val ((aE a U).take<|b+1):=mN<|j5 (yz H _) _
 generalize hu:val ((aE a U).take<|b+1)=u at*
 have W:=fS u (S:v≠0)
 have X:=gA u g
 have o:0<=u/v:=uh B S
 have q:u/v<4294967296:=CC g (by rw[ew];exact K)
 have C:=oi u v
 have E:G (bV (b+1)<|u%v)=b+1:=s' _ _
 have c:a+G (bV (b+1)<|u%v)<=G U:=S
 have F:u%v<4294967296^(b+1):=by rw[pC];have:=kE b;omega
 have s:val (aE (a+(b+1)) U)=0:=by
  have:=zf (aE a U) (b+1) bP;rw[vK,hu,w1]at this;have I:=kE<|b+1;have t:4294967296^(b+1)*val (aE (a+(b+1)) U)=0:=S;rcases K4.1 t with e|e
  .omega
  .exact e
 have m:val (aE a<|cZ U a<|bV (b+1)<|u%v)=u%v:=by rw[QT c,Cx,GR,gT W F,E,s];simp
 refine⟨(S:a<=f+1),by show G (cZ _ _ _)=_;rw[xE c];exact R,QR H<|GQ _ _,by show val (aE a<|cZ U a _)<v;rw[m];exact X,by show G (Q.set _ _)=_;simp[p],yA r _ ⟨o,q⟩,?_,?_⟩
 .intro i J;show Y (Q.set a _) i 0=0;rw[aF,List.getElem?_set_ne S,<-aF];exact l i S
 .show n=val (cZ U a _)+v*val (Q.set a _);rw[Pn Q a _ S,l a S,zf (cZ U a _) a (by rw[xE c];omega),Yk c,m,heq,zf U a S,w1];have w:v*(val Q+(u/v-0)*4294967296^a)=v*val Q+4294967296^a*(v*(u/v)):=by generalize u/v=x;generalize (4294967296:Z)^a=y;grind
  have z:4294967296^a*u=4294967296^a*(u%v)+4294967296^a*(v*(u/v)):=by rw[<-nc,C]
  rw[w,z];omega
def uJ.fin{a v}{f g}{U Q}(b:uJ a v f g (0,U,Q)):val Q=a/v/\val U=a%v:=by have d:val U<v:=b.ub;have c:=mN b.ur;have heq:a=val U+v*val Q:=b.eq;simp only at c;have i:0<v:=S;rw[heq,Int.add_mul_ediv_left _ _ S,Dz c d,DC,gT c d];exact⟨S,J⟩
def ajq{b1:Z}(c:1<=b1)(f:b1<4294967296):2147483648<=b1*(4294967296/(b1+1)):=by
 have g:=oi 4294967296<|b1+1;have i:=gA 4294967296 (S:0<b1+1);generalize 4294967296/(b1+1)=d at*;generalize (4294967296:Z)%(b1+1)=r at*;by_cases k:2147483648<=b1
 .have a:1<=d:=by
   by_cases e:1<=d
   .exact e
   .have:(b1+1)*d<=(b1+1)*0:=ja S S;omega
  have:b1*1<=b1*d:=ja a S;omega
 .have b:0<=(b1-1)*(4294967296-2*b1-2):=jm S S;have l:(b1-1)*(4294967296-2*b1-2)=b1*4294967296-2*(b1*b1)-4294967296+2:=by grind
  have m:(b1+1)*(b1*d)=b1*(4294967296-r):=by rw[show(b1+1)*(b1*d)=b1*((b1+1)*d)by grind];congr 1;omega
  have n:b1*(4294967296-b1)<=b1*(4294967296-r):=ja S S;have p:b1*(4294967296-b1)=b1*4294967296-b1*b1:=by rw[DD]
  by_cases e:2147483648<=b1*d
  .exact e
  .exfalso;have:(b1+1)*(b1*d)<=(b1+1)*2147483647:=ja S S;omega
def Sm.of{a}(b:aq a<18446744073709551616):Sm a:=cQ (xx b) A
def A' n(a: -9223372036854775808<=n)(b:n<=9223372036854775807):af j 46 [D n] (aQ (n:Rat)):=by refine aD Tryz.func46 ?_;refine e J<|t<|rc J J (kp n a b)<|rc J J (kp 1 A A)<|o J<|bq J ?_;rfl
def K5 a:af j 53 [aQ a] (D<|cq a.num):=by refine aD Tryz.func53 ?_;refine e J<|aO J J (vV a.num) J<|bU J
def K6 n g(a:g≠0)(b:aq g<4294967296)(c:Sm n):af j 228 [aZ n,aZ g] (aZ<|n/g):=by refine aD Tryz.func228 ?_;refine e J<|aO J J (GO n g a (.inr b) c<|Sm.of S) J<|e J<|bq J ?_;rfl
def DE n d(c:d≠0):(iE n d).num=n/(if d<0 then-((fh n d:I):Z)else((fh n d:I):Z))/\((iE n d).den:Z)=d/(if d<0 then-((fh n d:I):Z)else((fh n d:I):Z)):=by
 have b:((fh n d:I):Z)∣n:=GS ..;have a:((fh n d:I):Z)∣d:=K7 ..;have f:fh n d≠0:=by intro g;have:=(Ba.1 g).2;exact c this
 rw[Rat.num_divInt,Rat.den_divInt,M c,Int.gcd_comm d n];by_cases h:d<0
 .rw[s h,Int.sign_eq_neg_one_of_neg h,A7,A7];refine⟨?_,?_⟩
  .rw[Int.neg_mul,j7,ajr b]
  .rw[vX,(S:((aq d:I):Z)= -d),ajr a]
 .rw[M h,Int.sign_eq_one_of_pos S,j7];refine⟨J,?_⟩;rw[vX,(S:((aq d:I):Z)=d)]
def Ys n d(f:d≠0)(b:aq n<18446744073709551616)(c:aq d<4294967296):af j 153 [aZ n,aZ d] (aQ<|iE n d):=by
 refine aD Tryz.func153 ?_;have g:fh n d≠0:=λi=>f (Ba.1 i).2
 have k:fh n d<4294967296:=s8 (DF _ S) c;let ⟨p1,a⟩:=DE n d f;refine e J<|aO J J (QH n d b S) J<|L<|t<|rc J J (vV d)<|o J ?_;refine z J (λh=>?_)<|λh=>?_
 .have h:d<0:=by
   have h:cq d<0:=du;unfold cq at h;split at h
   .assumption
   ·(try split at h)<;>omega
  rw[s h]at p1 a;refine bs<|rc J J (GJ _)<|o J<|ay<|t ?_;refine rc J J (K6 n _ S S<|Sm.of b)<|rc J J (K6 d _ S S<|Sm.of S)<|o J<|bq J ?_;unfold aQ;simp only[av,p1,a];rfl
 .have h:¬d<0:=by
   have h:¬cq d<0:=du;unfold cq at h;split at h
   .omega
   .assumption
  rw[M h]at p1 a;refine ai<|t ?_;refine rc J J (K6 n _ S S<|Sm.of b)<|rc J J (K6 d _ S S<|Sm.of S)<|o J<|bq J ?_;unfold aQ;simp only[av,p1,a];rfl
def ajs n d(b:d≠0)(c:aq n<18446744073709551616)(a:aq d<4294967296):af j 119 [aZ n,aZ d] (.t [(ae,av .q<|iE n d),(ah,[.I .i64 0])]):=by
 refine aD Tryz.func119 ?_;refine e J<|L<|aO J J (vV d) J ?_;refine z J (λh=>?_)<|λh=>?_
 .exfalso;have h:cq d=0:=du;unfold cq at h;split at h
  .omega
  ·(try split at h)<;>omega
 .refine ai<|aO J J (Ys n d b c a) J<|bq J ?_;rfl
def GU{a b}{x c}(d:aq a<=x)(f:aq b<=c):aq (a*b)<=x*c:=by rw[qE];exact ly d f
def ajt a b(i:b.num≠0)(c:aq a.num<=65535)(d:a.den<=65535)(f:aq b.num<=65535)(oM:b.den<=65535):af j 51 [aQ a,aQ b] (.t [(ae,av .q<|iE (a.num*(b.den:Z))<|(a.den:Z)*b.num),(ah,[.I .i64 0])]):=by refine aD Tryz.func51 ?_;have k:=GU (a:=a.num) (b:=(b.den:Z)) c (Dc:aq ((b.den:Z))<=65535);have l:=GU (a:=(a.den:Z)) (b:=b.num) (show aq ((a.den:Z))<=65535 by simpa using d) f;have g:(a.den:Z)*b.num≠0:=DG (by have:=a.den_nz;omega) i;refine e J<|t<|rc J J (lL _ _ (Sm.of S)<|Sm.of S)<|rc J J (lL _ _ (Sm.of S)<|Sm.of S)<|rc J J (ajs _ _ g S S)<|o J<|bq J ?_;rfl
def aju a b(c:aq a.num<=65535)(d:a.den<=65535)(f:aq b.num<=65535)(oM:b.den<=65535):af j 82 [aQ a,aQ b] (aQ<|iE (a.num*b.num)<|(a.den:Z)*(b.den:Z)):=by refine aD Tryz.func82 ?_;have i:=GU (a:=a.num) (b:=b.num) c f;have k:=GU (a:=(a.den:Z)) (b:=(b.den:Z)) (show aq ((a.den:Z))<=65535 by simpa using d) (Dc:aq ((b.den:Z))<=65535);have g:(a.den:Z)*(b.den:Z)≠0:=DG (by have:=a.den_nz;omega) (by have:=b.den_nz;omega);refine e J<|t<|rc J J (lL _ _ (Sm.of S)<|Sm.of S)<|rc J J (lL _ _ (Sm.of S)<|Sm.of S)<|rc J J (Ys _ _ g S S)<|o J<|bq J ?_;rfl
end Go.El
