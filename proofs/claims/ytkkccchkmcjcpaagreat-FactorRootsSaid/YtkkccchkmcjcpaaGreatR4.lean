/- The engine, part 42: functions that write into a slice of the caller; windows on vectors; copy into vectors. Own work; no condition. -/
import Derived.Test.YtkkccchkmcjcpaaGreatR3
import Derived.Test.YtkkccchkmcjcpaaGreatR1
set_option linter.defProp false
set_option linter.unusedVariables false
set_option linter.unusedSimpArgs false
set_option linter.unnecessarySimpa false
namespace Go.El
open Go Go.RowKit
def XV(g:Gh)(W:World)(E:TypeId)(T:ET)(r:AV)(kc:List T.den)(e:Ending)(W':World):Prop:=
 ∃v g',e= .returned v∧bP ⟨g'.H,jb⟩ r v∧ji (λ_=>True) g' W' 0 (.vec E T kc)∧g'.γ 0=g.γ 0∧cC g.H g'.H∧(∀b o,b<W.heap.size→¬cN (g.γ 0)=some b→g'.H b o=g.H b o)∧Sub g'.H W'∧Dw (λb=>cN (g.γ 0)=some b) W W'
structure mZ(P:Program)(f:FuncId)(args:List AV)(E:TypeId)(T:ET)(xs:List T.den)(r:AV)(kc:List T.den):Prop where
 call:ml P f=true
 hJ:r.aD=[]
 spec:∀g W vs,Sub g.H W→jo g args vs→ji (λ_=>True) g W 0 (.vec E T xs)→Calls P f vs.toArray W (XV g W E T r kc)
def Qu(P:Program)(fn:Func)(E:TypeId)(T:ET)(r:AV)(kc:List T.den):fA:=λF e a W=>F.k0=1→bodyPost P fn (λe W'=>∃v g',e= .returned v∧bP ⟨g'.H,jb⟩ r v∧ji F.N g' W' 0 (.vec E T kc)∧g'.γ 0=F.γ0 0∧cC F.H0 g'.H∧(∀b o,b<F.w0.heap.size→¬F.own b→g'.H b o=F.H0 b o)∧Sub g'.H W'∧Dw F.own F.w0 W') e a W
section
variable{P:Program}{tt:TT}{n:Nat}{st:St}
def tT(aT:cL P tt=true){fn:Func}{rs:List ResultVar}{r' r:AV}{E:TypeId}{T:ET}{kc:List T.den}(hr:tN tt st rs=some r')(hle:au r' r)(jq:ao 0 st.mem=some (.vec E T kc))(fG:fn.results=rs.toArray:=by rfl)(hm:r.aD=[]:=by rfl):fZ n .ret st (Qu P fn E T r kc):=by intro F hF g W a h hk;obtain⟨u,hu,bU⟩:=Bv aT h fG hr;exact⟨h.defers.trans hF.ds,u,hu,u,g,ae,(hle.1 _ _ bU).hJ hm (cC.refl _) jb,h.c9 0 _ (by simp[St.kn,jq]),(h.iu 0 af).2,h.le,h.fresh,h.sub,h.below⟩
def zW(aT:cL P tt=true){fn:Func}{rs:List ResultVar}{r' r:AV}{E:TypeId}{T:ET}{kc:List T.den}(hr:tN tt st rs=some r')(hle:au r' r)(jq:ao 0 st.mem=some (.vec E T kc))(fG:fn.results=rs.toArray:=by rfl)(hm:r.aD=[]:=by rfl):fZ n .normal st (Qu P fn E T r kc):=
 λF hF g W a h=>tT aT hr hle jq fG hm F hF g W a h
def K0:List Nat→Bool
 |[]=>true
 |id::r=>Nat.beq id 0&&K0 r
def XW:∀{l:List Nat},K0 l=true→∀id∈l,id=0
 |[],_,_,h=>by cases h
 |j::r,hb,id,h=>by
  simp only[K0,eQ]at hb;rcases dx.1 h with rfl|h
  ·exact Da hb.1
  ·exact XW hb.2 id h
def qt{f:FuncId}{fn:Func}{c:Code}{args:List AV}{E:TypeId}{T:ET}{xs kc:List T.den}{r:AV}(hf:P.funcs[f]? =some fn)(hb:fn.body=some c)(hN:fn.ntmps=n)(hle:Nat.ble args.length n=true)(mm:K0 (fH args)=true)(Bx:r.aD=[])(sM:(fn.name != "runtime.NumGoroutine")=true)
  (h:TR P n c ⟨kZ 0 args,[(0,.vec E T xs)],1,[]⟩ (Qu P fn E T r kc)):mZ P f args E T xs r kc:=by
 refine⟨by simp[ml,hf,hb,sM],Bx,?_⟩
 intro g W vs eI bU jK
 refine calls_of_wp hf hb ?_
 have hlen:=zK bU
 have hle:=cT hle
 have jz:∀id b,St.kn ⟨kZ 0 args,[(0,.vec E T xs)],1,[]⟩ (.m id)=some (.b b)→id=0∧b= .vec E T xs:=by
  intro id b e;simp only[St.kn,ao,cq]at e;obtain⟨x,hx,he⟩:=e;cases he;split at hx
  ·rename_i e0;cases hx;exact⟨e0.symm,ae⟩
  ·cases hx
 let F:c8:={w0:=W,H0:=g.H,n:=n,own:=λb=>cN (g.γ 0)=some b,k0:=1,γ0:=g.γ}
 refine wp_mono (h F ⟨ae,bF _,ae,ae⟩ g W _ ⟨?_,ae,?_,?_,?_,?_,?_,eI,⟨ae,ae,ae,bF _,λ_ _ _=>rfl⟩,cC.refl _,λ_ _ _ _=>rfl,?_⟩) ?_
 ·simp[hN,F];omega
 ·intro t v ht;simp only[St.kn,cq]at ht;obtain⟨x,hx,he⟩:=ht;cases he;obtain⟨_,u,hu,hr,_⟩:=pj args vs 0 bU t v hx;have jh:vs[t]? =some u:=C1;have bh:t<vs.length:=(v7.1 jh).1;have:(vs.toArray++Array.replicate (fn.ntmps-vs.toArray.size) undef).getD t undef=u:=by rw[v5,AT FP];simp[jh]
  rw[this];exact hr
 ·intro id b e;obtain⟨rfl,rfl⟩:=jz id b e;exact jK.D5 (λk hk=> .inr hk) ae ae ⟨cC.refl _,λ_ _=>rfl⟩
 ·intro id b6 b b' k e e' _ _;rw[(jz id b e).1,(jz b6 b' e').1]
 ·intro k x e id al;cases k with
  |m j=>
   cases x with
   |v y=>simp only[St.kn,cq]at e;obtain⟨_,_,he⟩:=e;cases he
   |b b=>obtain⟨_,rfl⟩:=jz j b e;simp[Info.aD,aJ.aD]at al
  |s t=>
   simp only[St.kn,cq]at e
   obtain⟨y,hy,he⟩:=e
   subst he
   obtain⟨_,u,_,_,h6⟩:=pj args vs 0 bU t y hy
   have:=XW mm id (h6 id al)
   subst this
   show 0<1000000*1
   decide
 ·intro id x e;cases x with
  |v y=>simp only[St.kn,cq]at e;obtain⟨_,_,he⟩:=e;cases he
  |b b=>rw[(jz id b e).1];show 0<1000000*1;decide
 ·intro id al;have:id=0:=by have:id<1:=al;omega
  subst this;exact⟨by show 0<1000000*1;decide,ae⟩
 ·intro e a W' hq;have hq:=hq ae;have key:∀e W',(∃v g',e=Ending.returned v∧bP ⟨g'.H,jb⟩ r v∧ji F.N g' W' 0 (.vec E T kc)∧g'.γ 0=F.γ0 0∧cC F.H0 g'.H∧(∀b o,b<F.w0.heap.size→¬F.own b→g'.H b o=F.H0 b o)∧Sub g'.H W'∧Dw F.own F.w0 W')→XV g W E T r kc e W':=by rintro e W' ⟨v,g',h1,h2,h3,h4⟩;exact⟨v,g',h1,h2,h3.D5 (λ_ _=>trivial) ae ae ⟨cC.refl _,λ_ _=>rfl⟩,h4⟩
  cases e with
  |normal=>obtain⟨h1,v,h2,h3⟩:=hq;exact⟨h1,v,h2,key _ _ h3⟩
  |ret=>obtain⟨h1,v,h2,h3⟩:=hq;exact⟨h1,v,h2,key _ _ h3⟩
  |panic c=>obtain⟨h1,h3⟩:=hq;exact⟨h1,key _ _ h3⟩
  |outgrown=>exact key _ _ hq
  |exit _=>exact hq
  |goto _=>exact hq
def Ec(id:Nat):C→C
 | .P _ o=> .P id o
 | .X _=> .X id
 | .Y _ n i o=> .Y id n i o
 | .L _ o l c=> .L id o l c
 | .W _ o l=> .W id o l
 |c=>c
def G6(id:Nat):AV→AV
 | .c x=> .c (Ec id x)
 | .a cs=> .a (cs.map (Ec id))
 | .t ss=> .t (ss.map λs=>(s.1,s.2.map (Ec id)))
def Qv{g:Gh}{id:Nat}:∀{c:C}{v:Value},dk g (Ec id c) v→dk ⟨g.H,λ_=>g.γ id⟩ c v
 | .any,_,h=>h
 | .B _,_,h=>h
 | .I _ _,_,h=>h
 | .V _,_,h=>h
 | .S _ _,_,h=>h
 | .P _ _,_,h=>h
 | .X _,_,h=>h
 | .Y _ _ _ _,_,h=>h
 | .E _ _ _,_,h=>h
 | .M _,_,h=>h
 | .L _ _ _ (some _),_,h=>h
 | .L _ _ _ none,_,h=>h
 | .W _ _ _,_,h=>h
def Qw{g:Gh}{id:Nat}:∀{cs:List C}{vs:List Value},bS g (cs.map (Ec id)) vs→bS ⟨g.H,λ_=>g.γ id⟩ cs vs
 |[],_,h=>h
 |_::_,_,h=>by obtain⟨v,r,e,h1,h2⟩:=h;exact⟨v,r,e,Qv h1,Qw h2⟩
def XX{g:Gh}{id:Nat}:∀{cs:List (Bool×List C)}{vs:List Value},dt g (cs.map λs=>(s.1,s.2.map (Ec id))) vs→dt ⟨g.H,λ_=>g.γ id⟩ cs vs
 |[],_,h=>h
 | (b,c)::_,_,h=>by
  obtain⟨v,r,e,h1,h2⟩:=h;refine⟨v,r,e,?_,XX h2⟩;match b,c,h1 with
  |true,c,h1=>obtain⟨vs,e,h⟩:=h1;exact⟨vs,e,Qw h⟩
  |false,[c],h1=>exact Qv h1
  |false,[],h1=>exact h1.elim
  |false,_::_::_,h1=>exact h1.elim
def aia{g:Gh}{id:Nat}{x:AV}{v:Value}(h:bP g (G6 id x) v):bP ⟨g.H,λ_=>g.γ id⟩ x v:=by
 cases x with
 |c y=>exact Qv h
 |a cs=>obtain⟨vs,e,h⟩:=h;exact⟨vs,e,Qw h⟩
 |t ss=>obtain⟨vs,e,h⟩:=h;exact⟨vs,e,XX h⟩
def XY{g:Gh}{id:Nat}:∀{xs:List AV}{vs:List Value},jo g (xs.map (G6 id)) vs→jo ⟨g.H,λ_=>g.γ id⟩ xs vs
 |[],_,h=>h
 |_::_,_,h=>by obtain⟨v,r,e,h1,h2⟩:=h;exact⟨v,r,e,aia h1,XY h2⟩
def aib{n new:Nat}{ops:Array Oper}{i:Nat}{o:Oper}(ho:ops[i]? =some o)(hg:o.guard=none){d:Nat}(hd:o.dst=some d)(aV:d<n){f:FuncId}{args:Array Operand}{di:Array TypeId}(b9:o.op= .call ⟨.value (.func f),args,di⟩)
  {st:St} {vs:List AV} {id:Nat} {E:TypeId} {T:ET} {xs kc:List T.den} {r:AV} (hv:kB st args.toList=some (vs.map (G6 id))) (hl:ao id st.mem=some (.vec E T xs)) (hf:mZ P f vs E T xs r kc):kY P n ops i st ((st.pm id (.vec E T kc)).put d r) new (cF args.toList++fp [id],[.s d,.m id]):=by
 refine⟨args.toList.flatMap (dQ st)++gU st [id],[(.s d,some (.v r)),(.m id,some (.b (.vec E T kc)))],?_,?_,Bn st d id _ _,?_,λk hk=>by simpa[fe]using hk⟩
 ·intro F fW Q known σ g W a K dT aH bt hK;have kv:=zH aH st _ _ hv (λkx aS=>bt kx (fM _ aS));have hσ:σ (.m id)=some (.b (.vec E T xs)):=bt (.m id,.b (.vec E T xs)) uG;have jK:=aH.c9 id _ hσ;have aic:ji (λ_=>True) ⟨g.H,λ_=>g.γ id⟩ W 0 (.vec E T xs):=by
   rcases jK with⟨e1,e2⟩|⟨b,cap,ws,e1,e2,e3,e4,e5,e6,e7,e8⟩
   ·exact .inl ⟨e1,e2⟩
   ·exact .inr ⟨b,cap,ws,e1,e2,e3,e4,e5,e6,ah,e8⟩
  have hc:=hf.spec ⟨g.H,λ_=>g.γ id⟩ W _ aH.sub (XY kv) aic;unfold wpOp;simp only[ho,Region.wanted,hg,cM];refine .inl ?_;unfold Oper.wp;have hex:(execOp a.eval o).run P W= .ok (.enter f (args.map a.eval)) W:=by
   have cw:=hf.call;unfold ml at cw;rw[execOp,b9];cases iv:P.funcs[f]? with
   |none=>rw[iv]at cw;simp at cw
   |some fn=>
    rw[iv]at cw
    simp only[eQ,bne_iff_ne,ne_eq]at cw
    have h2:fn.body≠none:=by intro hb;rw[hb]at cw;simp at cw
    simp[resolve,Act.eval,Deferred.ofValue,invoke,callFunc,iv,cw.1,h2]
  rw[hex];simp only[Oper.upon];have iL:(args.map a.eval)=(args.toList.map a.eval).toArray:=vX;rw[iL];refine hc.mono ?_;rintro e W' ⟨v,g',rfl,hrv,XZ,fl,hle,lK,eI,eJ⟩;simp only[hd];have cR:d<a.tmps.size:=qY;let g2:Gh:=⟨g'.H,g.γ⟩;have oB:iH known g g2:=⟨hle,λ_ _=>rfl⟩;have fl:g'.γ 0=g.γ id:=fl;have aie:∀b o,b<W.heap.size→g2.H b o=g.H b o:=by
   intro b o hb;by_cases qo:cN (g.γ id)=some b
   ·rcases jK with⟨e1,_⟩|⟨b1,cap,ws,e1,e2,e3,e4,e5,e6,e7,e8⟩
    ·rw[e1]at qo;simp[cN]at qo
    ·rcases XZ with⟨rq,_⟩|⟨b2,Pz,Ed,rq,G7,X0,KN,X1,X2,e7',Qx⟩
     ·rw[fl,e1]at rq;simp at rq
     ·have h1:b1=b:=by rw[e1]at qo;simpa[cN]using qo
      have h2:b2=b:=by rw[←fl,rq]at qo;simpa[cN]using qo
      subst h1;rw[e8 o];subst h2;exact Qx o
   ·exact lK b o hb qo
  refine hK g2 W' _ (aH.step (chg:=λj=>j=id) (g':=g2) ⟨oB,aie,eI,eJ.size,?_,eJ.os,eJ.tape,eJ.output⟩ _ new dT sc aH.defers ?_ ?_ ?_ ?_ ?_ ?_)
  ·intro k hk aN;exact eJ.block k hk (aN id ae)
  ·intro t ht;have aN:d≠t:=ts;simp[Act.put,nN aN]
  ·intro j hj;subst hj;exact⟨by simp[a9],_,hσ⟩
  ·intro t u ht;simp only[a9]at ht;split at ht
   ·rename_i e;simp only[Key.s.injEq]at e;simp only[aO,Info.v.injEq]at ht;subst e;subst ht;have:=hrv.hJ hf.hJ (cC.refl _) g.γ;simpa[Act.put,cR,g2]using this
   ·split at ht
    ·simp at ht
    ·simp at ht
  ·intro j b ht;simp only[a9,reduceCtorEq,cP]at ht;split at ht
   ·rename_i e;simp only[Key.m.injEq]at e;simp only[aO,Info.b.injEq]at ht;subst e;subst ht;refine⟨?_,.inl ⟨aH.fy _ _ hσ,_,hσ⟩⟩;rcases XZ with⟨rq,G7⟩|⟨b2,Pz,Ed,rq,G7,X0,KN,X1,X2,e7',Qx⟩
    ·exact .inl ⟨by show g.γ id=_;rw[←fl,rq],G7⟩
    ·refine .inr ⟨b2,Pz,Ed,by show g.γ id=_;rw[←fl,rq],G7,X0,KN,X1,X2,?_,Qx⟩;exact(jK.block (k:=b2) (by rw[←fl,rq];rfl)).1
   ·simp at ht
  ·intro k y ht;simp only[a9]at ht;split at ht
   ·simp only[aO]at ht;subst ht;intro id al;simp only[Info.aD]at al;rw[hf.hJ]at al;cases al
   ·split at ht
    ·simp only[aO]at ht;subst ht;intro id al;simp[Info.aD,aJ.aD]at al
    ·simp at ht
  ·intro j y ht;simp only[a9,reduceCtorEq,cP]at ht;split at ht
   ·rename_i e;simp only[Key.m.injEq]at e;exact .inl (e▸aH.fy _ _ hσ)
   ·simp at ht
 ·intro kx aS;rcases bX.1 aS with aS|aS
  ·obtain⟨x,_,h⟩:=jE.1 aS;exact fY st x kx h
  ·exact rB st [id] kx aS
 ·intro k hk;simp only[dO,dZ,bX]at hk;rcases hk with h|h
  ·exact fM _ (fR st _ k h)
  ·exact jY _ (qf st [id] k h)
def aih{n:Nat}{ops:Array Oper}{draw:Bool}{nx i:Nat}{d f:Nat}{args:Array Operand}{di:Array TypeId}{ty:TypeId}{pos:String}{cJ:Array Edge}{os:List Oper}{sl:List (Nat×AV)}{mem:List (Nat×aJ)}{n0:Nat}{gd:List (Nat×Bool)}{ks:List Ks}{Q:St→Prop}{vs:List AV}{id:Nat}{E:TypeId}{T:ET}{xs kc:List T.den}{r:AV}
  (hv:kB ⟨sl,mem,n0,gd⟩ args.toList=some (vs.map (G6 id))) (hl:ao id mem=some (.vec E T xs)) (hf:mZ P f vs E T xs r kc) (h:RG P n ops draw nx (i+1) os ⟨(d,r)::sl,(id,.vec E T kc)::mem,n0,gd⟩ (fi draw ks (cF args.toList++fp [id],[.s d,.m id])) Q) (aV:Nat.blt d n=true:=by rfl):
  RG P n ops draw nx i (⟨some d,.call ⟨.value (.func f),args,di⟩,ty,pos,cJ,none⟩::os) ⟨sl,mem,n0,gd⟩ ks Q:=
 kM (λho=>aib ho ae ae (cT aV) ae hv hl hf) (jA h)
def aii(aT:cL P tt=true){n new:Nat}{ops:Array Oper}{i:Nat}{o:Oper}(ho:ops[i]? =some o)(hg:o.guard=none){d:Nat}(hd:o.dst=some d)(aV:d<n){t:TypeId}{x lo hi:Operand}(b9:o.op= .slice t x (some lo) (some hi) none)
  {st:St} {id:Nat} {E:TypeId} {T:ET} {xs:List T.den} {k1 k2:IntKind} {a b:Int} (hx:st.ev x=some (.c (.X id))) (hl:ao id st.mem=some (.vec E T xs)) (Qy:st.ev lo=some (.c (.I k1 a))) (nv:st.ev hi=some (.c (.I k2 b))) (hT:T.n=1) (dc:wA tt t 1=true)
  {u v:Nat} (ea:a=(u:Int)) (eb:b=(v:Int)) (zX:u<v) (hv:v≤xs.length):kY P n ops i st (st.put d (.c (.W id u (v-u)))) new (cF [x,lo,hi]++fp [id],[.s d]):=by
 refine⟨(dQ st x++(dQ st lo++dQ st hi))++gU st [id],[(.s d,some (.v (.c (.W id u (v-u)))))],?_,?_,nV st d _,?_,λk hk=>by simpa[fe]using hk⟩
 ·refine uS ho hg hd aV _ _ new ?_;intro F known σ g W a' aH bt;have lH:a'.eval x=g.γ id:=gy aH st x _ hx (λkx aS=>bt kx jt);have kA:a'.eval lo= .int k1 a:=gy aH st lo _ Qy (λkx aS=>bt kx jt);have hrh:a'.eval hi= .int k2 b:=gy aH st hi _ nv (λkx aS=>bt kx jt);have oz:=uR aH st x _ hx (λkx aS=>bt kx jt);have hσ:σ (.m id)=some (.b (.vec E T xs)):=bt (.m id,.b (.vec E T xs)) uG;obtain⟨e,i',mT,o0,hs⟩:=DI aT dc;rcases aH.c9 id _ hσ with⟨_,h0⟩|⟨bb,cap,vs,hγ,_,_,pc,_⟩
  ·subst h0;simp at hv;omega
  ·refine⟨λj hj=>oz j (by simpa[AV.aD,C.aD]using hj),.slice (some ⟨bb,u,none⟩) (v-u) (cap-u),?_,bb,cap-u,by rw[hγ];rfl,ae,by omega⟩;have lG:execOp a'.eval o=(do pure (.value (←Instr.sliceAt t (a'.eval x) ((some lo).map a'.eval) ((some hi).map a'.eval) (none.map a'.eval)))):=yW;have nT:(Instr.sliceBounds true xs.length cap (some (.int k1 a)) (some (.int k2 b)) none).run P W= .ok (u,v,cap) W:=by have c1:v≤cap:=af;have c2:u≤v:=af;subst ea eb;simp[Instr.sliceBounds,Instr.sliceBound,asIntOf,c1,c2,Sem.run,pure]
   have aN:¬cap=u:=af;rw[lG];simp only[OW,Option.map_none,lH,kA,hrh,hγ,Instr.sliceAt,Sem.run_bind,run_underlying mT,Result.andThen,Instr.slice,nT,run_sizeOf o0,hs];simp[aN,p5,Sem.run,pure]
 ·intro kx aS;rcases bX.1 aS with h|h
  ·rcases bX.1 h with h|h
   ·exact fY _ x kx h
   ·rcases bX.1 h with h|h
    ·exact fY _ lo kx h
    ·exact fY _ hi kx h
  ·exact rB _ [id] kx h
 ·intro k hk;simp only[dO,dZ,bX]at hk;rcases hk with(h|h|h)|h
  ·exact fM _ (fR st [x,lo,hi] k yX)
  ·exact fM _ (fR st [x,lo,hi] k yY)
  ·exact fM _ (fR st [x,lo,hi] k (by simp only[dO,gJ,dZ,bX];exact .inr (.inr (.inl h))))
  ·exact jY _ (qf st [id] k h)
def X3{g:Gh}(T:ET):∀(xs:List T.den)(vs:List Value),bS g (xs.flatMap (av T)) vs→vs.length=xs.length*T.n∧∀i(h:i<xs.length),dh g.H T xs[i] ((vs.drop (i*T.n)).take T.n)
 |[],vs,h=>by have h:vs=[]:=h;subst h;exact⟨by simp,λi h=>by simp at h⟩
 |x::xs,vs,h=>by
  rw[gJ]at h;obtain⟨a,b,rfl,h1,h2⟩:=Gj h;have hd:=zo T x a h1;have ha:=dh.length T _ _ hd;obtain⟨hl,hc⟩:=X3 T xs b h2;refine⟨by simp[ha,hl,fP];omega,λi hi=>?_⟩;cases i with
  |zero=>
   simp only[A5,wi,xx]
   rw[←ha,List.take_left']
   ·exact hd
   ·rfl
  |succ i=>
   simp only[FY]
   have:=hc i (by simpa using hi)
   rw[show(i+1)*T.n=a.length+i*T.n by rw[fP,ha];omega,←xF,List.drop_left']
   ·exact this
   ·rfl
def aik(aT:cL P tt=true){n new:Nat}{ops:Array Oper}{i:Nat}{o:Oper}(ho:ops[i]? =some o)(hg:o.guard=none){d:Nat}(hd:o.dst=some d)(aV:d<n){x y:Operand}{t1 t2:TypeId}(b9:o.op= .call ⟨.builtin .copy,#[x,y],#[t1,t2]⟩)
  {st:St} {id:Nat} {E E1:TypeId} {T:ET} {xs ys:List T.den} {ei:TI} (hx:st.ev x=some (.c (.X id))) (hl:ao id st.mem=some (.vec E T xs)) (hy:st.ev y=some (.c (.S T ys))) (hT:D7 tt t1 t2=some (E1,ei)) (kL:ei.size=T.n) (hle:ys.length≤xs.length) (aN:xs≠[]):
  kY P n ops i st ((st.pm id (.vec E T (ys++xs.drop ys.length))).put d (.c (.I .i64 ys.length))) new (cF [x,y]++fp [id],[.s d,.m id]):=by
 refine⟨(dQ st x++dQ st y)++gU st [id],[(.s d,some (.v (.c (.I .i64 ys.length)))),(.m id,some (.b (.vec E T (ys++xs.drop ys.length))))],?_,?_,Bn st d id _ _,?_,λk hk=>by simpa[fe]using hk⟩
 ·intro F fW Q known σ g W a K dT aH bt hK;have hT:=XL aT hT;rw[kL]at hT;have lH:a.eval x=g.γ id:=gy aH st x _ hx (λkx aS=>bt kx jt);have ph:=gy aH st y _ hy (λkx aS=>bt kx jt);have hσ:σ (.m id)=some (.b (.vec E T xs)):=bt (.m id,.b (.vec E T xs)) uG;obtain⟨e2,nq⟩:=hT.u2;obtain⟨inf,z,lI,sO,xV,xW,GU⟩:=hT.info;obtain⟨us,zN,Qz,sT,GV⟩:=XC (P:=P) (st:=st) (sz:=T.n) (y:= .c (.S T ys)) (m:=ys.length) (cs:=ys.flatMap (av T)) (ids:=[]) aH (by simp[KT]) ph (λid al=>by cases al) nq (wg.2 (Xz ys));obtain⟨iN,huc⟩:=X3 T ys us Qz;rcases aH.c9 id _ hσ with⟨_,h0⟩|⟨b,cap,vs,hγ,hh,j9,pc,hlen,hr,hN,hz⟩
  ·exact absurd h0 aN
  have u4:us.length≤vs.length:=by rw[iN,j9];exact dY _ af
  have dc:=DM (P:=P) b us W vs 0 0 hh af GV;simp only[j6]at dc;have bZ:(Builtin.copy_ #[t1,t2] o.type #[a.eval x,a.eval y]).run P W= .ok (.int .i64 ys.length) (jm W b (dy vs us 0) E):=by rw[lH,hγ];have QA:Nat.min ys.length xs.length=ys.length:=tx hle;have hc:=zN.cells;simp[Builtin.copy_,run_underlying hT.u1,sizeOf,typeInfo,lI,zN.len,QA,sO,hc,dc,goInt,Sem.run,pure]
  have hex:(execOp a.eval o).run P W= .ok (.value (.int .i64 ys.length)) (jm W b (dy vs us 0) E):=by refine KQ b9 (λcs=>?_);have e:(#[x,y]:Array Operand).map a.eval= #[a.eval x,a.eval y]:=be;rw[e];simp only[Go.builtin,Sem.run_bind,bZ,Result.andThen];rfl
  unfold wpOp;simp only[ho,Region.wanted,hg,cM];refine .inl ?_;unfold Oper.wp;rw[hex];simp only[Oper.upon,hd];have cR:d<a.tmps.size:=qY;have hb:b<W.heap.size:=(jO.1 hh).1;have G8:(ys++xs.drop ys.length).length=xs.length:=cO;refine hK g _ _ (aH.step (chg:=λj=>j=id) (g':=g) ⟨⟨cC.refl _,λ_ _=>rfl⟩,λ_ _ _=>rfl,GC aH.sub hz,by simp[jm],?_,ae,ae,ae⟩ _ new dT sc aH.defers ?_ ?_ ?_ ?_ ?_ ?_)
  ·intro k' du aN;have:b≠k':=λe=>aN id ae (by rw[hγ,e];rfl)
   exact DK this
  ·intro t ht;have aN:d≠t:=ts;simp[Act.put,nN aN]
  ·intro j hj;subst hj;exact⟨by simp[a9],_,hσ⟩
  ·intro t u ht;simp only[a9]at ht;split at ht
   ·rename_i e;simp only[Key.s.injEq]at e;simp only[aO,Info.v.injEq]at ht;subst e;subst ht;simp[Act.put,cR,bP,dk]
   ·split at ht
    ·simp at ht
    ·simp at ht
  ·intro j bk hj;simp only[a9,reduceCtorEq,cP]at hj;split at hj
   ·rename_i e';simp only[Key.m.injEq]at e';subst e';simp only[aO,Info.b.injEq]at hj;subst hj;refine⟨.inr ⟨b,cap,dy vs us 0,by rw[G8];exact hγ,DJ hb,?_,by rw[G8];exact pc,by rw[G8];exact hlen,λj hj=>?_,hN,hz⟩,.inl ⟨aH.fy _ _ hσ,_,hσ⟩⟩
    ·rw[DL _ _ _ af];exact j9
    ·have Bk:dy vs us 0=us++vs.drop us.length:=by simp[dy]
     rw[Bk];by_cases jy:j<ys.length
     ·rw[y9 jy];have h1:=huc j jy;have h2:j*T.n+T.n≤us.length:=by rw[iN,show j*T.n+T.n=(j+1)*T.n by rw[fP];omega];exact dY _ af
      rw[JM af,AS cO];exact h1
     ·have nS:j<xs.length:=by omega
      rw[List.getElem_append_right af,we];have h1:=hr j nS;have e1:ys.length+(j-ys.length)=j:=af;have h3:us.length≤j*T.n:=by rw[iN];exact dY _ af
      have e2:(us++vs.drop us.length).drop (j*T.n)=vs.drop (j*T.n):=by rw[List.drop_append,JQ h3,wh,xF,show us.length+(j*T.n-us.length)=j*T.n by omega]
      rw[e2];simp only[e1];exact h1
   ·simp at hj
  ·intro k y ht;simp only[a9]at ht;split at ht
   ·simp only[aO]at ht;subst ht;intro id al;simp[Info.aD,AV.aD,C.aD]at al
   ·split at ht
    ·simp only[aO]at ht;subst ht;intro id al;simp[Info.aD,aJ.aD]at al
    ·simp at ht
  ·intro j y ht;simp only[a9,reduceCtorEq,cP]at ht;split at ht
   ·rename_i e;simp only[Key.m.injEq]at e;exact .inl (e▸aH.fy _ _ hσ)
   ·simp at ht
 ·intro kx aS;rcases bX.1 aS with h|h
  ·rcases bX.1 h with h|h
   ·exact fY _ x kx h
   ·exact fY _ y kx h
  ·exact rB _ [id] kx h
 ·intro k hk;simp only[dO,dZ,bX]at hk;rcases hk with(h|h)|h
  ·exact fM _ (fR st [x,y] k yX)
  ·exact fM _ (fR st [x,y] k yY)
  ·exact jY _ (qf st [id] k h)
end
end Go.El
namespace Go.El
open Go Go.RowKit Go.Proofs
section
variable{n:Nat}{sl sl':List (Nat×AV)}{mem mem':List (Nat×aJ)}{nx:Nat}{gd gd':List (Nat×Bool)}{ops:Array Oper}{draw:Bool}{p:Pr}{ks cj:List Ks}{i i' n0 b7:Nat}{os cE:List Oper}{d:Nat}{ty:TypeId}{pos:String}{cJ:Array Edge}{R:St→Prop}
def nX(id:Nat){f:FuncId}{args:Array Operand}{di:Array TypeId}{vs:List AV}{E:TypeId}{T:ET}{xs kc:List T.den}{r:AV}(h:runs eB n nx draw ops.toList os i ⟨sl,mem,n0,gd⟩ .t ks=(⟨some d,.call ⟨.value (.func f),args,di⟩,ty,pos,cJ,none⟩::cE,i',⟨sl',mem',b7,gd'⟩,p,cj))(hf:mZ Tryz.prog f vs E T xs r kc)(hv:kB ⟨sl',mem',b7,gd'⟩ args.toList=some (vs.map (G6 id)))(hl:ao id mem'=some (.vec E T xs))
  (hk:RG Tryz.prog n ops draw nx (i'+1) cE ⟨(d,r)::sl',(id,.vec E T kc)::mem',b7,gd'⟩ (fi draw cj (cF args.toList++fp [id],[.s d,.m id])) R)
  (hp:p:=by first|trivial| (simp only[Pr.an,Pr.h,num,aA,true_and,and_true];first|done|omega)| (simp[Pr.an,Pr.h,num,aA];done)| (simp[Pr.an,Pr.h,num,aA];omega)) (aV:Nat.blt d n=true:=by rfl):RG Tryz.prog n ops draw nx i os ⟨sl,mem,n0,gd⟩ ks R:=
 jB ar h hp (aih hv hl hf hk aV)
def X4(u v:Nat){t:TypeId}{x lo hi:Operand}{id:Nat}{E:TypeId}{T:ET}{xs:List T.den}{k1 k2:IntKind}{a b:Int}(h:runs eB n nx draw ops.toList os i ⟨sl,mem,n0,gd⟩ .t ks=(⟨some d,.slice t x (some lo) (some hi) none,ty,pos,cJ,none⟩::cE,i',⟨sl',mem',b7,gd'⟩,p,cj))
  (hx:St.ev ⟨sl',mem',b7,gd'⟩ x=some (.c (.X id))) (hl:ao id mem'=some (.vec E T xs)) (Qy:St.ev ⟨sl',mem',b7,gd'⟩ lo=some (.c (.I k1 a))) (nv:St.ev ⟨sl',mem',b7,gd'⟩ hi=some (.c (.I k2 b))) (ea:a=(u:Int)) (eb:b=(v:Int)) (zX:u<v) (hv:v≤xs.length)
  (hk:RG Tryz.prog n ops draw nx (i'+1) cE ⟨(d,.c (.W id u (v-u)))::sl',mem',b7,gd'⟩ (fi draw cj (cF [x,lo,hi]++fp [id],[.s d])) R) (hT:T.n=1:=by rfl) (dc:wA eB t 1=true:=by rfl)
  (hp:p:=by first|trivial| (simp only[Pr.an,Pr.h,num,aA,true_and,and_true];first|done|omega)| (simp[Pr.an,Pr.h,num,aA];done)| (simp[Pr.an,Pr.h,num,aA];omega)) (aV:Nat.blt d n=true:=by rfl):RG Tryz.prog n ops draw nx i os ⟨sl,mem,n0,gd⟩ ks R:=
 jB ar h hp (kM (λho=>aii ar ho ae ae (cT aV) ae hx hl Qy nv hT dc ea eb zX hv) (jA hk))
def G9{x y:Operand}{t1 t2:TypeId}{id:Nat}{E E1:TypeId}{T:ET}{xs ys:List T.den}{ei:TI}(h:runs eB n nx draw ops.toList os i ⟨sl,mem,n0,gd⟩ .t ks=(⟨some d,.call ⟨.builtin .copy,#[x,y],#[t1,t2]⟩,ty,pos,cJ,none⟩::cE,i',⟨sl',mem',b7,gd'⟩,p,cj))
  (hx:St.ev ⟨sl',mem',b7,gd'⟩ x=some (.c (.X id))) (hl:ao id mem'=some (.vec E T xs)) (hy:St.ev ⟨sl',mem',b7,gd'⟩ y=some (.c (.S T ys))) (hT:D7 eB t1 t2=some (E1,ei)) (hle:ys.length≤xs.length) (aN:xs≠[])
  (hk:RG Tryz.prog n ops draw nx (i'+1) cE ⟨(d,.c (.I .i64 ys.length))::sl',(id,.vec E T (ys++xs.drop ys.length))::mem',b7,gd'⟩ (fi draw cj (cF [x,y]++fp [id],[.s d,.m id])) R) (kL:ei.size=T.n:=by rfl)
  (hp:p:=by first|trivial| (simp only[Pr.an,Pr.h,num,aA,true_and,and_true];first|done|omega)| (simp[Pr.an,Pr.h,num,aA];done)| (simp[Pr.an,Pr.h,num,aA];omega)) (aV:Nat.blt d n=true:=by rfl):RG Tryz.prog n ops draw nx i os ⟨sl,mem,n0,gd⟩ ks R:=
 jB ar h hp (kM (λho=>aik ar ho ae ae (cT aV) ae hx hl hy hT kL hle aN) (jA hk))
end
end Go.El
namespace Go.El
open Go Go.Proofs
def wL(ws:List Int):aG Tryz.prog 234 [cS aE ws] (cS aE (a6 ws)):=by
 refine aX Tryz.func234 ae ae ae ae ae ak (zL 0 ae λhb=>?_);simp only[ET.n,kT]at hb;refine rr ae (rr ae ?_);refine aj (aK (bA (α:=Nat) (λk=>⟨[(0,cS aE ws),(3,cI k)],[],2,[]⟩) (λk=>k≤ws.length∧iI ws k=iI ws ws.length) (λk=>k) ws.length ⟨bF _,ae⟩ ck ?_));rintro k ⟨hk,iO⟩;have fin:∀v,k=0∨ws.getD (k-1) 0≠0→v=List.take k ws→au (cS aE v) (cS aE (a6 ws)):=by
  intro v h1 h2;refine au.of_eq ?_;subst h2;unfold a6;rw[←iO];cases k with
  |zero=>rfl
  |succ k=>
   rcases h1 with h1|h1
   ·omega
   ·simp only[jx]at h1;simp only[iI,h1,cP]
 refine aj (rb ?_);refine rg 8 ae ae (λh=>?_) (λh=>?_)
 ·simp at h;refine re ae (ax ae (λh2=>?_) (λh2=>?_))
  ·refine aC (ai (aK (rt ae (a7 (a8 (k-1) ⟨by omega,?_⟩ (by show k-1<k;omega) (wk ⟨sR ae,sE ae ?_,ah⟩ ah))))))
   ·rw[←iO];obtain⟨j,rfl⟩:∃j,k=j+1:=⟨k-1,by omega⟩;have h3:ws.getD j 0=0:=by have:(((j+1:Nat):Int)-1).toNat=j:=af;simpa[this]using h2
    simp only[jx,iI,h3,cM]
   ·congr 2;omega
  ·refine bp (bu (br (bq (ai (rr ae (aF (aL ar ae (fin _ (.inr ?_) ?_))))))))
   ·have:((k:Int)-1).toNat=k-1:=by omega
    simpa[this]using h2
   ·simp
 ·simp at h;subst h;refine re ae (ax ae (λh2=>by simp at h2) (λ_=>?_));exact bp (bu (br (bq (ai (rr ae (aF (aL ar ae (fin _ (.inl ae) ae))))))))
def zY(ws:List Int):aG Tryz.prog 176 [cS aE ws] (cS aE (a6 ws)):=by
 refine aX Tryz.func176 ae ae ae ae ae ak (zL 0 ae λhb=>?_);simp only[ET.n,kT]at hb;refine rr ae (rr ae ?_);refine aj (aK (bA (α:=Nat) (λk=>⟨[(0,cS aE ws),(3,cI k)],[],2,[]⟩) (λk=>k≤ws.length∧iI ws k=iI ws ws.length) (λk=>k) ws.length ⟨bF _,ae⟩ ck ?_));rintro k ⟨hk,iO⟩;have fin:∀v,k=0∨ws.getD (k-1) 0≠0→v=List.take k ws→au (cS aE v) (cS aE (a6 ws)):=by
  intro v h1 h2;refine au.of_eq ?_;subst h2;unfold a6;rw[←iO];cases k with
  |zero=>rfl
  |succ k=>
   rcases h1 with h1|h1
   ·omega
   ·simp only[jx]at h1;simp only[iI,h1,cP]
 refine aj (rb ?_);refine rg 8 ae ae (λh=>?_) (λh=>?_)
 ·simp at h;refine re ae (ax ae (λh2=>?_) (λh2=>?_))
  ·refine aC (ai (aK (rt ae (a7 (a8 (k-1) ⟨by omega,?_⟩ (by show k-1<k;omega) (wk ⟨sR ae,sE ae ?_,ah⟩ ah))))))
   ·rw[←iO];obtain⟨j,rfl⟩:∃j,k=j+1:=⟨k-1,by omega⟩;have h3:ws.getD j 0=0:=by have:(((j+1:Nat):Int)-1).toNat=j:=af;simpa[this]using h2
    simp only[jx,iI,h3,cM]
   ·congr 2;omega
  ·refine bp (bu (br (bq (ai (rr ae (aF (aL ar ae (fin _ (.inr ?_) ?_))))))))
   ·have:((k:Int)-1).toNat=k-1:=by omega
    simpa[this]using h2
   ·simp
 ·simp at h;subst h;refine re ae (ax ae (λh2=>by simp at h2) (λ_=>?_));exact bp (bu (br (bq (ai (rr ae (aF (aL ar ae (fin _ (.inl ae) ae))))))))
def wrap_u32(n:Int)(h0:0≤n)(h1:n<4294967296):IntKind.wrap .u32 n=n:=by simp[IntKind.wrap,IntKind.bits,IntKind.signed];omega
def wrap_u64(n:Int)(h0:0≤n)(h1:n<18446744073709551616):IntKind.wrap .u64 n=n:=by simp[IntKind.wrap,IntKind.bits,IntKind.signed];omega
def X5(m:Nat)(hm:m<18446744073709551616):a6 [((m%4294967296:Nat):Int),((m/4294967296:Nat):Int)]=ay m:=by have hr:bT [((m%4294967296:Nat):Int),((m/4294967296:Nat):Int)]:=zp.mpr ⟨by omega,zp.mpr ⟨by omega,Pa⟩⟩;rw[pX hr];congr 1;simp only[val];omega
def BO(m:Nat)(hm:m<18446744073709551616):aG Tryz.prog 112 [cU m] (cS aE (ay m)):=by
 refine aX Tryz.func112 ae ae ae ae ae ak ?_;refine rr ae (rb ?_);have e1:IntKind.wrap .u32 ((m:Int).tmod 4294967296)=((m%4294967296:Nat):Int):=by rw[wrap_u32]<;>(rw[qZ af];omega)
 have e2:IntKind.wrap .u32 (IntKind.wrap .u64 ((m:Int).tdiv 4294967296))=((m/4294967296:Nat):Int):=by
  have:(m:Int).tdiv 4294967296=((m/4294967296:Nat):Int):=by rw[AU af];omega
  rw[this,wrap_u64 _ af af,wrap_u32 _ af af]
 refine rl aE [_,_] ae ae ?_;refine rc ae ae (zY _) ?_;refine re ae (aF (aL ar ae (au.of_eq ?_)));rw[e1,e2,X5 m hm]
def aim(neg:Bool)(ws:List Int):aG Tryz.prog 107 [cB neg,cS aE ws] (.a [.B (neg&&decide (0<(a6 ws).length)),.S aE (a6 ws)]):=by
 refine aX Tryz.func107 ae ae ae ae ae ak ?_;refine rr ae (rb ?_);refine rc ae ae (zY _) ?_;refine re ae (rb ?_);refine rg 9 ae ae (λh=>?_) (λh=>?_)
 ·refine re ae (aF (aL ar ae (au.of_eq ?_)));subst h;have e:decide (((a6 ws).length:Int)>0)=(true&&decide (0<(a6 ws).length)):=be;exact az (λb=>AV.a [C.B b,C.S aE (a6 ws)]) e
 ·refine re ae (aF (aL ar ae (au.of_eq ?_)));subst h;rfl
def BP(ws:List Int)(i:Nat)(hr:bT ws):aG Tryz.prog 177 [cS aE ws,cI i] (cU (ws.getD i 0)):=by
 refine aX Tryz.func177 ae ae ae ae ae ak ?_;refine rr ae (aj (rr ae ?_));have:=cZ hr i;refine ax ae (λh=>?_) (λh=>?_)
 ·simp at h;refine rr ae (aF (bW (aL ar ae (au.of_eq ?_))));have e:IntKind.wrap .u64 (ws.getD (i:Int).toNat 0)=ws.getD i 0:=by rw[bw,wrap_u64 _ this.1 af]
  exact az (λx=>AV.c (C.I .u64 x)) e
 ·simp at h;refine aC (ai (rr ae (aF (aL ar ae (au.of_eq ?_)))));have e:ws.getD i 0=0:=by simp[aY,ni h]
  rw[e];rfl
def dn(a b:Int):Int:=if a<b then-1 else if b<a then 1 else 0
def ain(a b:List Int)(ha:bT a)(hb:bT b)(ca:can a)(cb:can b):aG Tryz.prog 109 [cS aE a,cS aE b] (cI (dn (val a) (val b))):=by
 refine aX Tryz.func109 ae ae ae ae ae ak (zL 0 ae λQB=>zL 1 ae λqo=>?_);simp only[ET.n,kT]at QB qo;refine rr ae (aj (rr ae ?_));refine ax ae (λh=>?_) (λh=>?_)
 ·simp at h;refine rr ae (aF (bW (aL ar ae (au.of_eq ?_))));rw[dn,aw (Ka ha hb cb h)];rfl
 ·simp at h;refine aC (ai (aj (rr ae ?_)));refine ax ae (λh2=>?_) (λh2=>?_)
  ·simp at h2;refine rr ae (aF (bW (aL ar ae (au.of_eq ?_))));have:=Ka hb ha ca h2;rw[dn,aq af,aw this];rfl
  ·simp at h2;have hl:a.length=b.length:=af;refine aC (ai (aj (rr ae ?_)));refine aK (bA (α:=Nat) (λk=>⟨[(0,cS aE a),(1,cS aE b),(5,cI ((k:Int)-1))],[],4,[]⟩) (λk=>k≤a.length∧a.drop k=b.drop k) (λk=>k) a.length ⟨bF _,by simp[hl]⟩ ck ?_);rintro k ⟨hk,hd⟩;refine aj (rr ae ?_);refine ax ae (λh3=>?_) (λh3=>?_)
   ·simp at h3;obtain⟨j,rfl⟩:∃j,k=j+1:=⟨k-1,by omega⟩;have hj:(((j+1:Nat):Int)-1)=j:=af;have bh:j<a.length:=af;rw[hj];refine aC (ai (aj (aK (aj (rr ae ?_)))));have ga:=cZ ha j;have gb:=cZ hb j;refine ax ae (λh4=>?_) (λh4=>?_)
    ·simp at h4;refine rr ae (aF ?_);repeat(first|refine bW ?_|refine fC ?_|refine ix ?_)
     refine aL ar ae (au.of_eq ?_);rw[dn,aw (Kb ha hb j hd hl bh h4)];rfl
    ·have h4:¬(a.getD j 0<b.getD j 0):=by simpa using h4
     refine aC (ai (rr ae ?_));refine ax ae (λh5=>?_) (λh5=>?_)
     ·simp at h5;refine rr ae (aF ?_);repeat(first|refine bW ?_|refine fC ?_|refine ix ?_)
      refine aL ar ae (au.of_eq ?_);have:=Kb hb ha j hd.symm hl.symm af h5;rw[dn,aq af,aw this];rfl
     ·have h5:¬(a.getD j 0>b.getD j 0):=by simpa using h5
      refine aC (a7 (ai (rt ae (a8 j ⟨by omega,?_⟩ pP ck))));have e:a.getD j 0=b.getD j 0:=af;have Hb:j<b.length:=af;rw[pR bh,pR Hb,hd];simp only[aY,ct bh,ct Hb,De]at e;rw[e]
   ·simp at h3;have:k=0:=af;subst this;refine bp (bu (br (bq (ai (rr ae (aF ?_))))));repeat(first|refine bW ?_|refine fC ?_|refine ix ?_)
    refine aL ar ae (au.of_eq ?_);simp only[wi]at hd;rw[hd,dn,aq af,aq af];rfl
def mq(o:List Int)(i j:Nat)(w:Int)(h:i<o.length):(o.set i w).getD j 0=if i=j then w else o.getD j 0:=by
 simp only[aY,F7];by_cases e:i=j
 ·subst e;simp[h]
 ·simp[e]
def Hc(o:List Int)(i:Nat)(w:Int)(h:i<o.length)(hz:o.getD i 0=0):val (o.set i w)=val o+w*4294967296^i:=by rw[Pc o i w h,hz];simp
structure Ee(a b:List Int)(m:Nat)(x:Nat×List Int×Int):Prop where
 i:x.1≤m
 len:x.2.1.length=m
 r:bT x.2.1
 z:∀j,x.1≤j→x.2.1.getD j 0=0
 c0:0≤x.2.2
 c1:x.2.2≤1
 v:val x.2.1+x.2.2*4294967296^x.1=val (a.take x.1)+val (b.take x.1)
def Ee.next{a b:List Int}{m:Nat}{x:Nat×List Int×Int}(h:Ee a b m x)(hi:x.1<m)(ha:bT a)(hb:bT b):Ee a b m (x.1+1,x.2.1.set x.1 ((a.getD x.1 0+b.getD x.1 0+x.2.2)%4294967296),(a.getD x.1 0+b.getD x.1 0+x.2.2)/4294967296):=by
 have h1:=cZ ha x.1;have h2:=cZ hb x.1;have h3:=h.c0;have h4:=h.c1;refine⟨hi,by simp[h.len],zr h.r _ ⟨by omega,by omega⟩,?_,(by show 0≤_/_;omega),(by show _/_≤1;omega),?_⟩
 ·intro j hj;simp only at hj;rw[mq _ _ _ _ (by rw[h.len];exact hi),aq af];exact h.z j af
 ·simp only;rw[Hc _ _ _ (by rw[h.len];exact hi) (h.z _ (bF _)),kV,kV,fO];have hv:=h.v;generalize (4294967296:Int)^x.1=q at hv⊢;generalize ht:a.getD x.1 0+b.getD x.1 0+x.2.2=s;have hs:s%4294967296+s/4294967296*4294967296=s:=af;have:val x.2.1=val (a.take x.1)+val (b.take x.1)-x.2.2*q:=af;rw[this];have e:s%4294967296*q+s/4294967296*(q*4294967296)=s*q:=by rw[show s/4294967296*(q*4294967296)=s/4294967296*4294967296*q by grind,←lF,hs]
  have e2:s*q=a.getD x.1 0*q+b.getD x.1 0*q+x.2.2*q:=by rw[←ht];grind
  omega
def X6(x y:Nat):(if(y:Int)>x then(y:Int)else x)=((max x y:Nat):Int):=by
 by_cases h:(y:Int)>x
 ·rw[aw h];omega
 ·rw[aq h];omega
def aio(a b:List Int)(ha:bT a)(hb:bT b)(la:a.length≤1099511627776)(lb:b.length≤1099511627776):aG Tryz.prog 108 [cS aE a,cS aE b] (cS aE (ay (val a+val b).toNat)):=by
 refine aX Tryz.func108 ae ae ae ae ae ak ?_;refine rr ae (rr ae (rb ?_));refine rm aE (max a.length b.length+1) ae ae ae ae ae ae (lN .u32) ?_ ?_ ?_ ?_
 ·rw[X6];rfl
 ·show _*4≤_;omega
 ·show _*1≤_;omega
 refine re ae (rr ae (aj (rr ae ?_)));generalize hM:max a.length b.length+1=M;refine aK (bA (α:=Nat×List Int×Int) (λx=>⟨[(0,cS aE a),(1,cS aE b),(5,cI M),(6,.c (.X 2001000)),(7,cU x.2.2),(8,cI x.1)],[(2001000,.vec 23 aE x.2.1)],5,[]⟩) (Ee a b M) (λx=>M-x.1) (0,List.replicate M 0,0) ?_ ?_ ?_)
 ·refine⟨bK _,by simp,so M,?_,jH _,JH,by simp[wq,val]⟩;intro j _;simp only[aY,mM];split<;>rfl
 ·refine wk ⟨sR ae,sR ae,sE ae ?_,sR ae,sR ae,sR ae,ah⟩ ⟨bR ae,ah⟩;rw[X6,←hM];congr 2
 ·rintro⟨i,o,c⟩ hI;have hlen:o.length=M:=hI.len;have oF:0≤c:=hI.c0;have lJ:c≤1:=hI.c1;have ga:=cZ ha i;have gb:=cZ hb i;refine aj (rr ae ?_);refine ax ae (λh=>?_) (λh=>?_)
  ·have h:i<M:=by simpa using h
   refine aC (ai (aj (aK (rb ?_))));refine rc ae ae (BP a i ha) (rc ae ae (BP b i hb) (re ae ?_));have e0:IntKind.wrap .u64 (IntKind.wrap .u64 (a.getD i 0+b.getD i 0)+c)=a.getD i 0+b.getD i 0+c:=by rw[wrap_u64 (a.getD i 0+b.getD i 0) af af,wrap_u64 _ af af]
   rw[e0];generalize ht:a.getD i 0+b.getD i 0+c=s;have e1:IntKind.wrap .u32 (s.tmod 4294967296)=s%4294967296:=by rw[qZ af,wrap_u32 _ af af]
   have e2:IntKind.wrap .u64 (s.tdiv 4294967296)=s/4294967296:=by rw[AU af,wrap_u64 _ af af]
   have hn:=hI.next h ha hb;simp only[ht]at hn;refine rr ae (rt ae (a7 (ai (rt ae (a8 (i+1,o.set i (s%4294967296),s/4294967296) hn FQ (wk ⟨sR ae,sR ae,sR ae,sR ae,sE ae ?_,sE ae ?_,ah⟩ ⟨bE ae ?_,ah⟩))))))
   ·exact az (λx=>AV.c (C.I .u64 x)) e2
   ·rfl
   ·rw[e1,bw]
  ·have h:¬i<M:=by simpa using h
   have hi:i=M:=by have:=hI.i;simp only at this;omega
   refine bp (bu (br (bq (ai (fS 2001000 ae ae ae (rb ?_))))));refine rc ae ae (zY _) (re ae (aF (aL ar ae (au.of_eq ?_))));have hv:=hI.v;simp only at hv;have hr:bT o:=hI.r;have jl:=nR hr;have tR:=mi hr;have Hd:val (a.take i)=val a:=np a i af;have He:val (b.take i)=val b:=np b i af;have Ef:=nR ha;have hlb:=nR hb;have pa:(4294967296:Int)^a.length≤4294967296^(M-1):=uQ af;have pb:(4294967296:Int)^b.length≤4294967296^(M-1):=uQ af;have pm:(4294967296:Int)^M=4294967296^(M-1)*4294967296:=by rw[←fO];congr 1;omega
   have oD:=jR (M-1);have hc:c=0:=by
    rw[Hd,He,hi,pm]at hv;rcases Int.lt_or_le c 1 with bh|tD
    ·omega
    ·have:c=1:=by omega
     subst this;omega
   rw[pX hr];subst hc;rw[Hd,He]at hv;simp only[kJ,nl]at hv;rw[hv]
structure Hf(a b:List Int)(m:Nat)(x:Nat×List Int×Int):Prop where
 i:x.1≤m
 len:x.2.1.length=m
 r:bT x.2.1
 z:∀j,x.1≤j→x.2.1.getD j 0=0
 c0:0≤x.2.2
 c1:x.2.2≤1
 v:val x.2.1-x.2.2*4294967296^x.1=val (a.take x.1)-val (b.take x.1)
def Hf.next{a b:List Int}{m:Nat}{x:Nat×List Int×Int}(h:Hf a b m x)(hi:x.1<m)(ha:bT a)(hb:bT b):Hf a b m (x.1+1,x.2.1.set x.1 ((4294967296+a.getD x.1 0-b.getD x.1 0-x.2.2)%4294967296),1-(4294967296+a.getD x.1 0-b.getD x.1 0-x.2.2)/4294967296):=by
 have h1:=cZ ha x.1;have h2:=cZ hb x.1;have h3:=h.c0;have h4:=h.c1;refine⟨hi,by simp[h.len],zr h.r _ ⟨by omega,by omega⟩,?_,(by show 0≤1-_/_;omega),(by show 1-_/_≤1;omega),?_⟩
 ·intro j hj;simp only at hj;rw[mq _ _ _ _ (by rw[h.len];exact hi),aq af];exact h.z j af
 ·simp only;rw[Hc _ _ _ (by rw[h.len];exact hi) (h.z _ (bF _)),kV,kV,fO];have hv:=h.v;generalize (4294967296:Int)^x.1=q at hv⊢;generalize ht:4294967296+a.getD x.1 0-b.getD x.1 0-x.2.2=s;have hs:s%4294967296+s/4294967296*4294967296=s:=af;have:val x.2.1=val (a.take x.1)-val (b.take x.1)+x.2.2*q:=af;rw[this];have e:s%4294967296*q+s/4294967296*(q*4294967296)=s*q:=by rw[show s/4294967296*(q*4294967296)=s/4294967296*4294967296*q by grind,←lF,hs]
  have e2:s*q=4294967296*q+a.getD x.1 0*q-b.getD x.1 0*q-x.2.2*q:=by rw[←ht];grind
  have e3:(1-s/4294967296)*(q*4294967296)=4294967296*q-s/4294967296*(q*4294967296):=by grind
  omega
def aip(a b:List Int)(ha:bT a)(hb:bT b)(hl:b.length≤a.length)(hle:val b≤val a)(la:a.length≤1099511627776):aG Tryz.prog 110 [cS aE a,cS aE b] (cS aE (ay (val a-val b).toNat)):=by
 refine aX Tryz.func110 ae ae ae ae ae ak ?_;refine rr ae (rb ?_);refine rm aE a.length ae ae ae ae ae ae (lN .u32) ae ?_ ?_ ?_
 ·show _*4≤_;omega
 ·show _*1≤_;omega
 refine re ae (rr ae (aj (rr ae ?_)));generalize hM:a.length=M;refine aK (bA (α:=Nat×List Int×Int) (λx=>⟨[(0,cS aE a),(1,cS aE b),(5,.c (.X 1002000)),(6,cU x.2.2),(7,cI x.1)],[(1002000,.vec 23 aE x.2.1)],4,[]⟩) (Hf a b M) (λx=>M-x.1) (0,List.replicate M 0,0) ?_ ?_ ?_)
 ·refine⟨bK _,by simp,so M,?_,jH _,JH,by simp[wq,val]⟩;intro j _;simp only[aY,mM];split<;>rfl
 ·exact wk ⟨sR ae,sR ae,sR ae,sR ae,sR ae,ah⟩ ⟨bR ae,ah⟩
 ·rintro⟨i,o,c⟩ hI;have hlen:o.length=M:=hI.len;have oF:0≤c:=hI.c0;have lJ:c≤1:=hI.c1;have ga:=cZ ha i;have gb:=cZ hb i;refine aj (rr ae ?_);refine ax ae (λh=>?_) (λh=>?_)
  ·have h:i<M:=by simpa[hM]using h
   refine aC (ai (aj (aK (rb ?_))));refine rc ae ae (BP b i hb) (re ae ?_);have e0:IntKind.wrap .u64 (IntKind.wrap .u64 (IntKind.wrap .u64 (4294967296+IntKind.wrap .u64 (a.getD (i:Int).toNat 0))-b.getD i 0)-c)=4294967296+a.getD i 0-b.getD i 0-c:=by rw[bw,wrap_u64 (a.getD i 0) af af,wrap_u64 (4294967296+a.getD i 0) af af,wrap_u64 (4294967296+a.getD i 0-b.getD i 0) af af,wrap_u64 _ af af]
   simp only[e0];generalize ht:4294967296+a.getD i 0-b.getD i 0-c=s;have e1:IntKind.wrap .u32 (s.tmod 4294967296)=s%4294967296:=by rw[qZ af,wrap_u32 _ af af]
   have e2:IntKind.wrap .u64 (1-IntKind.wrap .u64 (s.tdiv 4294967296))=1-s/4294967296:=by rw[AU af,wrap_u64 (s/4294967296) af af,wrap_u64 _ af af]
   have hn:=hI.next h ha hb;simp only[ht]at hn;refine rr ae (rt ae (a7 (ai (rt ae (a8 (i+1,o.set i (s%4294967296),1-s/4294967296) hn FQ (wk ⟨sR ae,sR ae,sR ae,sE ae ?_,sE ae ?_,ah⟩ ⟨bE ae ?_,ah⟩))))))
   ·exact az (λx=>AV.c (C.I .u64 x)) e2
   ·rfl
   ·rw[e1,bw]
  ·have h:¬i<M:=by simpa[hM]using h
   have hi:i=M:=by have:=hI.i;simp only at this;omega
   refine bp (bu (br (bq (ai (fS 1002000 ae ae ae (rb ?_))))));refine rc ae ae (zY _) (re ae (aF (aL ar ae (au.of_eq ?_))));have hv:=hI.v;simp only at hv;have hr:bT o:=hI.r;have jl:=nR hr;have tR:=mi hr;have Hd:val (a.take i)=val a:=np a i af;have He:val (b.take i)=val b:=np b i af;have oD:=jR M;rw[hlen]at jl;have hc:c=0:=by
    rw[Hd,He,hi]at hv;rcases Int.lt_or_le c 1 with bh|tD
    ·omega
    ·have:c=1:=by omega
     subst this;omega
   rw[pX hr];subst hc;rw[Hd,He]at hv;simp only[kJ,Di]at hv;rw[hv]
structure QC(a b:List Int)(x:Nat×List Int):Prop where
 i:x.1≤a.length
 len:x.2.length=a.length+b.length
 r:bT x.2
 z:∀j,x.1+b.length≤j→x.2.getD j 0=0
 v:val x.2=val (a.take x.1)*val b
structure BQ(a b:List Int)(i:Nat)(x:Nat×List Int×Int):Prop where
 k:x.1≤b.length
 len:x.2.1.length=a.length+b.length
 r:bT x.2.1
 z:∀j,i+b.length≤j→x.2.1.getD j 0=0
 c0:0≤x.2.2
 c1:x.2.2<4294967296
 v:val x.2.1+x.2.2*4294967296^(i+x.1)=val (a.take i)*val b+a.getD i 0*val (b.take x.1)*4294967296^i
def Hg{x y:Int}(hx:0≤x)(nz:x≤4294967295)(hy:0≤y)(Hh:y≤4294967295):0≤x*y∧x*y≤18446744065119617025:=by refine⟨j4 hx hy,?_⟩;have h1:x*y≤4294967295*y:=jD nz hy;omega
def BQ.next{a b:List Int}{i:Nat}{x:Nat×List Int×Int}(h:BQ a b i x)(hi:i<a.length)(hk:x.1<b.length)(ha:bT a)(hb:bT b):BQ a b i (x.1+1,x.2.1.set (i+x.1) ((a.getD i 0*b.getD x.1 0+x.2.1.getD (i+x.1) 0+x.2.2)%4294967296),(a.getD i 0*b.getD x.1 0+x.2.1.getD (i+x.1) 0+x.2.2)/4294967296):=by
 have h1:=cZ ha i;have h2:=cZ hb x.1;have h3:=h.c0;have h4:=h.c1;have h5:=cZ h.r (i+x.1);have h6:=Hg h1.1 af h2.1 af;have bh:i+x.1<x.2.1.length:=by rw[h.len];omega
 refine⟨hk,by simp[h.len],zr h.r _ ⟨by omega,by omega⟩,?_,(by show 0≤_/_;omega),(by show _/_<(4294967296:Int);omega),?_⟩
 ·intro j hj;simp only;rw[mq _ _ _ _ bh,aq af];exact h.z j hj
 ·simp only;rw[Pc _ _ _ bh,kV,←tA,fO];have hv:=h.v;have hp:(4294967296:Int)^(i+x.1)=4294967296^i*4294967296^x.1:=Int.pow_add ..;generalize hq:(4294967296:Int)^(i+x.1)=q at hv hp⊢;generalize ht:a.getD i 0*b.getD x.1 0+x.2.1.getD (i+x.1) 0+x.2.2=s;have hs:s%4294967296+s/4294967296*4294967296=s:=af;have e:s%4294967296*q+s/4294967296*(q*4294967296)=s*q:=by rw[show s/4294967296*(q*4294967296)=s/4294967296*4294967296*q by grind,←lF,hs]
  have e2:s*q=a.getD i 0*b.getD x.1 0*q+x.2.1.getD (i+x.1) 0*q+x.2.2*q:=by rw[←ht];grind
  have e3:(s%4294967296-x.2.1.getD (i+x.1) 0)*q=s%4294967296*q-x.2.1.getD (i+x.1) 0*q:=by grind
  have e4:a.getD i 0*(val (b.take x.1)+b.getD x.1 0*4294967296^x.1)*4294967296^i=a.getD i 0*val (b.take x.1)*4294967296^i+a.getD i 0*b.getD x.1 0*q:=by rw[hp];grind
  rw[e3,e4];omega
def BQ.done{a b:List Int}{i:Nat}{o:List Int}{c:Int}(h:BQ a b i (b.length,o,c))(hi:i<a.length):QC a b (i+1,o.set (i+b.length) c):=by
 have hlen:o.length=a.length+b.length:=h.len;have h3:=h.c0;have h4:=h.c1;have hz:o.getD (i+b.length) 0=0:=h.z _ (bF _);refine⟨hi,by simp[hlen],zr h.r _ ⟨h3,h4⟩,?_,?_⟩
 ·intro j hj;simp only at hj⊢;rw[mq _ _ _ _ af,aq af];exact h.z j af
 ·simp only;rw[Hc _ _ _ af hz,kV];have hv:=h.v;simp only[iV]at hv;rw[hv];grind
set_option maxHeartbeats 1000000 in
def aiq(a b:List Int)(ha:bT a)(hb:bT b)(la:a.length≤1099511627776)(lb:b.length≤1099511627776):aG Tryz.prog 111 [cS aE a,cS aE b] (cS aE (ay (val a*val b).toNat)):=by
 refine aX Tryz.func111 ae ae ae ae ae ak ?_;refine rr ae (rb ?_);refine rm aE (a.length+b.length) ae ae ae ae ae ae (lN .u32) ae ?_ ?_ ?_
 ·show _*4≤_;omega
 ·show _*1≤_;omega
 refine re ae (aj (rr ae ?_));refine aK (bA (α:=Nat×List Int) (λx=>⟨[(0,cS aE a),(1,cS aE b),(5,.c (.X 1005000)),(6,cI x.1)],[(1005000,.vec 23 aE x.2)],3,[]⟩) (QC a b) (λx=>a.length-x.1) (0,List.replicate (a.length+b.length) 0) ?_ ?_ ?_)
 ·refine⟨bK _,by simp,so _,?_,by simp[wq,val]⟩;intro j _;simp only[aY,mM];split<;>rfl
 ·exact wk ⟨sR ae,sR ae,sR ae,sR ae,ah⟩ ⟨bR ae,ah⟩
 ·rintro⟨i,o⟩ hO;have hlen:o.length=a.length+b.length:=hO.len;refine aj (rr ae ?_);refine ax ae (λh=>?_) (λh=>?_)
  ·have h:i<a.length:=by simpa using h
   refine aC (ai (aj (aK (rr ae (aj (rr ae ?_))))));refine aK (bA (α:=Nat×List Int×Int) (λx=>⟨[(0,cS aE a),(1,cS aE b),(5,.c (.X 1005000)),(6,cI i),(7,cU x.2.2),(8,cI x.1)],[(1005000,.vec 23 aE x.2.1)],6,[]⟩) (BQ a b i) (λx=>b.length-x.1) (0,o,0) ?_ ?_ ?_)
   ·refine⟨bK _,hlen,hO.r,hO.z,jH _,(by show(0:Int)<_;decide),?_⟩;have:=hO.v;simp only at this;simp[this,val]
   ·exact wk ⟨sR ae,sR ae,sR ae,sR ae,sR ae,sR ae,ah⟩ ⟨bR ae,ah⟩
   ·rintro⟨k,o,c⟩ hI;have hlen:o.length=a.length+b.length:=hI.len;have oF:0≤c:=hI.c0;have lJ:c<4294967296:=hI.c1;refine aj (rr ae ?_);refine ax ae (λh2=>?_) (λh2=>?_)
    ·have h2:k<b.length:=by simpa using h2
     have ga:=cZ ha i;have gb:=cZ hb k;have go:=cZ hI.r (i+k);simp only at go;have gm:=Hg ga.1 af gb.1 af;refine aC (ai (aj (aK (rr ae ?_ (hp:=jN)))));have yb:((i:Int)+(k:Int)).toNat=i+k:=af;have e0:IntKind.wrap .u64 (IntKind.wrap .u64 (IntKind.wrap .u64 (IntKind.wrap .u64 (a.getD (i:Int).toNat 0)*IntKind.wrap .u64 (b.getD (k:Int).toNat 0))+IntKind.wrap .u64 (o.getD ((i:Int)+(k:Int)).toNat 0))+c)=a.getD i 0*b.getD k 0+o.getD (i+k) 0+c:=by rw[yb,bw,bw,wrap_u64 (a.getD i 0) af af,wrap_u64 (b.getD k 0) af af,wrap_u64 (o.getD (i+k) 0) af af,wrap_u64 (a.getD i 0*b.getD k 0) af af,wrap_u64 (a.getD i 0*b.getD k 0+o.getD (i+k) 0) af af,wrap_u64 _ af af]
     have hn:=hI.next h h2 ha hb;simp only at hn;generalize ht:a.getD i 0*b.getD k 0+o.getD (i+k) 0+c=s at hn e0;have e1:IntKind.wrap .u32 (s.tmod 4294967296)=s%4294967296:=by rw[qZ af,wrap_u32 _ af af]
     have e2:IntKind.wrap .u64 (s.tdiv 4294967296)=s/4294967296:=by rw[AU af,wrap_u64 _ af af]
     refine dv (st':=⟨[(0,cS aE a),(1,cS aE b),(5,.c (.X 1005000)),(6,cI i),(8,cI k),(9,cU s)],[(1005000,.vec 23 aE o)],8,[]⟩) (wk ⟨sR ae,sR ae,sR ae,sR ae,sR ae,sE ae ?_,ah⟩ ⟨bR ae,ah⟩) ?_
     ·exact az (λx=>AV.c (C.I .u64 x)) e0
     refine rr ae (rt ae (a7 (ai (rt ae (a8 (k+1,o.set (i+k) (s%4294967296),s/4294967296) hn (by show b.length-(k+1)<b.length-k;omega) (wk ⟨sR ae,sR ae,sR ae,sR ae,sE ae ?_,sE ae ?_,ah⟩ ⟨bE ae ?_,ah⟩))))))
     ·exact az (λx=>AV.c (C.I .u64 x)) e2
     ·rfl
     ·rw[e1,yb]
    ·have h2:¬k<b.length:=by simpa using h2
     have hk:k=b.length:=by have:=hI.k;simp only at this;omega
     subst hk;have hd:=hI.done h;have yb:((i:Int)+(b.length:Int)).toNat=i+b.length:=af;have e1:IntKind.wrap .u32 c=c:=wrap_u32 c oF lJ;refine bp (bu (br (bq (ai (rt ae (a7 (ai (rt ae (a8 (i+1,o.set (i+b.length) c) hd pQ (wk ⟨sR ae,sR ae,sR ae,sE ae ?_,ah⟩ ⟨bE ae ?_,ah⟩))))))))))
     ·rfl
     ·rw[e1,yb]
  ·have h:¬i<a.length:=by simpa using h
   have hi:i=a.length:=by have:=hO.i;simp only at this;omega
   subst hi;refine bp (bu (br (bq (ai (fS 1005000 ae ae ae (rb ?_))))));refine rc ae ae (zY _) (re ae (aF (aL ar ae (au.of_eq ?_))));have hv:=hO.v;simp only[iV]at hv;rw[pX hO.r];simp only[hv]
def Sm(z:Int):Prop:=(cY z).length≤1099511627776
def sg(neg:Bool)(m:Nat):Int:=if neg then-(m:Int)else m
def vb(z:Int):sg (bN z) z.natAbs=z:=by
 unfold sg bN;by_cases h:z<0
 ·simp[h];omega
 ·simp[h];omega
def m6{m:Nat}:0<(ay m).length↔m≠0:=by
 constructor
 ·intro h e;subst e;simp[Dt]at h
 ·intro h;rw[xL h];simp
def X7(neg:Bool)(m:Nat):(AV.a [.B (neg&&decide (0<(ay m).length)),.S aE (ay m)])=aZ (sg neg m):=by
 have e1:bN (sg neg m)=(neg&&decide (0<(ay m).length)):=by
  unfold bN sg;cases neg with
  |false=>simp
  |true=>
   simp only[cM,Bool.true_and]
   rw[Bool.eq_iff_iff]
   simp only[decide_eq_true_eq]
   rw[m6];omega
 have e2:(sg neg m).natAbs=m:=by unfold sg;cases neg<;>simp
 unfold aZ;simp only[av,cY,e1,e2]
def mr(neg:Bool)(m:Nat):aG Tryz.prog 107 [cB neg,cS aE (ay m)] (aZ (sg neg m)):=by have:=aim neg (ay m);rw[Pd,X7]at this;exact this
def BR(n:Int)(h0: -9223372036854775808≤n)(h1:n≤9223372036854775807):aG Tryz.prog 38 [cI n] (aZ n):=by
 refine aX Tryz.func38 ae ae ae ae ae ak ?_;refine rr ae (aj (rr ae ?_));refine ax ae (λh=>?_) (λh=>?_)
 ·have h:n<0:=by simpa using h
  have e:IntKind.wrap .u64 (IntKind.wrap .u64 (0-(n+1))+1)=((-n).toNat:Nat):=by rw[wrap_u64 (0-(n+1)) af af,wrap_u64 _ af af];omega
  refine rb ?_;refine rc ae ae (f:=112) (r:=cS aE (ay (-n).toNat)) (by rw[e];exact BO _ af) ?_;refine rc ae ae (mr true _) (re ae (aF (bW (aL ar ae (au.of_eq ?_)))));have e2:sg true (-n).toNat=n:=by unfold sg;simp;omega
  rw[e2];rfl
 ·have h:¬n<0:=by simpa using h
  have e:IntKind.wrap .u64 n=(n.toNat:Nat):=by rw[wrap_u64 _ af af];omega
  refine aC (ai (rb ?_));refine rc ae ae (f:=112) (r:=cS aE (ay n.toNat)) (by rw[show(AV.c (num .u64 n).1)=cU ((n.toNat:Nat):Int)from az (λx=>AV.c (C.I .u64 x)) e];exact BO _ af) ?_;refine rc ae ae (mr false _) (re ae (aF (aL ar ae (au.of_eq ?_))));have e2:sg false n.toNat=n:=by unfold sg;simp;omega
  rw[e2];rfl
def cH(a:Int):Int:=if a<0 then-1 else if a=0 then 0 else 1
def BS(a:Int):aG Tryz.prog 57 [aZ a] (cI (cH a)):=by
 refine aX Tryz.func57 ae ae ae ae ae ak ?_;refine rr ae (aj (rr ae ?_));refine ax ae (λh=>?_) (λh=>?_)
 ·have h:a<0:=by simpa[bN]using h
  refine rr ae (aF (bW (aL ar ae (au.of_eq ?_))));rw[cH,aw h];rfl
 ·have h:¬a<0:=by simpa[bN]using h
  refine aC (ai (rr ae (aF (aL ar ae (au.of_eq ?_)))));have e:(if true=false then(0:Int)else if(1:Int)<(cY a).length then 1 else(cY a).length)=cH a:=by
   rw[aq ak,cH,aq h];by_cases hz:a=0
   ·subst hz;rfl
   ·have:0<(cY a).length:=m6.2 af;rw[aq hz];split<;>omega
  exact az (λx=>AV.c (C.I .i64 x)) e
def QD(a:Int):aG Tryz.prog 58 [aZ a] (aZ (-a)):=by
 refine aX Tryz.func58 ae ae ae ae ae ak ?_;refine rr ae (rb ?_);refine rc ae ae (mr (!bN a) a.natAbs) (re ae (aF (aL ar ae (au.of_eq ?_))));have e2:sg (!bN a) a.natAbs= -a:=by
  unfold sg bN;by_cases h:a<0
  ·simp[h];omega
  ·simp[h];omega
 rw[e2];rfl
def Hi(m k:Nat):aG Tryz.prog 109 [cS aE (ay m),cS aE (ay k)] (cI (dn m k)):=by have:=ain (ay m) (ay k) (eH m) (eH k) (uO m) (uO k);rw[eT,eT]at this;exact this
def X8(a b:Int):aG Tryz.prog 42 [aZ a,aZ b] (cI (dn a b)):=by
 refine aX Tryz.func42 ae ae ae ae ae ak ?_;refine rr ae (aj (rb ?_));refine rg 7 ae ae (λh=>?_) (λh=>?_)
 ·have ha:a<0:=by simpa[bN]using h
  refine re ae (ax ae (λh2=>?_) (λh2=>?_))
  ·have hb:¬b<0:=by simpa[bN]using h2
   refine rr ae (aF (bW (aL ar ae (au.of_eq ?_))));rw[dn,aw af];rfl
  ·have hb:b<0:=by simpa[bN]using h2
   refine aC (ai (aj (rb ?_)));refine rg 15 ae ae (λh3=>?_) (λh3=>?_)
   ·simp[bN,ha]at h3
   ·refine re ae (ax ae (λh4=>by simp at h4) (λ_=>?_));refine aC (ai (aj (rr ae ?_)));refine ax ae (λh4=>?_) (λh4=>?_)
    ·refine rb (rc ae ae (Hi _ _) (re ae (aF (bW (aL ar ae (au.of_eq ?_))))));have e:dn b.natAbs a.natAbs=dn a b:=by unfold dn;split<;>split<;>(try split)<;>omega
     exact az (λx=>AV.c (C.I .i64 x)) e
    ·simp[bN,ha]at h4
 ·have ha:¬a<0:=by simpa[bN]using h
  refine re ae (ax ae (λh2=>by simp at h2) (λh2=>?_));refine aC (ai (aj (rb ?_)));refine rg 15 ae ae (λh3=>?_) (λh3=>?_)
  ·refine re ae (ax ae (λh4=>?_) (λh4=>?_))
   ·have hb:b<0:=by simpa[bN]using h4
    refine rr ae (aF (bW (aL ar ae (au.of_eq ?_))));rw[dn,aq af,aw af];rfl
   ·have hb:¬b<0:=by simpa[bN]using h4
    refine aC (ai (aj (rr ae ?_)));refine ax ae (λh4=>?_) (λh4=>?_)
    ·simp[bN,ha]at h4
    ·refine aC (ai (rb (rc ae ae (Hi _ _) (re ae (aF (aL ar ae (au.of_eq ?_)))))));have e:dn a.natAbs b.natAbs=dn a b:=by unfold dn;split<;>split<;>(try split)<;>omega
     exact az (λx=>AV.c (C.I .i64 x)) e
  ·simp[bN,ha]at h3
def QE(m k:Nat)(hm:(ay m).length≤1099511627776)(hk:(ay k).length≤1099511627776):aG Tryz.prog 108 [cS aE (ay m),cS aE (ay k)] (cS aE (ay (m+k))):=by have:=aio (ay m) (ay k) (eH m) (eH k) hm hk;rw[eT,eT,show((m:Int)+(k:Int)).toNat=m+k by omega]at this;exact this
def sU{m k:Nat}(h:m≤k):(ay m).length≤(ay k).length:=Be (by have:=uP (n:=k);omega)
def K1(m k:Nat)(h:k≤m)(hm:(ay m).length≤1099511627776):aG Tryz.prog 110 [cS aE (ay m),cS aE (ay k)] (cS aE (ay (m-k))):=by have:=aip (ay m) (ay k) (eH m) (eH k) (sU h) (by rw[eT,eT];omega) hm;rw[eT,eT,show((m:Int)-(k:Int)).toNat=m-k by omega]at this;exact this
def QF(m k:Nat)(hm:(ay m).length≤1099511627776)(hk:(ay k).length≤1099511627776):aG Tryz.prog 111 [cS aE (ay m),cS aE (ay k)] (cS aE (ay (m*k))):=by have:=aiq (ay m) (ay k) (eH m) (eH k) hm hk;rw[eT,eT,show((m:Int)*(k:Int)).toNat=m*k by rw[←gq];rfl]at this;exact this
def tU(a b:Int)(ha:Sm a)(hb:Sm b):aG Tryz.prog 37 [aZ a,aZ b] (aZ (a*b)):=by
 refine aX Tryz.func37 ae ae ae ae ae ak ?_;refine rr ae (rb ?_);refine rc ae ae (QF _ _ ha hb) (rc ae ae (mr _ _) (re ae (aF (aL ar ae (au.of_eq ?_)))));have e2:sg (bN a !=bN b) (a.natAbs*b.natAbs)=a*b:=by have ea:=vb a;have eb:=vb b;generalize a.natAbs=x at ea⊢;generalize b.natAbs=y at eb⊢;cases QG:bN a<;>cases QH:bN b<;>rw[QG]at ea<;>rw[QH]at eb<;>simp only[sg,cM,cP,mN]at ea eb<;>rw[←ea,←eb]<;>simp[sg]<;>grind
 exact az aZ e2
def X9(a b:Int)(ha:Sm a)(hb:Sm b):aG Tryz.prog 36 [aZ a,aZ b] (aZ (a+b)):=by
 refine aX Tryz.func36 ae ae ae ae ae ak ?_;refine rr ae (aj (rr ae ?_));have ea:=vb a;have eb:=vb b;refine ax ae (λh=>?_) (λh=>?_)
 ·have h:bN a=bN b:=by simpa using h
  refine rb (rc ae ae (QE _ _ ha hb) (rc ae ae (mr _ _) (re ae (aF (bW (aL ar ae (au.of_eq ?_)))))));have e2:sg (bN a) (a.natAbs+b.natAbs)=a+b:=by unfold bN sg at*;by_cases h1:a<0<;>by_cases h2:b<0<;>simp[h1,h2]at h⊢<;>omega
  exact az aZ e2
 ·have h:bN a≠bN b:=by simpa using h
  refine aC (ai (aj (rb (rc ae ae (Hi _ _) (re ae ?_)))));refine ax ae (λh2=>?_) (λh2=>?_)
  ·have h2:a.natAbs<b.natAbs:=by
    have h2:dn a.natAbs b.natAbs<0:=gR;unfold dn at h2;split at h2
    ·omega
    ·split at h2<;>omega
   refine rb (rc ae ae (K1 _ _ af hb) (rc ae ae (mr _ _) (re ae (aF (bW (aL ar ae (au.of_eq ?_)))))));have e2:sg (bN b) (b.natAbs-a.natAbs)=a+b:=by unfold bN sg at*;by_cases h1:a<0<;>by_cases h3:b<0<;>simp[h1,h3]at h⊢<;>omega
   exact az aZ e2
  ·have h2:b.natAbs≤a.natAbs:=by
    have h2:¬dn a.natAbs b.natAbs<0:=gR;unfold dn at h2;split at h2
    ·omega
    ·omega
   refine aC (ai (rb (rc ae ae (K1 _ _ af ha) (rc ae ae (mr _ _) (re ae (aF (aL ar ae (au.of_eq ?_))))))));have e2:sg (bN a) (a.natAbs-b.natAbs)=a+b:=by unfold bN sg at*;by_cases h1:a<0<;>by_cases h3:b<0<;>simp[h1,h3]at h⊢<;>omega
   exact az aZ e2
def X'(m k:Nat)(hm:m<18446744073709551616)(hk:k<18446744073709551616):aG Tryz.prog 222 [cU m,cU k] (cU (Nat.gcd m k)):=by
 refine aX Tryz.func222 ae ae ae ae ae ak ?_;refine rr ae (aj (aK (bA (α:=Nat×Nat) (λx=>⟨[(0,cU x.1),(1,cU x.2)],[],1,[]⟩) (λx=>Nat.gcd x.1 x.2=Nat.gcd m k∧x.1<18446744073709551616∧x.2<18446744073709551616) (λx=>x.2) (m,k) ⟨ae,hm,hk⟩ ck ?_)));rintro⟨x,y⟩ ⟨hg,hx,hy⟩;simp only at hg hx hy;refine aj (rr ae ?_);refine ax ae (λh=>?_) (λh=>?_)
 ·have h:0<y:=by have:(y:Int)>0:=cd;omega
  refine aC (ai (aK (rr ae (rr ae (rt ae (a7 (a8 (y,x%y) ⟨?_,hy,?_⟩ ?_ (wk ⟨sR ae,sE ae ?_,ah⟩ ah))))))))
  ·rw[←hg,A6 x y,Nat.gcd_rec y x,A6]
  ·exact kl (iq _ h) (O2 hy)
  ·exact iq _ h
  ·have e:(x:Int).tmod (y:Int)=((x%y:Nat):Int):=by rw[qZ af];omega
   exact az (λz=>AV.c (C.I .u64 z)) e
 ·have h:y=0:=by have:¬(y:Int)>0:=cd;omega
  subst h;refine bp (bu (br (bq (ai (rr ae (aF (aL ar ae (au.of_eq ?_))))))));rw[←hg,JT]
def Ya(m:Nat):(ay m).getD 0 0=((m%4294967296:Nat):Int):=by
 by_cases h:m=0
 ·subst h;rfl
 ·rw[xL h];rfl
def air(m:Nat)(hm:m<18446744073709551616):(ay m).getD 1 0=((m/4294967296:Nat):Int):=by
 by_cases h:m=0
 ·subst h;rfl
 ·rw[xL h,List.getD_cons_succ,Ya];congr 1;omega
def K2(m:Nat)(hm:m<18446744073709551616):aG Tryz.prog 223 [cS aE (ay m)] (cU m):=by
 refine aX Tryz.func223 ae ae ae ae ae ak ?_;refine rr ae (rb ?_);refine rc ae ae (BP _ 1 (eH m)) (rc ae ae (BP _ 0 (eH m)) (re ae (aF (aL ar ae (au.of_eq ?_)))));have e:IntKind.wrap .u64 (IntKind.wrap .u64 ((ay m).getD 1 0*4294967296)+(ay m).getD 0 0)=m:=by rw[Ya,air m hm,wrap_u64 (((m/4294967296:Nat):Int)*4294967296) af af,wrap_u64 _ af af];omega
 exact az (λz=>AV.c (C.I .u64 z)) e
def zZ{m:Nat}(hm:m<18446744073709551616):(ay m).length≤2:=Be (by show(m:Int)<4294967296^2;omega)
def ais(m k:Nat)(hm:m<18446744073709551616)(hk:k<18446744073709551616):aG Tryz.prog 151 [cS aE (ay m),cS aE (ay k)] (cS aE (ay (Nat.gcd m k))):=by
 refine aX Tryz.func151 ae ae ae ae ae ak ?_;have l1:=zZ hm;have l2:=zZ hk;refine rr ae (aj (aK (bA (α:=Unit) (λ_=>⟨[(0,cS aE (ay m)),(1,cS aE (ay k))],[],1,[]⟩) (λ_=>True) (λ_=>0) () ah ck ?_)));rintro⟨⟩ _;refine aj (rr ae ?_);refine ax ae (λh=>?_) (λh=>?_)
 ·refine aC (ai (aK (aj (rb ?_))));refine rg 13 ae ae (λh2=>?_) (λh2=>?_)
  ·refine re ae (ax ae (λh3=>?_) (λh3=>?_))
   ·refine rb (rc ae ae (K2 m hm) (rc ae ae (K2 k hk) (rc ae ae (X' m k hm hk) (rc ae ae (BO _ ?_) (re ae (aF ?_))))))
    ·by_cases h0:m=0
     ·rw[h0,Nat.gcd_zero_left];exact hk
     ·exact zb (Nat.gcd_le_left k af) hm
    ·repeat(first|refine bW ?_|refine fC ?_|refine ix ?_)
     exact aL ar ae (au.refl _)
   ·simp at h3;omega
  ·simp at h2;omega
 ·have h:(ay k).length=0:=by have:¬((ay k).length:Int)>0:=cd;omega
  have h0:k=0:=Decidable.byContradiction λaN=>by have:=m6.2 aN;omega
  subst h0;refine bp (bu (br (bq (ai (rr ae (aF (aL ar ae (au.of_eq ?_))))))));rw[JT]
def ait(a b:Int)(ha:a.natAbs<18446744073709551616)(hb:b.natAbs<18446744073709551616):aG Tryz.prog 80 [aZ a,aZ b] (aZ (Int.gcd a b)):=by refine aX Tryz.func80 ae ae ae ae ae ak ?_;refine rr ae (rb ?_);refine rc ae ae (ais _ _ ha hb) (rc ae ae (mr false _) (re ae (aF (aL ar ae (au.of_eq ?_)))));rfl
structure Eg(a:List Int)(d:Int)(x:Nat×List Int×Int):Prop where
 k:x.1≤a.length
 len:x.2.1.length=a.length
 r:bT x.2.1
 r0:0≤x.2.2
 r1:x.2.2<d
 v:val (a.drop x.1)=val (x.2.1.drop x.1)*d+x.2.2
def drop_cons(l:List Int)(j:Nat)(h:j<l.length):l.drop j=l.getD j 0::l.drop (j+1):=by rw[pR h];simp[aY,ct h]
def K3{r a d:Int}(h0:0≤r)(h1:r<d)(h2:0≤a)(h3:a<4294967296)(h4:d<4294967296):0≤r*4294967296+a∧r*4294967296+a<18446744073709551616∧0≤(r*4294967296+a)/d∧(r*4294967296+a)/d<4294967296∧0≤(r*4294967296+a)%d∧(r*4294967296+a)%d<d:=by have hd:0<d:=af;refine⟨by omega,by omega,xB af af,?_,gT _ af,il _ hd⟩;apply C' hd;have:(r+1)*4294967296≤d*4294967296:=jD af ak;omega
def Eg.next{a:List Int}{d:Int}{j:Nat}{q:List Int}{r:Int}(h:Eg a d (j+1,q,r))(ha:bT a)(hd:d<4294967296):Eg a d (j,q.set j ((r*4294967296+a.getD j 0)/d),(r*4294967296+a.getD j 0)%d):=by have g:=cZ ha j;have h0:0≤r:=h.r0;have h1:r<d:=h.r1;have hb:=K3 h0 h1 g.1 g.2 hd;have hk:j+1≤a.length:=h.k;have hl:q.length=a.length:=h.len;refine⟨by show j≤_;omega,by simp[hl],zr h.r _ ⟨hb.2.2.1,hb.2.2.2.1⟩,hb.2.2.2.2.1,hb.2.2.2.2.2,?_⟩;have hv:val (a.drop (j+1))=val (q.drop (j+1))*d+r:=h.v;simp only;rw[drop_cons a j af,drop_cons (q.set j _) j cO,mq _ _ _ _ af,aw ae,List.drop_set_of_lt af];simp only[val];rw[hv];have:=oU (r*4294967296+a.getD j 0) d;generalize (r*4294967296+a.getD j 0)/d=x at*;generalize (r*4294967296+a.getD j 0)%d=y at*;grind
def Yb(a:List Int)(d:Int)(ha:bT a)(vd:0<d)(hd:d<4294967296)(la:a.length≤1099511627776):aG Tryz.prog 224 [cS aE a,cU d] (.t [(false,[.S aE (ay (val a/d).toNat)]),(false,[.I .u64 (val a%d)])]):=by
 refine aX Tryz.func224 ae ae ae ae ae ak ?_;refine rr ae (rb ?_);refine rm aE a.length ae ae ae ae ae ae (lN .u32) ae ?_ ?_ ?_
 ·show _*4≤_;omega
 ·show _*1≤_;omega
 refine re ae (rr ae (aj (rr ae ?_)));refine aK (bA (α:=Nat×List Int×Int) (λx=>⟨[(0,cS aE a),(1,cU d),(6,.c (.X 1002000)),(7,cU x.2.2),(8,cI ((x.1:Int)-1))],[(1002000,.vec 23 aE x.2.1)],4,[]⟩) (Eg a d) (λx=>x.1) (a.length,List.replicate a.length 0,0) ?_ ?_ ?_)
 ·exact⟨bF _,by simp,so _,jH _,vd,by simp[val]⟩
 ·exact wk ⟨sR ae,sR ae,sR ae,sR ae,sR ae,ah⟩ ⟨bR ae,ah⟩
 ·rintro⟨k,q,r⟩ hI;have hlen:q.length=a.length:=hI.len;have h0:0≤r:=hI.r0;have h1:r<d:=hI.r1;have hk:k≤a.length:=hI.k;refine aj (rr ae ?_);refine ax ae (λh=>?_) (λh=>?_)
  ·have h:(k:Int)-1≥0:=by simpa using h
   obtain⟨j,rfl⟩:∃j,k=j+1:=⟨k-1,by omega⟩;have ej:(((j+1:Nat):Int)-1).toNat=j:=af;have g:=cZ ha j;have hb:=K3 h0 h1 g.1 g.2 hd;have hn:=hI.next ha hd;refine aC (ai (aj (aK (rr ae ?_))));have e0:IntKind.wrap .u64 (IntKind.wrap .u64 (r*4294967296)+IntKind.wrap .u64 (a.getD (((j+1:Nat):Int)-1).toNat 0))=r*4294967296+a.getD j 0:=by rw[ej,wrap_u64 (r*4294967296) af af,wrap_u64 (a.getD j 0) af af,wrap_u64 _ af af]
   generalize ht:r*4294967296+a.getD j 0=s at hn hb e0;have e1:IntKind.wrap .u32 (IntKind.wrap .u64 (s.tdiv d))=s/d:=by rw[AU af,wrap_u64 _ af af,wrap_u32 _ af af]
   have e2:s.tmod d=s%d:=qZ af;refine dv (st':=⟨[(0,cS aE a),(1,cU d),(6,.c (.X 1002000)),(8,cI (((j+1:Nat):Int)-1)),(9,cU s)],[(1002000,.vec 23 aE q)],6,[]⟩) (wk ⟨sR ae,sR ae,sR ae,sR ae,sE ae ?_,ah⟩ ⟨bR ae,ah⟩) ?_
   ·exact az (λx=>AV.c (C.I .u64 x)) e0
   refine rr ae (rt ae (a7 (ai (rt ae (a8 (j,q.set j (s/d),s%d) hn pP (wk ⟨sR ae,sR ae,sR ae,sE ae ?_,sE ae ?_,ah⟩ ⟨bE ae ?_,ah⟩))))))
   ·exact az (λx=>AV.c (C.I .u64 x)) e2
   ·refine az (λx=>AV.c (C.I .i64 x)) ?_;show((j+1:Nat):Int)-1-1=(j:Int)-1;omega
   ·rw[e1,ej]
  ·have h:¬((k:Int)-1≥0):=by simpa using h
   have:k=0:=af;subst this;refine bp (bu (br (bq (ai (fS 1002000 ae ae ae (rb ?_))))));refine rc ae ae (zY _) (re ae (aF (aL ar ae (au.of_eq ?_))));have hv:val a=val q*d+r:=hI.v;have hr:bT q:=hI.r;have eq:val a/d=val q:=by rw[hv,xH,C9 _ _ af,F1 h0 h1];omega
   have er:val a%d=r:=by rw[hv,xH,VR,iU h0 h1]
   rw[pX hr,eq,er];rfl
def au.t2{x x' y:C}(h:au (.c x) (.c x')):au (.t [(false,[x]),(false,[y])]) (.t [(false,[x']),(false,[y])]):=by
 refine⟨?_,?_⟩
 ·rintro g v ⟨vs,rfl,v1,r,rfl,h1,h2⟩;exact⟨_,ae,v1,r,ae,h.1 g v1 h1,h2⟩
 ·intro id al;have h2:=h.2 id;simp only[AV.aD,fE,cA,kp,bX]at al h2⊢;exact al.elim (λh=> .inl (h2 h)) .inr
def Yc(m k:Nat)(hk:k≠0)(h:m<k∨k<4294967296)(lm:(ay m).length≤1099511627776):aG Tryz.prog 152 [cS aE (ay m),cS aE (ay k)] (.t [(false,[.S aE (ay (m/k))]),(false,[.S aE (ay (m%k))])]):=by
 refine aX Tryz.func152 ae ae ae ae ae ak ?_;refine rr ae (aj (rb (rc ae ae (Hi m k) (re ae ?_))));refine ax ae (λh2=>?_) (λh2=>?_)
 ·have h2:m<k:=by
   have h2:dn m k<0:=gR;unfold dn at h2;split at h2
   ·omega
   ·split at h2<;>omega
  refine rr ae (aF (bW (aL ar ae ?_)));rw[Ga h2,q9 h2];exact au.t2 (au.nil aE)
 ·have h2:¬m<k:=by have h2:¬dn m k<0:=gR;unfold dn at h2;split at h2<;>omega
  have dL:k<4294967296:=h.resolve_left h2;have ek:ay k=[(k:Int)]:=by rw[xL hk,show k%4294967296=k by omega,show k/4294967296=0 by omega];rfl
  refine aC (ai (aj (rr ae ?_)));rw[ek];refine ax ae (λh3=>?_) (λh3=>by simp at h3);refine rb ?_;have e1:IntKind.wrap .u64 (k:Int)=k:=wrap_u64 _ af af;refine rc ae ae (f:=224) (r:= .t [(false,[.S aE (ay (m/k))]),(false,[.I .u64 ((m%k:Nat):Int)])]) ?_ ?_
  ·have:=Yb (ay m) k (eH m) af af lm;rw[eT,show((m:Int)/(k:Int)).toNat=m/k from ae,show(m:Int)%(k:Int)=((m%k:Nat):Int)from ae]at this;rw[show(AV.c (num .u64 ([(k:Int)].getD (0:Int).toNat 0)).1)=cU (k:Int)from az (λx=>AV.c (C.I .u64 x)) e1];exact this
  refine re ae (rb (rc ae ae (BO _ ?_) (re ae (aF (bW (aL ar ae (au.refl _)))))));have:=iq m (pT hk);omega
def QI(a:Int)(B:Nat)(hB:0<B):(a.natAbs:Int)=((a.natAbs%B:Nat):Int)+(B:Int)*((a.natAbs/B:Nat):Int)∧a.natAbs%B<B:=by refine⟨?_,iq _ hB⟩;have:=Nat.mod_add_div a.natAbs B;rw[←gq,←ze,this]
def QJ{a:Int}{B:Nat}(hB:0<B)(ha:¬a<0):a/(B:Int)=((a.natAbs/B:Nat):Int)∧a%(B:Int)=((a.natAbs%B:Nat):Int):=by obtain⟨h1,h2⟩:=QI a B hB;exact(V1 af).2 ⟨by omega,by omega,by omega⟩
def QK{a:Int}{B:Nat}(hB:0<B)(ha:a<0)(hr:a.natAbs%B=0):a/(B:Int)= -((a.natAbs/B:Nat):Int)∧a%(B:Int)=0:=by obtain⟨h1,h2⟩:=QI a B hB;refine(V1 af).2 ⟨?_,by omega,by omega⟩;rw[hr]at h1;rw[Int.mul_neg];omega
def QL{a:Int}{B:Nat}(hB:0<B)(ha:a<0)(hr:a.natAbs%B≠0):a/(B:Int)= -((a.natAbs/B+1:Nat):Int)∧a%(B:Int)=((B-a.natAbs%B:Nat):Int):=by obtain⟨h1,h2⟩:=QI a B hB;refine(V1 af).2 ⟨?_,by omega,by omega⟩;rw[Int.mul_neg,ze,oX];omega
def yd(a b:Int)(q r:Nat)(h1:a/(b.natAbs:Int)=sg (bN a) q)(h2:a%(b.natAbs:Int)=r):a/b=sg (bN a !=bN b) q∧a%b=sg false r:=by
 by_cases hb:b<0
 ·have e:b= -(b.natAbs:Int):=by omega
  have hz:bN b=true:=by simp[bN,hb]
  rw[e,Dj,Int.emod_neg,←e,h1,h2,hz];refine⟨?_,ae⟩;unfold sg;cases bN a<;>simp
 ·have e:b=(b.natAbs:Int):=by omega
  have hz:bN b=false:=by simp[bN,hb]
  rw[←e]at h1 h2;rw[h1,h2,hz];refine⟨?_,ae⟩;cases bN a<;>rfl
def aiu(a b:Int)(hb:b≠0)(h:a.natAbs<b.natAbs∨b.natAbs<4294967296)(ha:Sm a)(nT:Sm b):aG Tryz.prog 81 [aZ a,aZ b] (.t [(true,av .z (a/b)),(true,av .z (a%b)),(false,[.I .i64 0])]):=by
 refine aX Tryz.func81 ae ae ae ae ae ak ?_;refine rr ae (aj (rr ae ?_));have dm:b.natAbs≠0:=af;refine ax ae (λh2=>?_) (λh2=>?_)
 ·exfalso;have h2:((cY b).length:Int)=0:=gR;have:=m6.2 dm;unfold cY at h2;omega
 ·refine aC (ai (rb (rc ae ae (Yc _ _ dm h ha) (re ae (aj (rb ?_))))));refine rg 25 ae ae (λh3=>?_) (λh3=>?_)
  ·have h3:a<0:=by simpa[bN]using h3
   refine re ae (ax ae (λh4=>?_) (λh4=>?_))
   ·have h4:a.natAbs%b.natAbs≠0:=by have h4:((ay (a.natAbs%b.natAbs)).length:Int)>0:=uH;exact m6.1 af
    obtain⟨e1,e2⟩:=QL (pT dm) h3 h4;have hz:bN a=true:=y5;obtain⟨e3,e4⟩:=yd a b (a.natAbs/b.natAbs+1) (b.natAbs-a.natAbs%b.natAbs) y6 e2;have hr:a.natAbs%b.natAbs<b.natAbs:=iq _ (pT dm);refine rb (rl aE [_] ae ae (rc ae ae (QE (a.natAbs/b.natAbs) 1 ?_ ak) (re ae (cG (rc ae ae (K1 b.natAbs _ af nT) (re ae (ai (rb ?_))))))))
    ·exact dG (sU (Df _ _)) ha
    refine rc ae ae (mr _ _) (rc ae ae (mr _ _) (re ae (aF (aL ar ae (au.of_eq ?_)))));rw[e3,e4];rfl
   ·have h4:a.natAbs%b.natAbs=0:=by have h4:¬((ay (a.natAbs%b.natAbs)).length:Int)>0:=uH;exact Decidable.byContradiction λaN=>by have:=m6.2 aN;omega
    obtain⟨e1,e2⟩:=QK (pT dm) h3 h4;have hz:bN a=true:=y5;obtain⟨e3,e4⟩:=yd a b (a.natAbs/b.natAbs) (a.natAbs%b.natAbs) y6 (by rw[e2,h4];rfl);refine aC (ai (rb (rc ae ae (mr _ _) (rc ae ae (mr _ _) (re ae (aF (aL ar ae (au.of_eq ?_))))))));rw[e3,e4];rfl
  ·have h3:¬a<0:=by simpa[bN]using h3
   refine re ae (ax ae (λh4=>by simp at h4) (λh4=>?_));obtain⟨e1,e2⟩:=QJ (pT dm) h3;have hz:bN a=false:=y5;obtain⟨e3,e4⟩:=yd a b (a.natAbs/b.natAbs) (a.natAbs%b.natAbs) y6 e2;refine aC (ai (rb (rc ae ae (mr _ _) (rc ae ae (mr _ _) (re ae (aF (aL ar ae (au.of_eq ?_))))))));rw[e3,e4];rfl
def sV:Nat→Int→Int→Int→Int→Int→Int
 |0,q,_,_,_,_=>q
 |f+1,q,r,v1,v2,u2=>if q≥4294967296∨q*v2>r*4294967296+u2 then(if r+v1≥4294967296 then q-1 else sV f (q-1) (r+v1) v1 v2 u2)else q
def K4{M v1 v2 v' v t u2 u' u:Int}(h:Kn1 M v1 v2 v' v t u2 u' u):∀(f:Nat)(q r:Int),t=q*v1+r→0≤r→r<4294967296→4294967296≤r+f*2147483648→u/v≤q→u/v≤sV f q r v1 v2 u2∧sV f q r v1 v2 u2≤u/v+1∧sV f q r v1 v2 u2<4294967296
 |0,q,r,_,_,h2,h3,_=>by omega
 |f+1,q,r,ht,h1,h2,h3,hq=>by
  have q0:=h.q0;have Dv:=h.Dv;have ku:=h.ku;rw[sV];split
  ·rename_i hc;have bh:u/v<q:=by
    rcases hc with hc|hc
    ·omega
    ·exact h.down ht af hc
   have QM:t=(q-1)*v1+(r+v1):=by rw[xK,iY];omega
   split
   ·rename_i hr;have hb:=h.agf QM hr;have hc:q-1-1≤u/v:=h.close QM af hb (by have e1:(q-1)*v2≤4294967296*4294967296:=A4 af (by have:=h.Wj;omega) h.sr ak;have:=h.nq;omega);exact⟨by omega,by omega,hb⟩
   ·rename_i hr;exact K4 h f (q-1) (r+v1) QM af af af af
  ·rename_i hc;have lJ:q<4294967296:=by
    by_cases e:q<4294967296
    ·exact e
    ·exact absurd (.inl af) hc
   have uX:q*v2≤r*4294967296+u2:=by
    by_cases e:q*v2≤r*4294967296+u2
    ·exact e
    ·exact absurd (.inr af) hc
   have:=h.close ht af lJ uX;exact⟨hq,by omega,lJ⟩
def Eh{a b:Int}(ha:0≤a):a.tdiv b=a/b:=AU ha
def Hj{a b:Int}(ha:0≤a):a.tmod b=a%b:=qZ ha
set_option maxHeartbeats 4000000 in
def aiv(U v:List Int)(j n:Nat)(hU:bT U)(hv:bT v)(hn:v.length=n+2)(hj:j+n+3≤U.length)(hl:U.length≤1099511627777){v' u' u:Int}
  (K:Kn1 (4294967296^n) (v.getD (n+1) 0) (v.getD n 0) v' (val v) (U.getD (j+(n+2)) 0*4294967296+U.getD (j+(n+1)) 0) (U.getD (j+n) 0) u' u):
  mZ Tryz.prog 225 [.c (.W 0 j (n+3)),cS aE v] 23 aE U (cU (sV 2 ((U.getD (j+(n+2)) 0*4294967296+U.getD (j+(n+1)) 0)/v.getD (n+1) 0) ((U.getD (j+(n+2)) 0*4294967296+U.getD (j+(n+1)) 0)%v.getD (n+1) 0) (v.getD (n+1) 0) (v.getD n 0) (U.getD (j+n) 0))) U:=by
 refine qt Tryz.func225 ae ae ae ae ae ak ?_
 have g1:=cZ hU (j+(n+2))
 have g2:=cZ hU (j+(n+1))
 have g3:=cZ hU (j+n)
 have k1:=cZ hv (n+1)
 have k2:=cZ hv n
 have ku:=K.ku
 have a1:((v.length:Int)).toNat=n+2:=af
 have a2:((v.length:Int)-1).toNat=n+1:=af
 have a3:((v.length:Int)-2).toNat=n:=af
 generalize hQ:sV 2 ((U.getD (j+(n+2)) 0*4294967296+U.getD (j+(n+1)) 0)/v.getD (n+1) 0) ((U.getD (j+(n+2)) 0*4294967296+U.getD (j+(n+1)) 0)%v.getD (n+1) 0) (v.getD (n+1) 0) (v.getD n 0) (U.getD (j+n) 0)=Q0
 refine rr ae (rr ae (rr ae (hp:=jN) ?_))
 rw[a1,a2]
 have e6:IntKind.wrap .u64 (IntKind.wrap .u64 (IntKind.wrap .u64 (U.getD (j+(n+2)) 0)*4294967296)+IntKind.wrap .u64 (U.getD (j+(n+1)) 0))=U.getD (j+(n+2)) 0*4294967296+U.getD (j+(n+1)) 0:=by rw[wrap_u64 (U.getD (j+(n+2)) 0) af af,wrap_u64 (U.getD (j+(n+1)) 0) af af,wrap_u64 (_*_) af af,wrap_u64 _ af af]
 have QN:IntKind.wrap .u64 (v.getD (n+1) 0)=v.getD (n+1) 0:=wrap_u64 _ af af
 have QO:IntKind.wrap .u64 (v.getD n 0)=v.getD n 0:=wrap_u64 _ af af
 have QP:IntKind.wrap .u64 (U.getD (j+n) 0)=U.getD (j+n) 0:=wrap_u64 _ af af
 have nY:0≤U.getD (j+(n+2)) 0*4294967296+U.getD (j+(n+1)) 0:=af
 have Ei:U.getD (j+(n+2)) 0*4294967296+U.getD (j+(n+1)) 0<18446744073709551616:=af
 have ve:=@Kn1.small _ _ _ _ _ _ _ _ _ K
 have aV:=@K4 _ _ _ _ _ _ _ _ _ K
 have z5:=K.first
 generalize U.getD (j+(n+2)) 0*4294967296+U.getD (j+(n+1)) 0=t at*
 generalize Hk:v.getD (n+1) 0=v1 at*
 generalize QQ:v.getD n 0=v2 at*
 generalize QR:U.getD (j+n) 0=u2 at*
 have x1:IntKind.wrap .u64 (v.getD ((v.length:Int)-1).toNat 0)=v1:=by rw[a2,Hk];exact QN
 have x2:IntKind.wrap .u64 (v.getD ((v.length:Int)-2).toNat 0)=v2:=by rw[a3,QQ];exact QO
 have x3:IntKind.wrap .u64 (U.getD (j+((v.length:Int)-2).toNat) 0)=u2:=by rw[a3,QR];exact QP
 have vd:0≤t/v1:=xB nY af
 have uY:0≤t%v1:=gT _ af
 have nU:t%v1<v1:=il _ af
 have aT:=oU t v1
 refine dv (st':=⟨[(0,.c (.W 0 j (n+3))),(1,cS aE v),(5,cI v.length),(6,cU t)],[(0,.vec 23 aE U)],4,[]⟩) (wk ⟨sR ae,sR ae,sR ae,⟨_,ae,au.of_eq (az (λz=>AV.c (C.I .u64 z)) e6)⟩,ah⟩ ⟨bR ae,ah⟩) ?_
 have jk:((-9223372036854775808≤(v.length:Int)-1∧(v.length:Int)-1≤9223372036854775807)∧0≤(v.length:Int)-1∧(v.length:Int)-1<(v.length:Int))∧IntKind.wrap .u64 (v.getD ((v.length:Int)-1).toNat 0)≠0:=by rw[x1];omega
 refine rr ae (hp:=by simp only[Pr.an,Pr.h,num,aA,true_and,and_true];exact jk) (rr ae (hp:=by simp only[Pr.an,Pr.h,num,aA,true_and,and_true];exact jk) ?_)
 refine aj (aK (bA (α:=Nat×Int×Int) (λx=>⟨[(0,.c (.W 0 j (n+3))),(1,cS aE v),(5,cI v.length),(6,cU t),(7,cU x.2.1),(8,cU x.2.2)],[(0,.vec 23 aE U)],6,[]⟩) (λx=>sV x.1 x.2.1 x.2.2 v1 v2 u2=Q0∧t=x.2.1*v1+x.2.2∧0≤x.2.2∧x.2.2<4294967296∧4294967296≤x.2.2+x.1*2147483648∧u/val v≤x.2.1) (λx=>x.1) (2,t/v1,t%v1) ⟨hQ,by show t=t/v1*v1+t%v1;rw[fc];omega,uY,by show t%v1<4294967296;omega,by show(4294967296:Int)≤t%v1+(2:Nat)*2147483648;omega,z5⟩ (wk ⟨sR ae,sR ae,sR ae,sR ae,sE ae ?_,sE ae ?_,ah⟩ ⟨bR ae,ah⟩) ?_))
 ·refine az (λz=>AV.c (C.I .u64 z)) ?_;show IntKind.wrap .u64 (t.tdiv (IntKind.wrap .u64 (v.getD ((v.length:Int)-1).toNat 0)))=t/v1;have:=Int.ediv_le_self v1 nY;rw[x1,Eh nY,wrap_u64 _ vd af]
 ·refine az (λz=>AV.c (C.I .u64 z)) ?_;show(t.tmod (IntKind.wrap .u64 (v.getD ((v.length:Int)-1).toNat 0)))=t%v1;rw[x1,Hj nY]
 ·rintro⟨f,q,r⟩ ⟨h1,h2,h3,h4,h5,h6⟩;simp only at h1 h2 h3 h4 h5 h6;have nA:=K.q0;have hqs:=ve h2 h3;cases f with
  |zero=>omega
  |succ f=>
  rw[sV]at h1;have qi:0≤q*v2∧q*v2<18446744073709551616:=by refine⟨j4 af af,?_⟩;have:q*v2≤4294967297*4294967295:=A4 af af af ak;omega
  refine aj (rb (rg 42 ae ae (λh=>?_) (λh=>?_)))
  ·have wM:q≥4294967296:=by simpa using h
   have hc:q≥4294967296∨q*v2>r*4294967296+u2:= .inl wM;refine re ae (ax ae (λ_=>?_) (λh7=>by cases h7));have bh:u/val v<q:=by
    rcases hc with hc|hc
    ·have:=K.Dv;omega
    ·exact K.down h2 af hc
   have w1:IntKind.wrap .u64 (q-1)=q-1:=wrap_u64 _ af af;have w2:IntKind.wrap .u64 (r+IntKind.wrap .u64 (v.getD ((v.length:Int)-1).toNat 0))=r+v1:=by rw[x1,wrap_u64 _ af af]
   refine aC (ai (aK (rr ae (rr ae (hp:=jN) (rr ae (ax ae (λh7=>?_) (λh7=>?_)))))))
   ·have h7:r+v1≥4294967296:=by
     have h7:4294967296≤IntKind.wrap .u64 (r+IntKind.wrap .u64 (v.getD ((v.length:Int)-1).toNat 0)):=by simpa using h7
     omega
    rw[aw hc,aw h7]at h1;refine bp (GN (br (bq (ai (rr ae (aF (tT ar ae (au.of_eq ?_) ae)))))));refine az (λz=>AV.c (C.I .u64 z)) ?_;rw[←h1];exact w1
   ·have h7:¬r+v1≥4294967296:=by
     have h7:IntKind.wrap .u64 (r+IntKind.wrap .u64 (v.getD ((v.length:Int)-1).toNat 0))<4294967296:=by simpa using h7
     omega
    rw[aw hc,aq h7]at h1;refine aC (a7 (a8 (f,q-1,r+v1) ⟨h1,by show t=(q-1)*v1+(r+v1);rw[xK,iY];omega,by show 0≤r+v1;omega,by show r+v1<4294967296;omega,by show(4294967296:Int)≤r+v1+(f:Nat)*2147483648;omega,by show u/val v≤q-1;omega⟩ (fN f) (wk ⟨sR ae,sR ae,sR ae,sR ae,⟨_,ae,au.of_eq (az (λz=>AV.c (C.I .u64 z)) w1)⟩,⟨_,ae,au.of_eq (az (λz=>AV.c (C.I .u64 z)) w2)⟩,ah⟩ ⟨bR ae,ah⟩)))
  ·have wM:¬q≥4294967296:=by have:q<4294967296:=cd;omega
   have w3:IntKind.wrap .u64 (q*IntKind.wrap .u64 (v.getD ((v.length:Int)-2).toNat 0))=q*v2:=by rw[x2,wrap_u64 _ qi.1 qi.2]
   have w4:IntKind.wrap .u64 (IntKind.wrap .u64 (r*4294967296)+IntKind.wrap .u64 (U.getD (j+((v.length:Int)-2).toNat) 0))=r*4294967296+u2:=by rw[x3,wrap_u64 (r*4294967296) af af,wrap_u64 _ af af]
   refine re ae (hp:=jN) (ax ae (λh8=>?_) (λh8=>?_))
   ·have hc:q≥4294967296∨q*v2>r*4294967296+u2:= .inr (by
     have h8:IntKind.wrap .u64 (q*IntKind.wrap .u64 (v.getD ((v.length:Int)-2).toNat 0))>IntKind.wrap .u64 (IntKind.wrap .u64 (r*4294967296)+IntKind.wrap .u64 (U.getD (j+((v.length:Int)-2).toNat) 0)):=by simpa using h8
     rw[w3,w4]at h8;exact h8)
    have bh:u/val v<q:=by
     rcases hc with hc|hc
     ·have:=K.Dv;omega
     ·exact K.down h2 af hc
    have w1:IntKind.wrap .u64 (q-1)=q-1:=wrap_u64 _ af af;have w2:IntKind.wrap .u64 (r+IntKind.wrap .u64 (v.getD ((v.length:Int)-1).toNat 0))=r+v1:=by rw[x1,wrap_u64 _ af af]
    refine aC (ai (aK (rr ae (rr ae (hp:=jN) (rr ae (ax ae (λh7=>?_) (λh7=>?_)))))))
    ·have h7:r+v1≥4294967296:=by
      have h7:4294967296≤IntKind.wrap .u64 (r+IntKind.wrap .u64 (v.getD ((v.length:Int)-1).toNat 0)):=by simpa using h7
      omega
     rw[aw hc,aw h7]at h1;refine bp (GN (br (bq (ai (rr ae (aF (tT ar ae (au.of_eq ?_) ae)))))));refine az (λz=>AV.c (C.I .u64 z)) ?_;rw[←h1];exact w1
    ·have h7:¬r+v1≥4294967296:=by
      have h7:IntKind.wrap .u64 (r+IntKind.wrap .u64 (v.getD ((v.length:Int)-1).toNat 0))<4294967296:=by simpa using h7
      omega
     rw[aw hc,aq h7]at h1;refine aC (a7 (a8 (f,q-1,r+v1) ⟨h1,by show t=(q-1)*v1+(r+v1);rw[xK,iY];omega,by show 0≤r+v1;omega,by show r+v1<4294967296;omega,by show(4294967296:Int)≤r+v1+(f:Nat)*2147483648;omega,by show u/val v≤q-1;omega⟩ (fN f) (wk ⟨sR ae,sR ae,sR ae,sR ae,⟨_,ae,au.of_eq (az (λz=>AV.c (C.I .u64 z)) w1)⟩,⟨_,ae,au.of_eq (az (λz=>AV.c (C.I .u64 z)) w2)⟩,ah⟩ ⟨bR ae,ah⟩)))
   ·have hc:¬(q≥4294967296∨q*v2>r*4294967296+u2):=by
     have h8:¬IntKind.wrap .u64 (q*IntKind.wrap .u64 (v.getD ((v.length:Int)-2).toNat 0))>IntKind.wrap .u64 (IntKind.wrap .u64 (r*4294967296)+IntKind.wrap .u64 (U.getD (j+((v.length:Int)-2).toNat) 0)):=by simpa using h8
     rw[w3,w4]at h8;omega
    rw[aq hc]at h1;subst h1;exact bp (bu (br (bq (ai (rr ae (aF (tT ar ae (au.refl _) ae)))))))
end Go.El
namespace Go.El
def bY:Nat→Int→List Int
 |0,_=>[]
 |n+1,x=>x%4294967296::bY n (x/4294967296)
def tV:∀(n:Nat)(x:Int),(bY n x).length=n
 |0,_=>rfl
 |n+1,x=>by rw[bY,fk,tV n]
def Hl:∀(n:Nat)(x:Int),bT (bY n x)
 |0,_=>Pa
 |n+1,x=>zp.2 ⟨⟨gT _ ak,il _ ak⟩,Hl n _⟩
def qu(n:Nat):(4294967296:Int)^(n+1)=4294967296^n*4294967296:=fO _ _
def K5(x:Int)(n:Nat):x/4294967296^(n+1)=x/4294967296^n/4294967296:=by rw[qu,Int.ediv_ediv_of_nonneg (by have:=jR n;omega)]
def Yd(x:Int)(n:Nat):x/4294967296^(n+1)=x/4294967296/4294967296^n:=by rw[qu,fc,Int.ediv_ediv_of_nonneg ak]
def QT(x:Int)(n:Nat):x%4294967296^(n+1)=x%4294967296+4294967296*(x/4294967296%4294967296^n):=by
 have h1:=oU x (4294967296^(n+1));have h2:=oU x 4294967296;have h3:=oU (x/4294967296) (4294967296^n);rw[Yd,qu]at h1;rw[qu];generalize x/4294967296/4294967296^n=a at*;generalize x/4294967296%4294967296^n=b at*;generalize x/4294967296=c at*;have e:4294967296^n*4294967296*a=4294967296*(4294967296^n*a):=by rw[fc (4294967296^n) 4294967296,j5]
 rw[e]at h1;generalize (4294967296:Int)^n*a=d at*;omega
def Hm:∀(n:Nat)(x:Int),val (bY n x)=x%4294967296^n
 |0,x=>by rw[wm,Int.emod_one];rfl
 |n+1,x=>by rw[bY,val,Hm n,QT]
def Ej:∀(n:Nat)(x:Int),bY (n+1) x=bY n x++[x/4294967296^n%4294967296]
 |0,x=>by rw[wm,zg];rfl
 |n+1,x=>by rw[bY,Ej n,bY,Yd];rfl
def K6:∀(n:Nat)(x y:Int),x%4294967296^n=y%4294967296^n→bY n x=bY n y
 |0,_,_,_=>rfl
 |n+1,x,y,h=>by rw[QT,QT]at h;have h1:=gT x (show(4294967296:Int)≠0 by decide);have h2:=il x (show(0:Int)<4294967296 by decide);have h3:=gT y (show(4294967296:Int)≠0 by decide);have h4:=il y (show(0:Int)<4294967296 by decide);rw[bY,bY,K6 n (x/4294967296) (y/4294967296) af,show x%4294967296=y%4294967296 by omega]
def QU(n:Nat)(x y:Int):bY n (x+y*4294967296^n)=bY n x:=K6 n _ _ (VR _ _ _)
def Ye:∀{ws:List Int},bT ws→bY ws.length (val ws)=ws
 |[],_=>rfl
 |w::ws,h=>by obtain⟨h1,h2⟩:=zp.1 h;rw[fk,bY,val];rw[show(w+4294967296*val ws)%4294967296=w by omega,show(w+4294967296*val ws)/4294967296=val ws by omega,Ye h2]
def cV(U:List Int)(j:Nat)(ws:List Int):List Int:=U.take j++(ws++U.drop (j+ws.length))
def K7(U:List Int)(j:Nat):cV U j []=U:=by simp[cV]
def ye{U:List Int}{j:Nat}{ws:List Int}(h:j+ws.length≤U.length):(cV U j ws).length=U.length:=by simp[cV];omega
def K8{U:List Int}{j:Nat}{ws:List Int}(h:j+ws.length≤U.length):(cV U j ws).getD (j+ws.length) 0=U.getD (j+ws.length) 0:=by unfold cV;have hj:(U.take j).length=j:=cO;rw[aY,y8 af,hj,y8 af,tv,aY];congr 2;omega
def K9{U:List Int}{j:Nat}{ws:List Int}(w:Int)(h:j+ws.length<U.length):(cV U j ws).set (j+ws.length) w=cV U j (ws++[w]):=by unfold cV;have hj:(U.take j).length=j:=cO;rw[pS _ _ af,hj,pS _ _ af,show j+ws.length-j-ws.length=0 by omega];rw[pR h,Dd,nj,ko];rfl
def QV{U:List Int}{j:Nat}{ws:List Int}(h:bT U)(hw:bT ws):bT (cV U j ws):=Pb (jQ h _) (Pb hw (zq h _))
def QW{U:List Int}{j:Nat}{ws:List Int}(h:j+ws.length≤U.length):(cV U j ws).drop j=ws++U.drop (j+ws.length):=by unfold cV;have hj:(U.take j).length=j:=cO;rw[JM af,JQ af,wh]
def Yf{U:List Int}{j:Nat}{ws:List Int}(h:j+ws.length≤U.length):(cV U j ws).take j=U.take j:=by unfold cV;have hj:(U.take j).length=j:=cO;rw[AS af,lD af]
def QX(U:List Int)(j i:Nat):(U.drop j).getD i 0=U.getD (j+i) 0:=by rw[aY,tv,aY]
def Yg(U v:List Int)(j i:Nat)(q:Int){D c b:Int}(hD:D=val ((U.drop j).take i)-q*val (v.take i))(hb:D/4294967296^i= -(c+b)):
  (let p:=q*v.getD i 0+c
   let t:=4294967296+U.getD (j+i) 0-p%4294967296-b
   let D':=val ((U.drop j).take (i+1))-q*val (v.take (i+1))
   bY (i+1) D'=bY i D++[t%4294967296]∧D'/4294967296^(i+1)= -(p/4294967296+(1-t/4294967296))):=by
 intro p t D'
 have hd:D'=D+(U.getD (j+i) 0-q*v.getD i 0)*4294967296^i:=by show val ((U.drop j).take (i+1))-q*val (v.take (i+1))=_;rw[kV,kV,QX,hD,oX,xK,j5];omega
 have he:D'/4294967296^i= -(c+b)+(U.getD (j+i) 0-q*v.getD i 0):=by rw[hd,C9 _ _ (by have:=jR i;omega),hb]
 have hp:p=q*v.getD i 0+c:=rfl
 have ht:t=4294967296+U.getD (j+i) 0-p%4294967296-b:=rfl
 clear_value p t
 refine⟨?_,?_⟩
 ·rw[Ej,hd,QU,←hd,he];congr 2;omega
 ·rw[K5,he];omega
def Yh(U v:List Int)(j i:Nat){D c:Int}(hD:D=val ((U.drop j).take i)+val (v.take i))(hb:D/4294967296^i=c):
  (let t:=U.getD (j+i) 0+v.getD i 0+c
   let D':=val ((U.drop j).take (i+1))+val (v.take (i+1))
   bY (i+1) D'=bY i D++[t%4294967296]∧D'/4294967296^(i+1)=t/4294967296):=by
 intro t D'
 have hd:D'=D+(U.getD (j+i) 0+v.getD i 0)*4294967296^i:=by show val ((U.drop j).take (i+1))+val (v.take (i+1))=_;rw[kV,kV,QX,hD,lF];omega
 have he:D'/4294967296^i=c+(U.getD (j+i) 0+v.getD i 0):=by rw[hd,C9 _ _ (by have:=jR i;omega),hb]
 have ht:t=U.getD (j+i) 0+v.getD i 0+c:=rfl
 clear_value t
 refine⟨?_,?_⟩
 ·rw[Ej,hd,QU,←hd,he];congr 2;omega
 ·rw[K5,he];omega
end Go.El
namespace Go.El
open Go Go.Proofs
def Yi{v:List Int}(hv:bT v){q:Int}(nA:0≤q)(hq:q<4294967296)(i:Nat):0≤q*val (v.take i)/4294967296^i∧q*val (v.take i)/4294967296^i<4294967296:=by have h1:=mi (jQ hv i);have h2:=nR (jQ hv i);have h3:=uQ (m:=(v.take i).length) (n:=i) cO;have h4:=jR i;have h5:0≤q*val (v.take i):=j4 nA h1;refine⟨xB h5 af,C' h4 ?_⟩;have h6:q*val (v.take i)≤4294967296*val (v.take i):=jD af h1;have h7:4294967296*val (v.take i)<4294967296*4294967296^i:=Int.mul_lt_mul_of_pos_left af ak;omega
def Yj{v:List Int}{q c:Int}(i:Nat)(hc:c=q*val (v.take i)/4294967296^i):q*val (v.take (i+1))/4294967296^(i+1)=(q*v.getD i 0+c)/4294967296:=by rw[K5,kV,oX,←j5,C9 _ _ (by have:=jR i;omega),hc,xH]
def aix{v:List Int}(hv:bT v){q:Int}(nA:0≤q)(hq:q<4294967296){L:Nat}(hL:v.length<L):q*val (v.take L)/4294967296^L=0:=by
 rw[np v L af];have h1:=mi hv;have h2:=nR hv;have h3:=uQ (m:=v.length) (n:=L-1) af;have h4:(4294967296:Int)^L=4294967296^(L-1)*4294967296:=by rw[←qu];congr 1;omega
 have h6:q*val v≤4294967296*val v:=jD af h1;exact F1 (j4 nA h1) (by rw[h4];omega)
set_option maxHeartbeats 4000000 in
def aiy(U v:List Int)(j L:Nat)(q:Int)(hU:bT U)(hv:bT v)(hj:j+L≤U.length)(hL:v.length<L)(nA:0≤q)(hq:q<4294967296)(hl:U.length≤1099511627777):
  mZ Tryz.prog 226 [.c (.W 0 j L),cS aE v,cU q] 23 aE U (cB (decide (val ((U.drop j).take L)-q*val v<0))) (cV U j (bY L (val ((U.drop j).take L)-q*val v))):=by
 refine qt Tryz.func226 ae ae ae ae ae ak ?_
 refine rr ae (rr ae (rr ae (aj (rr ae ?_))))
 refine aK (bA (α:=Nat×Int×Int) (λx=>⟨[(0,.c (.W 0 j L)),(1,cS aE v),(2,cU q),(7,cU x.2.1),(8,cU x.2.2),(9,cI x.1)],[(0,.vec 23 aE (cV U j (bY x.1 (val ((U.drop j).take x.1)-q*val (v.take x.1)))))],5,[]⟩) (λx=>x.1≤L∧(val ((U.drop j).take x.1)-q*val (v.take x.1))/4294967296^x.1= -(x.2.1+x.2.2)∧x.2.1=q*val (v.take x.1)/4294967296^x.1∧(x.2.2=0∨x.2.2=1)) (λx=>L-x.1) (0,0,0) ⟨bK _,by simp[val],by simp[val],.inl ae⟩ (wk ⟨sR ae,sR ae,sR ae,sR ae,sR ae,sR ae,ah⟩ ⟨bE ae ?_,ah⟩) ?_)
 ·exact az (aJ.vec 23 aE) (K7 U j).symm
 rintro⟨i,c,b⟩ ⟨h1,h2,h3,h4⟩
 simp only at h1 h2 h3 h4
 have hc:=Yi hv nA hq i
 rw[←h3]at hc
 refine aj (rr ae ?_)
 refine ax ae (λh=>?_) (λh=>?_)
 ·have h:i<L:=by simpa using h
  have gv:=cZ hv i;have gu:=cZ hU (j+i);have hm:0≤q*v.getD i 0∧q*v.getD i 0≤18446744065119617025:=Hg nA af gv.1 af;have dc:=Yg U v j i q (c:=c) (b:=b) ae h2;have sW:=Yj (v:=v) (q:=q) i h3;simp only at dc;obtain⟨s1,s2⟩:=dc;have hlen:(bY i (val ((U.drop j).take i)-q*val (v.take i))).length=i:=tV _ _;have mU:=ye (U:=U) (j:=j) (ws:=bY i (val ((U.drop j).take i)-q*val (v.take i))) af;have rH:=K8 (U:=U) (j:=j) (ws:=bY i (val ((U.drop j).take i)-q*val (v.take i))) af;have kX:=λw=>K9 (U:=U) (j:=j) (ws:=bY i (val ((U.drop j).take i)-q*val (v.take i))) w af
  rw[hlen]at rH kX;refine aC (ai (aj (aK (rb (rc ae ae (BP v i hv) (re ae ?_))))));have w1:IntKind.wrap .u64 (IntKind.wrap .u64 (q*v.getD i 0)+c)=q*v.getD i 0+c:=by rw[wrap_u64 (q*v.getD i 0) af af,wrap_u64 _ af af]
  generalize hp:q*v.getD i 0+c=p at*;have cK:0≤p∧p<18446744073709551616:=af;refine dv (st':=⟨[(0,.c (.W 0 j L)),(1,cS aE v),(2,cU q),(8,cU b),(9,cI i),(10,cU p)],[(0,.vec 23 aE (cV U j (bY i (val ((U.drop j).take i)-q*val (v.take i)))))],7,[]⟩) (wk ⟨sR ae,sR ae,sR ae,sR ae,sR ae,⟨_,ae,au.of_eq (az (λz=>AV.c (C.I .u64 z)) w1)⟩,ah⟩ ⟨bR ae,ah⟩) ?_;generalize hX:cV U j (bY i (val ((U.drop j).take i)-q*val (v.take i)))=X at*;refine rr ae (rr ae (hp:=jN) ?_);have ei:(i:Int).toNat=i:=bw i;have w2:IntKind.wrap .u64 (p.tdiv 4294967296)=p/4294967296:=by rw[Eh cK.1,wrap_u64 _ af af]
  have w3:IntKind.wrap .u64 (IntKind.wrap .u64 (IntKind.wrap .u64 (4294967296+IntKind.wrap .u64 (X.getD (j+(i:Int).toNat) 0))-p.tmod 4294967296)-b)=4294967296+U.getD (j+i) 0-p%4294967296-b:=by rw[ei,rH,Hj cK.1,wrap_u64 (U.getD (j+i) 0) af af,wrap_u64 (4294967296+_) af af,wrap_u64 (_-p%4294967296) af af,wrap_u64 _ af af]
  generalize ht:4294967296+U.getD (j+i) 0-p%4294967296-b=t at*;have nY:0≤t∧t<8589934592:=af;refine dv (st':=⟨[(0,.c (.W 0 j L)),(1,cS aE v),(2,cU q),(7,cU (p/4294967296)),(9,cI i),(11,cU t)],[(0,.vec 23 aE X)],9,[]⟩) (wk ⟨sR ae,sR ae,sR ae,⟨_,ae,au.of_eq (az (λz=>AV.c (C.I .u64 z)) w2)⟩,sR ae,⟨_,ae,au.of_eq (az (λz=>AV.c (C.I .u64 z)) w3)⟩,ah⟩ ⟨bR ae,ah⟩) ?_;refine rr ae (hp:=jN) (rt ae ?_);refine a7 (ai (rt ae (a8 (i+1,p/4294967296,1-t/4294967296) ⟨h,s2,sW.symm,by show 1-t/4294967296=0∨1-t/4294967296=1;omega⟩ (by show L-(i+1)<L-i;omega) (wk ⟨sR ae,sR ae,sR ae,sR ae,sE ae ?_,sE ae ?_,ah⟩ ⟨bE ae ?_,ah⟩))))
  ·refine az (λz=>AV.c (C.I .u64 z)) ?_;show IntKind.wrap .u64 (1-IntKind.wrap .u64 (t.tdiv 4294967296))=1-t/4294967296;rw[Eh nY.1,wrap_u64 (t/4294967296) af af,wrap_u64 _ af af]
  ·exact az cI af
  ·refine az (aJ.vec 23 aE) ?_;show X.set (j+(i:Int).toNat) (IntKind.wrap .u32 (t.tmod 4294967296))=cV U j (bY (i+1) _);rw[s1,ei,Hj nY.1,wrap_u32 _ af af,kX]
 ·have h:¬i<L:=by simpa using h
  have e:i=L:=af;subst e;rw[aix hv nA hq hL]at h3;rw[np v i af]at h2⊢;refine bp (bu (br (bq (ai (rr ae (aF (tT ar ae (au.of_eq ?_) ae)))))));refine az cB ?_;show(b==1)=_;have hp:=jR i;rcases h4 with h4|h4
  ·subst h4 h3;have:0≤val ((U.drop j).take i)-q*val v:=by have h5:=oU (val ((U.drop j).take i)-q*val v) (4294967296^i);have h6:=gT (val ((U.drop j).take i)-q*val v) (show(4294967296:Int)^i≠0 by omega);rw[h2]at h5;simp at h5;omega
   rw[kq af];rfl
  ·subst h4 h3;have:val ((U.drop j).take i)-q*val v<0:=by have h5:=oU (val ((U.drop j).take i)-q*val v) (4294967296^i);have h6:=il (val ((U.drop j).take i)-q*val v) hp;rw[h2]at h5;simp at h5;omega
   rw[ov af];rfl
set_option maxHeartbeats 4000000 in
def aiz(U v:List Int)(j L:Nat)(hU:bT U)(hv:bT v)(hj:j+L≤U.length)(hL:v.length≤L)(hl:U.length≤1099511627777):
  mZ Tryz.prog 227 [.c (.W 0 j L),cS aE v] 23 aE U (.t []) (cV U j (bY L (val ((U.drop j).take L)+val v))):=by
 refine qt Tryz.func227 ae ae ae ae ae ak ?_
 refine rr ae (rr ae ?_)
 refine aK (bA (α:=Nat×Int) (λx=>⟨[(0,.c (.W 0 j L)),(1,cS aE v),(4,cU x.2),(5,cI x.1)],[(0,.vec 23 aE (cV U j (bY x.1 (val ((U.drop j).take x.1)+val (v.take x.1)))))],3,[]⟩) (λx=>x.1≤L∧(val ((U.drop j).take x.1)+val (v.take x.1))/4294967296^x.1=x.2∧(x.2=0∨x.2=1)) (λx=>L-x.1) (0,0) ⟨bK _,by simp[val],.inl ae⟩ (wk ⟨sR ae,sR ae,sR ae,sR ae,ah⟩ ⟨bE ae ?_,ah⟩) ?_)
 ·exact az (aJ.vec 23 aE) (K7 U j).symm
 rintro⟨i,c⟩ ⟨h1,h2,h4⟩
 simp only at h1 h2 h4
 refine aj (rr ae ?_)
 refine ax ae (λh=>?_) (λh=>?_)
 ·have h:i<L:=by simpa using h
  have gv:=cZ hv i;have gu:=cZ hU (j+i);have dc:=Yh U v j i (c:=c) ae h2;simp only at dc;obtain⟨s1,s2⟩:=dc;have hlen:(bY i (val ((U.drop j).take i)+val (v.take i))).length=i:=tV _ _;have mU:=ye (U:=U) (j:=j) (ws:=bY i (val ((U.drop j).take i)+val (v.take i))) af;have rH:=K8 (U:=U) (j:=j) (ws:=bY i (val ((U.drop j).take i)+val (v.take i))) af;have kX:=λw=>K9 (U:=U) (j:=j) (ws:=bY i (val ((U.drop j).take i)+val (v.take i))) w af
  rw[hlen]at rH kX;generalize hX:cV U j (bY i (val ((U.drop j).take i)+val (v.take i)))=X at*;have ei:(i:Int).toNat=i:=bw i;refine aC (ai (aj (aK (rb (rc ae ae (BP v i hv) (hp:=jN) (re ae ?_))))));have w1:IntKind.wrap .u64 (IntKind.wrap .u64 (IntKind.wrap .u64 (X.getD (j+(i:Int).toNat) 0)+v.getD i 0)+c)=U.getD (j+i) 0+v.getD i 0+c:=by rw[ei,rH,wrap_u64 (U.getD (j+i) 0) af af,wrap_u64 (_+v.getD i 0) af af,wrap_u64 _ af af]
  generalize ht:U.getD (j+i) 0+v.getD i 0+c=t at*;have nY:0≤t∧t<8589934592:=af;refine dv (st':=⟨[(0,.c (.W 0 j L)),(1,cS aE v),(5,cI i),(6,cU t)],[(0,.vec 23 aE X)],5,[]⟩) (wk ⟨sR ae,sR ae,sR ae,⟨_,ae,au.of_eq (az (λz=>AV.c (C.I .u64 z)) w1)⟩,ah⟩ ⟨bR ae,ah⟩) ?_;refine rr ae (hp:=jN) (rt ae ?_);refine a7 (ai (rt ae (a8 (i+1,t/4294967296) ⟨h,s2,by show t/4294967296=0∨t/4294967296=1;omega⟩ (by show L-(i+1)<L-i;omega) (wk ⟨sR ae,sR ae,sE ae ?_,sE ae ?_,ah⟩ ⟨bE ae ?_,ah⟩))))
  ·refine az (λz=>AV.c (C.I .u64 z)) ?_;show IntKind.wrap .u64 (t.tdiv 4294967296)=t/4294967296;rw[Eh nY.1,wrap_u64 (t/4294967296) af af]
  ·exact az cI af
  ·refine az (aJ.vec 23 aE) ?_;show X.set (j+(i:Int).toNat) (IntKind.wrap .u32 (t.tmod 4294967296))=cV U j (bY (i+1) _);rw[s1,ei,Hj nY.1,wrap_u32 _ af af,kX]
 ·have h:¬i<L:=by simpa using h
  have e:i=L:=af;subst e;rw[np v i af];exact bp (bu (br (bq (zW ar ae (au.refl _) ae))))
end Go.El
namespace Go.El
def QY{v:List Int}{n:Nat}(h:v.length=n+2):val v=(v.getD (n+1) 0*4294967296+v.getD n 0)*4294967296^n+val (v.take n):=by
 have h1:=kV v n;have h2:=kV v (n+1);rw[np v (n+1+1) af,qu]at h2;rw[h2,h1,lF];have e:v.getD (n+1) 0*(4294967296^n*4294967296)=v.getD (n+1) 0*4294967296*4294967296^n:=by rw[fc (4294967296^n),j5]
 rw[e];omega
def aiA(U:List Int)(j n:Nat):val ((U.drop j).take (n+3))=((U.getD (j+(n+2)) 0*4294967296+U.getD (j+(n+1)) 0)*4294967296+U.getD (j+n) 0)*4294967296^n+val ((U.drop j).take n):=by have h1:=kV (U.drop j) n;have h2:=kV (U.drop j) (n+1);have h3:=kV (U.drop j) (n+2);rw[QX]at h1 h2 h3;rw[qu]at h2;rw[qu (n+1),qu]at h3;rw[show n+3=n+2+1 from ae,h3,h2,h1];generalize (4294967296:Int)^n=M;generalize U.getD (j+(n+2)) 0=a;generalize U.getD (j+(n+1)) 0=b;generalize U.getD (j+n) 0=c;grind
def Yk{U v:List Int}{j n:Nat}(hU:bT U)(hv:bT v)(hn:v.length=n+2)(hj:j+n+3≤U.length)(yf:2147483648≤v.getD (n+1) 0)(bh:val ((U.drop j).take (n+3))<val v*4294967296):
  Kn1 (4294967296^n) (v.getD (n+1) 0) (v.getD n 0) (val (v.take n)) (val v) (U.getD (j+(n+2)) 0*4294967296+U.getD (j+(n+1)) 0) (U.getD (j+n) 0) (val ((U.drop j).take n)) (val ((U.drop j).take (n+3))):=by
 have a1:=cZ hv (n+1)
 have a2:=cZ hv n
 have b1:=cZ hU (j+(n+2))
 have b2:=cZ hU (j+(n+1))
 have b3:=cZ hU (j+n)
 have l1:=nR (jQ hv n)
 have l2:=nR (jQ (zq hU j) n)
 rw[show(v.take n).length=n by simp;omega]at l1
 rw[show((U.drop j).take n).length=n by simp;omega]at l2
 exact⟨jR n,yf,a1.2,a2.1,a2.2,mi (jQ hv n),l1,by omega,b3.1,b3.2,mi (jQ (zq hU j) n),l2,QY hn,aiA U j n,bh⟩
structure vf(A v:Int)(lb M:Nat)(x:Nat×List Int×List Int):Prop where
 k:x.1≤M+1
 ul:x.2.1.length=M+lb+1
 ur:bT x.2.1
 ub:val (x.2.1.drop x.1)<v
 ql:x.2.2.length=M+1
 qr:bT x.2.2
 qz:∀i,i<x.1→x.2.2.getD i 0=0
 eq:A=val x.2.1+v*val x.2.2
def z6(U:List Int)(j:Nat)(h:j≤U.length):val U=val (U.take j)+4294967296^j*val (U.drop j):=by have:=Ds (U.take j) (U.drop j);rw[AY]at this;rw[this];congr 3;simp;omega
def Yl{ws:List Int}(h:bT ws)(n:Nat)(hn:n≤ws.length)(hs:val ws<4294967296^n):val (ws.drop n)=0:=by
 have h1:=z6 ws n hn;have h2:=mi (jQ h n);have h3:=mi (zq h n);by_cases e:val (ws.drop n)=0
 ·exact e
 ·exfalso;have:4294967296^n*1≤4294967296^n*val (ws.drop n):=ju af (by have:=jR n;omega);omega
def vf.QZ{A v:Int}{lb M j:Nat}{U Q:List Int}(h:vf A v lb M (j+1,U,Q))(hv:v<4294967296^lb):val (U.drop j)=val ((U.drop j).take (lb+1))∧val ((U.drop j).take (lb+1))<v*4294967296:=by
 have hk:j+1≤M+1:=h.k;have hl:U.length=M+lb+1:=h.ul;have hr:bT U:=h.ur;have hb:val (U.drop (j+1))<v:=h.ub;have e1:U.drop j=U.getD j 0::U.drop (j+1):=by rw[pR af];simp[aY,ct (show j<U.length by omega)]
 have h0:val ((U.drop (j+1)).drop lb)=0:=Yl (zq hr _) lb cO af;have h1:val (U.drop j)=val ((U.drop j).take (lb+1)):=by have:=z6 (U.drop j) (lb+1) cO;rw[xF]at this;rw[xF]at h0;rw[this,show j+(lb+1)=j+1+lb by omega,h0];simp
 refine⟨h1,?_⟩;rw[←h1,e1,val];have:=cZ hr j;omega
def vf.next{A v:Int}{lb M j:Nat}{U Q:List Int}(h:vf A v lb M (j+1,U,Q))(oG:0<v)(hv:v<4294967296^lb):
  vf A v lb M (j,cV U j (bY (lb+1) (val ((U.drop j).take (lb+1))%v)),Q.set j (val ((U.drop j).take (lb+1))/v)):=by
 obtain⟨w1,w2⟩:=h.QZ hv
 have hk:j+1≤M+1:=h.k
 have hl:U.length=M+lb+1:=h.ul
 have hr:bT U:=h.ur
 have hb:val (U.drop (j+1))<v:=h.ub
 have rI:Q.length=M+1:=h.ql
 have hqr:bT Q:=h.qr
 have Ym:∀i,i<j+1→Q.getD i 0=0:=h.qz
 have heq:A=val U+v*val Q:=h.eq
 have Q3:0≤val ((U.drop j).take (lb+1)):=mi (jQ (zq hr _) _)
 generalize hu:val ((U.drop j).take (lb+1))=u at*
 have m0:=gT u (show v≠0 by omega)
 have m1:=il u oG
 have d0:0≤u/v:=xB Q3 af
 have d1:u/v<4294967296:=C' oG (by rw[fc];exact w2)
 have qv:=oU u v
 have mU:(bY (lb+1) (u%v)).length=lb+1:=tV _ _
 have u4:j+(bY (lb+1) (u%v)).length≤U.length:=af
 have bh:u%v<4294967296^(lb+1):=by rw[qu];have:=jR lb;omega
 have h0:val (U.drop (j+(lb+1)))=0:=by
  have:=z6 (U.drop j) (lb+1) cO;rw[xF,hu,w1]at this;have hp:=jR (lb+1);have h3:4294967296^(lb+1)*val (U.drop (j+(lb+1)))=0:=af;rcases Int.mul_eq_zero.1 h3 with e|e
  ·omega
  ·exact e
 have Yn:val ((cV U j (bY (lb+1) (u%v))).drop j)=u%v:=by rw[QW u4,Ds,Hm,iU m0 bh,mU,h0];simp
 refine⟨by show j≤M+1;omega,by show(cV _ _ _).length=_;rw[ye u4];exact hl,QV hr (Hl _ _),by show val ((cV U j _).drop j)<v;rw[Yn];exact m1,by show(Q.set _ _).length=_;simp[rI],zr hqr _ ⟨d0,d1⟩,?_,?_⟩
 ·intro i hi;show(Q.set j _).getD i 0=0;have hi:i<j:=hi;rw[aY,List.getElem?_set_ne af,←aY];exact Ym i af
 ·show A=val (cV U j _)+v*val (Q.set j _);rw[Pc Q j _ af,Ym j af,z6 (cV U j _) j (by rw[ye u4];omega),Yf u4,Yn,heq,z6 U j af,w1];have e1:v*(val Q+(u/v-0)*4294967296^j)=v*val Q+4294967296^j*(v*(u/v)):=by generalize u/v=x;generalize (4294967296:Int)^j=y;grind
  have e2:4294967296^j*u=4294967296^j*(u%v)+4294967296^j*(v*(u/v)):=by rw[←oX,qv]
  rw[e1,e2];omega
def vf.fin{A v:Int}{lb M:Nat}{U Q:List Int}(h:vf A v lb M (0,U,Q)):val Q=A/v∧val U=A%v:=by have hb:val U<v:=h.ub;have hu:=mi h.ur;have heq:A=val U+v*val Q:=h.eq;simp only at hu;have hv:0<v:=af;rw[heq,Int.add_mul_ediv_left _ _ af,F1 hu hb,JO,iU hu hb];exact⟨by omega,ae⟩
def aiC{b1:Int}(h1:1≤b1)(h2:b1<4294967296):2147483648≤b1*(4294967296/(b1+1)):=by
 have hd:=oU 4294967296 (b1+1);have hm:=il 4294967296 (show 0<b1+1 by omega);generalize 4294967296/(b1+1)=d at*;generalize (4294967296:Int)%(b1+1)=r at*;by_cases hb:2147483648≤b1
 ·have La:1≤d:=by
   by_cases e:1≤d
   ·exact e
   ·have:(b1+1)*d≤(b1+1)*0:=ju af af;omega
  have:b1*1≤b1*d:=ju La af;omega
 ·have key:0≤(b1-1)*(4294967296-2*b1-2):=j4 af af;have e1:(b1-1)*(4294967296-2*b1-2)=b1*4294967296-2*(b1*b1)-4294967296+2:=by grind
  have e2:(b1+1)*(b1*d)=b1*(4294967296-r):=by rw[show(b1+1)*(b1*d)=b1*((b1+1)*d)by grind];congr 1;omega
  have e3:b1*(4294967296-b1)≤b1*(4294967296-r):=ju af af;have e4:b1*(4294967296-b1)=b1*4294967296-b1*b1:=by rw[J8]
  by_cases e:2147483648≤b1*d
  ·exact e
  ·exfalso;have:(b1+1)*(b1*d)≤(b1+1)*2147483647:=ju af af;omega
end Go.El
namespace Go.El
open Go Go.Proofs
def Sm.of{z:Int}(h:z.natAbs<18446744073709551616):Sm z:=dG (zZ h) ak
def yg(n:Int)(h0: -9223372036854775808≤n)(h1:n≤9223372036854775807):aG Tryz.prog 46 [cI n] (aQ (n:Rat)):=by refine aX Tryz.func46 ae ae ae ae ae ak ?_;refine rr ae (rb (rc ae ae (BR n h0 h1) (rc ae ae (BR 1 ak ak) (re ae (aF (aL ar ae (au.of_eq ?_)))))));rfl
def Ek(q:Rat):aG Tryz.prog 53 [aQ q] (cI (cH q.num)):=by refine aX Tryz.func53 ae ae ae ae ae ak ?_;refine rr ae (rb (rc ae ae (BS q.num) (re ae (aF (aL ar ae (au.refl _))))))
def Lb(n g:Int)(hg:g≠0)(h:g.natAbs<4294967296)(hn:Sm n):aG Tryz.prog 228 [aZ n,aZ g] (aZ (n/g)):=by refine aX Tryz.func228 ae ae ae ae ae ak ?_;refine rr ae (rb (rc ae ae (aiu n g hg (.inr h) hn (Sm.of af)) (re ae (rr ae (aF (aL ar ae (au.of_eq ?_)))))));rfl
def Hn(n d:Int)(hd:d≠0):(Rat.divInt n d).num=n/(if d<0 then-((Int.gcd n d:Nat):Int)else((Int.gcd n d:Nat):Int))∧((Rat.divInt n d).den:Int)=d/(if d<0 then-((Int.gcd n d:Nat):Int)else((Int.gcd n d:Nat):Int)):=by
 have Q4:((Int.gcd n d:Nat):Int)∣n:=Int.gcd_dvd_left ..;have aiD:((Int.gcd n d:Nat):Int)∣d:=V9 ..;have Q5:Int.gcd n d≠0:=by intro h0;have:=(OL.1 h0).2;exact hd this
 rw[Rat.num_divInt,Rat.den_divInt,aq hd,Int.gcd_comm d n];by_cases h:d<0
 ·rw[aw h,Int.sign_eq_neg_one_of_neg h,Dj,Dj];refine⟨?_,?_⟩
  ·rw[Int.neg_mul,iY,Int.neg_ediv_of_dvd Q4]
  ·rw[A2,show((d.natAbs:Nat):Int)= -d by omega,Int.neg_ediv_of_dvd aiD]
 ·rw[aq h,Int.sign_eq_one_of_pos af,iY];refine⟨ae,?_⟩;rw[A2,show((d.natAbs:Nat):Int)=d by omega]
def aiE(n d:Int)(hd:d≠0)(hn:n.natAbs<18446744073709551616)(rJ:d.natAbs<4294967296):aG Tryz.prog 153 [aZ n,aZ d] (aQ (Rat.divInt n d)):=by
 refine aX Tryz.func153 ae ae ae ae ae ak ?_;have Q5:Int.gcd n d≠0:=λh0=>hd (OL.1 h0).2
 have jr:Int.gcd n d<4294967296:=zb (Nat.gcd_le_right _ af) rJ;obtain⟨p1,p2⟩:=Hn n d hd;refine rr ae (rb (rc ae ae (ait n d hn af) (re ae (aj (rb (rc ae ae (BS d) (re ae ?_)))))));refine ax ae (λh=>?_) (λh=>?_)
 ·have h:d<0:=by
   have h:cH d<0:=cd;unfold cH at h;split at h
   ·assumption
   ·(try split at h)<;>omega
  rw[aw h]at p1 p2;refine cG (rc ae ae (QD _) (re ae (ai (rb ?_))));refine rc ae ae (Lb n _ af af (Sm.of hn)) (rc ae ae (Lb d _ af af (Sm.of af)) (re ae (aF (aL ar ae (au.of_eq ?_)))));unfold aQ;simp only[av,p1,p2];rfl
 ·have h:¬d<0:=by
   have h:¬cH d<0:=cd;unfold cH at h;split at h
   ·omega
   ·assumption
  rw[aq h]at p1 p2;refine aC (ai (rb ?_));refine rc ae ae (Lb n _ af af (Sm.of hn)) (rc ae ae (Lb d _ af af (Sm.of af)) (re ae (aF (aL ar ae (au.of_eq ?_)))));unfold aQ;simp only[av,p1,p2];rfl
def aiF(n d:Int)(hd:d≠0)(hn:n.natAbs<18446744073709551616)(rJ:d.natAbs<4294967296):aG Tryz.prog 119 [aZ n,aZ d] (.t [(true,av .q (Rat.divInt n d)),(false,[.I .i64 0])]):=by
 refine aX Tryz.func119 ae ae ae ae ae ak ?_;refine rr ae (aj (rb (rc ae ae (BS d) (re ae ?_))));refine ax ae (λh=>?_) (λh=>?_)
 ·exfalso;have h:cH d=0:=cd;unfold cH at h;split at h
  ·omega
  ·(try split at h)<;>omega
 ·refine aC (ai (rb (rc ae ae (aiE n d hd hn rJ) (re ae (aF (aL ar ae (au.of_eq ?_)))))));rfl
def Yo{a b:Int}{x y:Nat}(ha:a.natAbs≤x)(hb:b.natAbs≤y):(a*b).natAbs≤x*y:=by rw[sj];exact nk ha hb
def aiG(a b:Rat)(hb:b.num≠0)(wG:a.num.natAbs≤65535)(wF:a.den≤65535)(jl:b.num.natAbs≤65535)(dK:b.den≤65535):aG Tryz.prog 51 [aQ a,aQ b] (.t [(true,av .q (Rat.divInt (a.num*(b.den:Int)) ((a.den:Int)*b.num))),(false,[.I .i64 0])]):=by refine aX Tryz.func51 ae ae ae ae ae ak ?_;have m1:=Yo (a:=a.num) (b:=(b.den:Int)) wG (show((b.den:Int)).natAbs≤65535 by simpa using dK);have m2:=Yo (a:=(a.den:Int)) (b:=b.num) (show((a.den:Int)).natAbs≤65535 by simpa using wF) jl;have aN:(a.den:Int)*b.num≠0:=J0 (by have:=a.den_nz;omega) hb;refine rr ae (rb (rc ae ae (tU _ _ (Sm.of af) (Sm.of af)) (rc ae ae (tU _ _ (Sm.of af) (Sm.of af)) (rc ae ae (aiF _ _ aN af af) (re ae (aF (aL ar ae (au.of_eq ?_))))))));rfl
end Go.El
