/- The engine, part 42: functions that write into a slice of the caller; windows on vectors; copy into vectors. Own work; no condition. -/
import Derived.Test.YtkkccchkmcjcpaaGreatU3
import Derived.Test.YtkkccchkmcjcpaaGreatU1
set_option linter.defProp false
set_option linter.unusedVariables false
set_option linter.unusedSimpArgs false
set_option linter.unnecessarySimpa false
namespace Go.El
open Go Go.RowKit
def YC(g:Gh)(W:World)(E:TypeId)(T:ET)(r:AV)(kj:List T.den)(e:Ending)(W':World):Prop:=
 ∃v g',e= .returned v∧bP ⟨g'.H,jd⟩ r v∧jn (λ_=>True) g' W' 0 (.vec E T kj)∧g'.γ 0=g.γ 0∧cF g.H g'.H∧(∀b o,b<W.heap.size→¬cQ (g.γ 0)=some b→g'.H b o=g.H b o)∧Sub g'.H W'∧DW (λb=>cQ (g.γ 0)=some b) W W'
structure nf(P:Program)(f:FuncId)(args:List AV)(E:TypeId)(T:ET)(xs:List T.den)(r:AV)(kj:List T.den):Prop where
 call:mD P f=true
 il:r.aD=[]
 spec:∀g W vs,Sub g.H W→jt g args vs→jn (λ_=>True) g W 0 (.vec E T xs)→Calls P f vs.toArray W (YC g W E T r kj)
def Ra(P:Program)(fn:Func)(E:TypeId)(T:ET)(r:AV)(kj:List T.den):fG:=λF e a W=>F.k0=1→bodyPost P fn (λe W'=>∃v g',e= .returned v∧bP ⟨g'.H,jd⟩ r v∧jn F.N g' W' 0 (.vec E T kj)∧g'.γ 0=F.γ0 0∧cF F.H0 g'.H∧(∀b o,b<F.w0.heap.size→¬F.own b→g'.H b o=F.H0 b o)∧Sub g'.H W'∧DW F.own F.w0 W') e a W
section
variable{P:Program}{tt:TT}{n:Nat}{st:St}
def uh(aT:cM P tt=true){fn:Func}{rs:List ResultVar}{r' r:AV}{E:TypeId}{T:ET}{kj:List T.den}(hr:ua tt st rs=some r')(hle:au r' r)(ju:ao 0 st.mem=some (.vec E T kj))(fM:fn.results=rs.toArray:=by rfl)(hm:r.aD=[]:=by rfl):gq n .ret st (Ra P fn E T r kj):=by intro F hF g W a h hk;obtain⟨u,hu,bW⟩:=BQ aT h fM hr;exact⟨h.defers.trans hF.ds,u,hu,u,g,ae,(hle.1 _ _ bW).il hm (cF.refl _) jd,h.df 0 _ (by simp[St.kn,ju]),(h.iz 0 af).2,h.le,h.fresh,h.sub,h.below⟩
def Ah(aT:cM P tt=true){fn:Func}{rs:List ResultVar}{r' r:AV}{E:TypeId}{T:ET}{kj:List T.den}(hr:ua tt st rs=some r')(hle:au r' r)(ju:ao 0 st.mem=some (.vec E T kj))(fM:fn.results=rs.toArray:=by rfl)(hm:r.aD=[]:=by rfl):gq n .normal st (Ra P fn E T r kj):=
 λF hF g W a h=>uh aT hr hle ju fM hm F hF g W a h
def LD:List Nat→Bool
 |[]=>true
 |id::r=>Nat.beq id 0&&LD r
def YD:∀{l:List Nat},LD l=true→∀id∈l,id=0
 |[],_,_,h=>by cases h
 |j::r,hb,id,h=>by
  simp only[LD,eX]at hb;rcases dC.1 h with rfl|h
  ·exact DC hb.1
  ·exact YD hb.2 id h
def qJ{f:FuncId}{fn:Func}{c:Code}{args:List AV}{E:TypeId}{T:ET}{xs kj:List T.den}{r:AV}(hf:P.funcs[f]? =some fn)(hb:fn.body=some c)(hN:fn.ntmps=n)(hle:Nat.ble args.length n=true)(mE:LD (fN args)=true)(BR:r.aD=[])(s8:(fn.name != "runtime.NumGoroutine")=true)
  (h:TR P n c ⟨ls 0 args,[(0,.vec E T xs)],1,[]⟩ (Ra P fn E T r kj)):nf P f args E T xs r kj:=by
 refine⟨by simp[mD,hf,hb,s8],BR,?_⟩
 intro g W vs eL bW jO
 refine calls_of_wp hf hb ?_
 have hlen:=z' bW
 have hle:=cY hle
 have iA:∀id b,St.kn ⟨ls 0 args,[(0,.vec E T xs)],1,[]⟩ (.m id)=some (.b b)→id=0∧b= .vec E T xs:=by
  intro id b e;simp only[St.kn,ao,ct]at e;obtain⟨x,hx,he⟩:=e;cases he;split at hx
  ·rename_i e0;cases hx;exact⟨e0.symm,ae⟩
  ·cases hx
 let F:de:={w0:=W,H0:=g.H,n:=n,own:=λb=>cQ (g.γ 0)=some b,k0:=1,γ0:=g.γ}
 refine wp_mono (h F ⟨ae,bD _,ae,ae⟩ g W _ ⟨?_,ae,?_,?_,?_,?_,?_,eL,⟨ae,ae,ae,bD _,λ_ _ _=>rfl⟩,cF.refl _,λ_ _ _ _=>rfl,?_⟩) ?_
 ·simp[hN,F];omega
 ·intro t v ht;simp only[St.kn,ct]at ht;obtain⟨x,hx,he⟩:=ht;cases he;obtain⟨_,u,hu,hr,_⟩:=pK args vs 0 bW t v hx;have jm:vs[t]? =some u:=Ds;have br:t<vs.length:=(wA.1 jm).1;have:(vs.toArray++Array.replicate (fn.ntmps-vs.toArray.size) undef).getD t undef=u:=by rw[wy,Bd Gn];simp[jm]
  rw[this];exact hr
 ·intro id b e;obtain⟨rfl,rfl⟩:=iA id b e;exact jO.Ex (λk hk=> .inr hk) ae ae ⟨cF.refl _,λ_ _=>rfl⟩
 ·intro id b9 b b' k e e' _ _;rw[(iA id b e).1,(iA b9 b' e').1]
 ·intro k x e id al;cases k with
  |m j=>
   cases x with
   |v y=>simp only[St.kn,ct]at e;obtain⟨_,_,he⟩:=e;cases he
   |b b=>obtain⟨_,rfl⟩:=iA j b e;simp[Info.aD,aK.aD]at al
  |s t=>
   simp only[St.kn,ct]at e
   obtain⟨y,hy,he⟩:=e
   subst he
   obtain⟨_,u,_,_,h6⟩:=pK args vs 0 bW t y hy
   have:=YD mE id (h6 id al)
   subst this
   show 0<1000000*1
   decide
 ·intro id x e;cases x with
  |v y=>simp only[St.kn,ct]at e;obtain⟨_,_,he⟩:=e;cases he
  |b b=>rw[(iA id b e).1];show 0<1000000*1;decide
 ·intro id al;have:id=0:=by have:id<1:=al;omega
  subst this;exact⟨by show 0<1000000*1;decide,ae⟩
 ·intro e a W' hq;have hq:=hq ae;have key:∀e W',(∃v g',e=Ending.returned v∧bP ⟨g'.H,jd⟩ r v∧jn F.N g' W' 0 (.vec E T kj)∧g'.γ 0=F.γ0 0∧cF F.H0 g'.H∧(∀b o,b<F.w0.heap.size→¬F.own b→g'.H b o=F.H0 b o)∧Sub g'.H W'∧DW F.own F.w0 W')→YC g W E T r kj e W':=by rintro e W' ⟨v,g',h1,h2,h3,h4⟩;exact⟨v,g',h1,h2,h3.Ex (λ_ _=>trivial) ae ae ⟨cF.refl _,λ_ _=>rfl⟩,h4⟩
  cases e with
  |normal=>obtain⟨h1,v,h2,h3⟩:=hq;exact⟨h1,v,h2,key _ _ h3⟩
  |ret=>obtain⟨h1,v,h2,h3⟩:=hq;exact⟨h1,v,h2,key _ _ h3⟩
  |panic c=>obtain⟨h1,h3⟩:=hq;exact⟨h1,key _ _ h3⟩
  |outgrown=>exact key _ _ hq
  |exit _=>exact hq
  |goto _=>exact hq
def ED(id:Nat):C→C
 | .P _ o=> .P id o
 | .X _=> .X id
 | .Y _ n i o=> .Y id n i o
 | .L _ o l c=> .L id o l c
 | .W _ o l=> .W id o l
 |c=>c
def HG(id:Nat):AV→AV
 | .c x=> .c (ED id x)
 | .a cs=> .a (cs.map (ED id))
 | .t ss=> .t (ss.map λs=>(s.1,s.2.map (ED id)))
def Rb{g:Gh}{id:Nat}:∀{c:C}{v:Value},dt g (ED id c) v→dt ⟨g.H,λ_=>g.γ id⟩ c v
 | .any,_,h=>h
 | .B _,_,h=>h
 | .I _ _,_,h=>h
 | .V _,_,h=>h
 | .S _ _,_,h=>h
 | .P _ _,_,h=>h
 | .X _,_,h=>h
 | .Y _ _ _ _,_,h=>h
 | .E _ _ _,_,h=>h
 | .M _,_,h=>h
 | .L _ _ _ (some _),_,h=>h
 | .L _ _ _ none,_,h=>h
 | .W _ _ _,_,h=>h
def Rc{g:Gh}{id:Nat}:∀{cs:List C}{vs:List Value},bU g (cs.map (ED id)) vs→bU ⟨g.H,λ_=>g.γ id⟩ cs vs
 |[],_,h=>h
 |_::_,_,h=>by obtain⟨v,r,e,h1,h2⟩:=h;exact⟨v,r,e,Rb h1,Rc h2⟩
def YE{g:Gh}{id:Nat}:∀{cs:List (Bool×List C)}{vs:List Value},dv g (cs.map λs=>(s.1,s.2.map (ED id))) vs→dv ⟨g.H,λ_=>g.γ id⟩ cs vs
 |[],_,h=>h
 | (b,c)::_,_,h=>by
  obtain⟨v,r,e,h1,h2⟩:=h;refine⟨v,r,e,?_,YE h2⟩;match b,c,h1 with
  |true,c,h1=>obtain⟨vs,e,h⟩:=h1;exact⟨vs,e,Rc h⟩
  |false,[c],h1=>exact Rb h1
  |false,[],h1=>exact h1.elim
  |false,_::_::_,h1=>exact h1.elim
def ai3{g:Gh}{id:Nat}{x:AV}{v:Value}(h:bP g (HG id x) v):bP ⟨g.H,λ_=>g.γ id⟩ x v:=by
 cases x with
 |c y=>exact Rb h
 |a cs=>obtain⟨vs,e,h⟩:=h;exact⟨vs,e,Rc h⟩
 |t ss=>obtain⟨vs,e,h⟩:=h;exact⟨vs,e,YE h⟩
def YF{g:Gh}{id:Nat}:∀{xs:List AV}{vs:List Value},jt g (xs.map (HG id)) vs→jt ⟨g.H,λ_=>g.γ id⟩ xs vs
 |[],_,h=>h
 |_::_,_,h=>by obtain⟨v,r,e,h1,h2⟩:=h;exact⟨v,r,e,ai3 h1,YF h2⟩
def ai4{n new:Nat}{ops:Array Oper}{i:Nat}{o:Oper}(ho:ops[i]? =some o)(hg:o.guard=none){d:Nat}(hd:o.dst=some d)(aV:d<n){f:FuncId}{args:Array Operand}{dn:Array TypeId}(ck:o.op= .call ⟨.value (.func f),args,dn⟩)
  {st:St} {vs:List AV} {id:Nat} {E:TypeId} {T:ET} {xs kj:List T.den} {r:AV} (hv:kH st args.toList=some (vs.map (HG id))) (hl:ao id st.mem=some (.vec E T xs)) (hf:nf P f vs E T xs r kj):ll P n ops i st ((st.pm id (.vec E T kj)).put d r) new (cH args.toList++fB [id],[.s d,.m id]):=by
 refine⟨args.toList.flatMap (dU st)++g7 st [id],[(.s d,some (.v r)),(.m id,some (.b (.vec E T kj)))],?_,?_,BI st d id _ _,?_,λk hk=>by simpa[fi]using hk⟩
 ·intro F gk Q known σ g W a K dX aJ bw hK;have kE:=z7 aJ st _ _ hv (λkx aS=>bw kx (fS _ aS));have hσ:σ (.m id)=some (.b (.vec E T xs)):=bw (.m id,.b (.vec E T xs)) uR;have jO:=aJ.df id _ hσ;have ai5:jn (λ_=>True) ⟨g.H,λ_=>g.γ id⟩ W 0 (.vec E T xs):=by
   rcases jO with⟨e1,e2⟩|⟨b,cap,ws,e1,e2,e3,e4,e5,e6,e7,e8⟩
   ·exact .inl ⟨e1,e2⟩
   ·exact .inr ⟨b,cap,ws,e1,e2,e3,e4,e5,e6,ah,e8⟩
  have hc:=hf.spec ⟨g.H,λ_=>g.γ id⟩ W _ aJ.sub (YF kE) ai5;unfold wpOp;simp only[ho,Region.wanted,hg,cP];refine .inl ?_;unfold Oper.wp;have hex:(execOp a.eval o).run P W= .ok (.enter f (args.map a.eval)) W:=by
   have cy:=hf.call;unfold mD at cy;rw[execOp,ck];cases iB:P.funcs[f]? with
   |none=>rw[iB]at cy;simp at cy
   |some fn=>
    rw[iB]at cy
    simp only[eX,bne_iff_ne,ne_eq]at cy
    have h2:fn.body≠none:=by intro hb;rw[hb]at cy;simp at cy
    simp[resolve,Act.eval,Deferred.ofValue,invoke,callFunc,iB,cy.1,h2]
  rw[hex];simp only[Oper.upon];have iP:(args.map a.eval)=(args.toList.map a.eval).toArray:=wo;rw[iP];refine hc.mono ?_;rintro e W' ⟨v,g',rfl,hrv,YG,fy,hle,lR,eL,eN⟩;simp only[hd];have cR:d<a.tmps.size:=rA;let g2:Gh:=⟨g'.H,g.γ⟩;have oO:iL known g g2:=⟨hle,λ_ _=>rfl⟩;have fy:g'.γ 0=g.γ id:=fy;have ai7:∀b o,b<W.heap.size→g2.H b o=g.H b o:=by
   intro b o hb;by_cases qH:cQ (g.γ id)=some b
   ·rcases jO with⟨e1,_⟩|⟨b1,cap,ws,e1,e2,e3,e4,e5,e6,e7,e8⟩
    ·rw[e1]at qH;simp[cQ]at qH
    ·rcases YG with⟨rJ,_⟩|⟨b2,Qf,EE,rJ,HH,YH,Lp,YI,YJ,e7',Rd⟩
     ·rw[fy,e1]at rJ;simp at rJ
     ·have h1:b1=b:=by rw[e1]at qH;simpa[cQ]using qH
      have h2:b2=b:=by rw[←fy,rJ]at qH;simpa[cQ]using qH
      subst h1;rw[e8 o];subst h2;exact Rd o
   ·exact lR b o hb qH
  refine hK g2 W' _ (aJ.step (chg:=λj=>j=id) (g':=g2) ⟨oO,ai7,eL,eN.size,?_,eN.os,eN.tape,eN.output⟩ _ new dX sC aJ.defers ?_ ?_ ?_ ?_ ?_ ?_)
  ·intro k hk aR;exact eN.block k hk (aR id ae)
  ·intro t ht;have aR:d≠t:=tL;simp[Act.put,nT aR]
  ·intro j hj;subst hj;exact⟨by simp[bc],_,hσ⟩
  ·intro t u ht;simp only[bc]at ht;split at ht
   ·rename_i e;simp only[Key.s.injEq]at e;simp only[aO,Info.v.injEq]at ht;subst e;subst ht;have:=hrv.il hf.il (cF.refl _) g.γ;simpa[Act.put,cR,g2]using this
   ·split at ht
    ·simp at ht
    ·simp at ht
  ·intro j b ht;simp only[bc,reduceCtorEq,cV]at ht;split at ht
   ·rename_i e;simp only[Key.m.injEq]at e;simp only[aO,Info.b.injEq]at ht;subst e;subst ht;refine⟨?_,.inl ⟨aJ.fF _ _ hσ,_,hσ⟩⟩;rcases YG with⟨rJ,HH⟩|⟨b2,Qf,EE,rJ,HH,YH,Lp,YI,YJ,e7',Rd⟩
    ·exact .inl ⟨by show g.γ id=_;rw[←fy,rJ],HH⟩
    ·refine .inr ⟨b2,Qf,EE,by show g.γ id=_;rw[←fy,rJ],HH,YH,Lp,YI,YJ,?_,Rd⟩;exact(jO.block (k:=b2) (by rw[←fy,rJ];rfl)).1
   ·simp at ht
  ·intro k y ht;simp only[bc]at ht;split at ht
   ·simp only[aO]at ht;subst ht;intro id al;simp only[Info.aD]at al;rw[hf.il]at al;cases al
   ·split at ht
    ·simp only[aO]at ht;subst ht;intro id al;simp[Info.aD,aK.aD]at al
    ·simp at ht
  ·intro j y ht;simp only[bc,reduceCtorEq,cV]at ht;split at ht
   ·rename_i e;simp only[Key.m.injEq]at e;exact .inl (e▸aJ.fF _ _ hσ)
   ·simp at ht
 ·intro kx aS;rcases b6.1 aS with aS|aS
  ·obtain⟨x,_,h⟩:=jK.1 aS;exact gn st x kx h
  ·exact rQ st [id] kx aS
 ·intro k hk;simp only[dT,eh,b6]at hk;rcases hk with h|h
  ·exact fS _ (fX st _ k h)
  ·exact j9 _ (qC st [id] k h)
def ai9{n:Nat}{ops:Array Oper}{draw:Bool}{nx i:Nat}{d f:Nat}{args:Array Operand}{dn:Array TypeId}{ty:TypeId}{pos:String}{cJ:Array Edge}{os:List Oper}{sl:List (Nat×AV)}{mem:List (Nat×aK)}{n0:Nat}{gd:List (Nat×Bool)}{ks:List Ks}{Q:St→Prop}{vs:List AV}{id:Nat}{E:TypeId}{T:ET}{xs kj:List T.den}{r:AV}
  (hv:kH ⟨sl,mem,n0,gd⟩ args.toList=some (vs.map (HG id))) (hl:ao id mem=some (.vec E T xs)) (hf:nf P f vs E T xs r kj) (h:RG P n ops draw nx (i+1) os ⟨(d,r)::sl,(id,.vec E T kj)::mem,n0,gd⟩ (fp draw ks (cH args.toList++fB [id],[.s d,.m id])) Q) (aV:Nat.blt d n=true:=by rfl):
  RG P n ops draw nx i (⟨some d,.call ⟨.value (.func f),args,dn⟩,ty,pos,cJ,none⟩::os) ⟨sl,mem,n0,gd⟩ ks Q:=
 kT (λho=>ai4 ho ae ae (cY aV) ae hv hl hf) (jD h)
def ai'(aT:cM P tt=true){n new:Nat}{ops:Array Oper}{i:Nat}{o:Oper}(ho:ops[i]? =some o)(hg:o.guard=none){d:Nat}(hd:o.dst=some d)(aV:d<n){t:TypeId}{x lo hi:Operand}(ck:o.op= .slice t x (some lo) (some hi) none)
  {st:St} {id:Nat} {E:TypeId} {T:ET} {xs:List T.den} {k1 k2:IntKind} {a b:Int} (hx:st.ev x=some (.c (.X id))) (hl:ao id st.mem=some (.vec E T xs)) (Re:st.ev lo=some (.c (.I k1 a))) (nB:st.ev hi=some (.c (.I k2 b))) (hT:T.n=1) (dh:wO tt t 1=true)
  {u v:Nat} (ea:a=(u:Int)) (eb:b=(v:Int)) (Ai:u<v) (hv:v≤xs.length):ll P n ops i st (st.put d (.c (.W id u (v-u)))) new (cH [x,lo,hi]++fB [id],[.s d]):=by
 refine⟨(dU st x++(dU st lo++dU st hi))++g7 st [id],[(.s d,some (.v (.c (.W id u (v-u)))))],?_,?_,n6 st d _,?_,λk hk=>by simpa[fi]using hk⟩
 ·refine ve ho hg hd aV _ _ new ?_;intro F known σ g W a' aJ bw;have lN:a'.eval x=g.γ id:=gI aJ st x _ hx (λkx aS=>bw kx jw);have kF:a'.eval lo= .int k1 a:=gI aJ st lo _ Re (λkx aS=>bw kx jw);have hrh:a'.eval hi= .int k2 b:=gI aJ st hi _ nB (λkx aS=>bw kx jw);have oM:=vd aJ st x _ hx (λkx aS=>bw kx jw);have hσ:σ (.m id)=some (.b (.vec E T xs)):=bw (.m id,.b (.vec E T xs)) uR;obtain⟨e,i',mZ,pC,hs⟩:=D7 aT dh;rcases aJ.df id _ hσ with⟨_,h0⟩|⟨bb,cap,vs,hγ,_,_,pG,_⟩
  ·subst h0;simp at hv;omega
  ·refine⟨λj hj=>oM j (by simpa[AV.aD,C.aD]using hj),.slice (some ⟨bb,u,none⟩) (v-u) (cap-u),?_,bb,cap-u,by rw[hγ];rfl,ae,by omega⟩;have lM:execOp a'.eval o=(do pure (.value (←Instr.sliceAt t (a'.eval x) ((some lo).map a'.eval) ((some hi).map a'.eval) (none.map a'.eval)))):=zj;have nZ:(Instr.sliceBounds true xs.length cap (some (.int k1 a)) (some (.int k2 b)) none).run P W= .ok (u,v,cap) W:=by have c1:v≤cap:=af;have c2:u≤v:=af;subst ea eb;simp[Instr.sliceBounds,Instr.sliceBound,asIntOf,c1,c2,Sem.run,pure]
   have aR:¬cap=u:=af;rw[lM];simp only[Px,Option.map_none,lN,kF,hrh,hγ,Instr.sliceAt,Sem.run_bind,run_underlying mZ,Result.andThen,Instr.slice,nZ,run_sizeOf pC,hs];simp[aR,qt,Sem.run,pure]
 ·intro kx aS;rcases b6.1 aS with h|h
  ·rcases b6.1 h with h|h
   ·exact gn _ x kx h
   ·rcases b6.1 h with h|h
    ·exact gn _ lo kx h
    ·exact gn _ hi kx h
  ·exact rQ _ [id] kx h
 ·intro k hk;simp only[dT,eh,b6]at hk;rcases hk with(h|h|h)|h
  ·exact fS _ (fX st [x,lo,hi] k zk)
  ·exact fS _ (fX st [x,lo,hi] k zm)
  ·exact fS _ (fX st [x,lo,hi] k (by simp only[dT,gN,eh,b6];exact .inr (.inr (.inl h))))
  ·exact j9 _ (qC st [id] k h)
def YK{g:Gh}(T:ET):∀(xs:List T.den)(vs:List Value),bU g (xs.flatMap (av T)) vs→vs.length=xs.length*T.n∧∀i(h:i<xs.length),dm g.H T xs[i] ((vs.drop (i*T.n)).take T.n)
 |[],vs,h=>by have h:vs=[]:=h;subst h;exact⟨by simp,λi h=>by simp at h⟩
 |x::xs,vs,h=>by
  rw[gN]at h;obtain⟨a,b,rfl,h1,h2⟩:=GP h;have hd:=zK T x a h1;have ha:=dm.length T _ _ hd;obtain⟨hl,hc⟩:=YK T xs b h2;refine⟨by simp[ha,hl,fV];omega,λi hi=>?_⟩;cases i with
  |zero=>
   simp only[Bp,uY,xO]
   rw[←ha,List.take_left']
   ·exact hd
   ·rfl
  |succ i=>
   simp only[Gw]
   have:=hc i (by simpa using hi)
   rw[show(i+1)*T.n=a.length+i*T.n by rw[fV,ha];omega,←xW,List.drop_left']
   ·exact this
   ·rfl
def ajb(aT:cM P tt=true){n new:Nat}{ops:Array Oper}{i:Nat}{o:Oper}(ho:ops[i]? =some o)(hg:o.guard=none){d:Nat}(hd:o.dst=some d)(aV:d<n){x y:Operand}{t1 t2:TypeId}(ck:o.op= .call ⟨.builtin .copy,#[x,y],#[t1,t2]⟩)
  {st:St} {id:Nat} {E E1:TypeId} {T:ET} {xs ys:List T.den} {ei:TI} (hx:st.ev x=some (.c (.X id))) (hl:ao id st.mem=some (.vec E T xs)) (hy:st.ev y=some (.c (.S T ys))) (hT:Ez tt t1 t2=some (E1,ei)) (kR:ei.size=T.n) (hle:ys.length≤xs.length) (aR:xs≠[]):
  ll P n ops i st ((st.pm id (.vec E T (ys++xs.drop ys.length))).put d (.c (.I .i64 ys.length))) new (cH [x,y]++fB [id],[.s d,.m id]):=by
 refine⟨(dU st x++dU st y)++g7 st [id],[(.s d,some (.v (.c (.I .i64 ys.length)))),(.m id,some (.b (.vec E T (ys++xs.drop ys.length))))],?_,?_,BI st d id _ _,?_,λk hk=>by simpa[fi]using hk⟩
 ·intro F gk Q known σ g W a K dX aJ bw hK;have hT:=Ys aT hT;rw[kR]at hT;have lN:a.eval x=g.γ id:=gI aJ st x _ hx (λkx aS=>bw kx jw);have pJ:=gI aJ st y _ hy (λkx aS=>bw kx jw);have hσ:σ (.m id)=some (.b (.vec E T xs)):=bw (.m id,.b (.vec E T xs)) uR;obtain⟨e2,nw⟩:=hT.u2;obtain⟨inf,z,lO,s9,yh,yi,Hv⟩:=hT.info;obtain⟨us,Ab,Rf,Aj,Hw⟩:=Yi (P:=P) (st:=st) (sz:=T.n) (y:= .c (.S T ys)) (m:=ys.length) (cs:=ys.flatMap (av T)) (ids:=[]) aJ (by simp[Lw]) pJ (λid al=>by cases al) nw (wG.2 (Yf ys));obtain⟨g9,huc⟩:=YK T ys us Rf;rcases aJ.df id _ hσ with⟨_,h0⟩|⟨b,cap,vs,hγ,hh,kS,pG,hlen,hr,hN,hz⟩
  ·exact absurd h0 aR
  have vq:us.length≤vs.length:=by rw[g9,kS];exact eJ _ af
  have dh:=Ec (P:=P) b us W vs 0 0 hh af Hw;simp only[kg]at dh;have b7:(Builtin.copy_ #[t1,t2] o.type #[a.eval x,a.eval y]).run P W= .ok (.int .i64 ys.length) (jr W b (dG vs us 0) E):=by rw[lN,hγ];have Rg:Nat.min ys.length xs.length=ys.length:=tN hle;have hc:=Ab.cells;simp[Builtin.copy_,run_underlying hT.u1,sizeOf,typeInfo,lO,Ab.len,Rg,s9,hc,dh,goInt,Sem.run,pure]
  have hex:(execOp a.eval o).run P W= .ok (.value (.int .i64 ys.length)) (jr W b (dG vs us 0) E):=by refine Lt ck (λcs=>?_);have e:(#[x,y]:Array Operand).map a.eval= #[a.eval x,a.eval y]:=be;rw[e];simp only[Go.builtin,Sem.run_bind,b7,Result.andThen];rfl
  unfold wpOp;simp only[ho,Region.wanted,hg,cP];refine .inl ?_;unfold Oper.wp;rw[hex];simp only[Oper.upon,hd];have cR:d<a.tmps.size:=rA;have hb:b<W.heap.size:=(jU.1 hh).1;have HI:(ys++xs.drop ys.length).length=xs.length:=cT;refine hK g _ _ (aJ.step (chg:=λj=>j=id) (g':=g) ⟨⟨cF.refl _,λ_ _=>rfl⟩,λ_ _ _=>rfl,He aJ.sub hz,by simp[jr],?_,ae,ae,ae⟩ _ new dX sC aJ.defers ?_ ?_ ?_ ?_ ?_ ?_)
  ·intro k' dx aR;have:b≠k':=λe=>aR id ae (by rw[hγ,e];rfl)
   exact D9 this
  ·intro t ht;have aR:d≠t:=tL;simp[Act.put,nT aR]
  ·intro j hj;subst hj;exact⟨by simp[bc],_,hσ⟩
  ·intro t u ht;simp only[bc]at ht;split at ht
   ·rename_i e;simp only[Key.s.injEq]at e;simp only[aO,Info.v.injEq]at ht;subst e;subst ht;simp[Act.put,cR,bP,dt]
   ·split at ht
    ·simp at ht
    ·simp at ht
  ·intro j bk hj;simp only[bc,reduceCtorEq,cV]at hj;split at hj
   ·rename_i e';simp only[Key.m.injEq]at e';subst e';simp only[aO,Info.b.injEq]at hj;subst hj;refine⟨.inr ⟨b,cap,dG vs us 0,by rw[HI];exact hγ,D8 hb,?_,by rw[HI];exact pG,by rw[HI];exact hlen,λj hj=>?_,hN,hz⟩,.inl ⟨aJ.fF _ _ hσ,_,hσ⟩⟩
    ·rw[Ea _ _ _ af];exact kS
    ·have BF:dG vs us 0=us++vs.drop us.length:=by simp[dG]
     rw[BF];by_cases jC:j<ys.length
     ·rw[zv jC];have h1:=huc j jC;have h2:j*T.n+T.n≤us.length:=by rw[g9,show j*T.n+T.n=(j+1)*T.n by rw[fV];omega];exact eJ _ af
      rw[Kl af,Bc cT];exact h1
     ·have nY:j<xs.length:=by omega
      rw[List.getElem_append_right af,wF];have h1:=hr j nY;have e1:ys.length+(j-ys.length)=j:=af;have h3:us.length≤j*T.n:=by rw[g9];exact eJ _ af
      have e2:(us++vs.drop us.length).drop (j*T.n)=vs.drop (j*T.n):=by rw[List.drop_append,Kt h3,wH,xW,show us.length+(j*T.n-us.length)=j*T.n by omega]
      rw[e2];simp only[e1];exact h1
   ·simp at hj
  ·intro k y ht;simp only[bc]at ht;split at ht
   ·simp only[aO]at ht;subst ht;intro id al;simp[Info.aD,AV.aD,C.aD]at al
   ·split at ht
    ·simp only[aO]at ht;subst ht;intro id al;simp[Info.aD,aK.aD]at al
    ·simp at ht
  ·intro j y ht;simp only[bc,reduceCtorEq,cV]at ht;split at ht
   ·rename_i e;simp only[Key.m.injEq]at e;exact .inl (e▸aJ.fF _ _ hσ)
   ·simp at ht
 ·intro kx aS;rcases b6.1 aS with h|h
  ·rcases b6.1 h with h|h
   ·exact gn _ x kx h
   ·exact gn _ y kx h
  ·exact rQ _ [id] kx h
 ·intro k hk;simp only[dT,eh,b6]at hk;rcases hk with(h|h)|h
  ·exact fS _ (fX st [x,y] k zk)
  ·exact fS _ (fX st [x,y] k zm)
  ·exact j9 _ (qC st [id] k h)
end
end Go.El
namespace Go.El
open Go Go.RowKit Go.Proofs
section
variable{n:Nat}{sl sl':List (Nat×AV)}{mem mem':List (Nat×aK)}{nx:Nat}{gd gd':List (Nat×Bool)}{ops:Array Oper}{draw:Bool}{p:Pr}{ks cp:List Ks}{i i' n0 cd:Nat}{os cG:List Oper}{d:Nat}{ty:TypeId}{pos:String}{cJ:Array Edge}{R:St→Prop}
def n9(id:Nat){f:FuncId}{args:Array Operand}{dn:Array TypeId}{vs:List AV}{E:TypeId}{T:ET}{xs kj:List T.den}{r:AV}(h:runs eC n nx draw ops.toList os i ⟨sl,mem,n0,gd⟩ .t ks=(⟨some d,.call ⟨.value (.func f),args,dn⟩,ty,pos,cJ,none⟩::cG,i',⟨sl',mem',cd,gd'⟩,p,cp))(hf:nf Tryz.prog f vs E T xs r kj)(hv:kH ⟨sl',mem',cd,gd'⟩ args.toList=some (vs.map (HG id)))(hl:ao id mem'=some (.vec E T xs))
  (hk:RG Tryz.prog n ops draw nx (i'+1) cG ⟨(d,r)::sl',(id,.vec E T kj)::mem',cd,gd'⟩ (fp draw cp (cH args.toList++fB [id],[.s d,.m id])) R)
  (hp:p:=by first|trivial| (simp only[Pr.an,Pr.h,num,aA,true_and,and_true];first|done|omega)| (simp[Pr.an,Pr.h,num,aA];done)| (simp[Pr.an,Pr.h,num,aA];omega)) (aV:Nat.blt d n=true:=by rfl):RG Tryz.prog n ops draw nx i os ⟨sl,mem,n0,gd⟩ ks R:=
 jE ar h hp (ai9 hv hl hf hk aV)
def YL(u v:Nat){t:TypeId}{x lo hi:Operand}{id:Nat}{E:TypeId}{T:ET}{xs:List T.den}{k1 k2:IntKind}{a b:Int}(h:runs eC n nx draw ops.toList os i ⟨sl,mem,n0,gd⟩ .t ks=(⟨some d,.slice t x (some lo) (some hi) none,ty,pos,cJ,none⟩::cG,i',⟨sl',mem',cd,gd'⟩,p,cp))
  (hx:St.ev ⟨sl',mem',cd,gd'⟩ x=some (.c (.X id))) (hl:ao id mem'=some (.vec E T xs)) (Re:St.ev ⟨sl',mem',cd,gd'⟩ lo=some (.c (.I k1 a))) (nB:St.ev ⟨sl',mem',cd,gd'⟩ hi=some (.c (.I k2 b))) (ea:a=(u:Int)) (eb:b=(v:Int)) (Ai:u<v) (hv:v≤xs.length)
  (hk:RG Tryz.prog n ops draw nx (i'+1) cG ⟨(d,.c (.W id u (v-u)))::sl',mem',cd,gd'⟩ (fp draw cp (cH [x,lo,hi]++fB [id],[.s d])) R) (hT:T.n=1:=by rfl) (dh:wO eC t 1=true:=by rfl)
  (hp:p:=by first|trivial| (simp only[Pr.an,Pr.h,num,aA,true_and,and_true];first|done|omega)| (simp[Pr.an,Pr.h,num,aA];done)| (simp[Pr.an,Pr.h,num,aA];omega)) (aV:Nat.blt d n=true:=by rfl):RG Tryz.prog n ops draw nx i os ⟨sl,mem,n0,gd⟩ ks R:=
 jE ar h hp (kT (λho=>ai' ar ho ae ae (cY aV) ae hx hl Re nB hT dh ea eb Ai hv) (jD hk))
def HJ{x y:Operand}{t1 t2:TypeId}{id:Nat}{E E1:TypeId}{T:ET}{xs ys:List T.den}{ei:TI}(h:runs eC n nx draw ops.toList os i ⟨sl,mem,n0,gd⟩ .t ks=(⟨some d,.call ⟨.builtin .copy,#[x,y],#[t1,t2]⟩,ty,pos,cJ,none⟩::cG,i',⟨sl',mem',cd,gd'⟩,p,cp))
  (hx:St.ev ⟨sl',mem',cd,gd'⟩ x=some (.c (.X id))) (hl:ao id mem'=some (.vec E T xs)) (hy:St.ev ⟨sl',mem',cd,gd'⟩ y=some (.c (.S T ys))) (hT:Ez eC t1 t2=some (E1,ei)) (hle:ys.length≤xs.length) (aR:xs≠[])
  (hk:RG Tryz.prog n ops draw nx (i'+1) cG ⟨(d,.c (.I .i64 ys.length))::sl',(id,.vec E T (ys++xs.drop ys.length))::mem',cd,gd'⟩ (fp draw cp (cH [x,y]++fB [id],[.s d,.m id])) R) (kR:ei.size=T.n:=by rfl)
  (hp:p:=by first|trivial| (simp only[Pr.an,Pr.h,num,aA,true_and,and_true];first|done|omega)| (simp[Pr.an,Pr.h,num,aA];done)| (simp[Pr.an,Pr.h,num,aA];omega)) (aV:Nat.blt d n=true:=by rfl):RG Tryz.prog n ops draw nx i os ⟨sl,mem,n0,gd⟩ ks R:=
 jE ar h hp (kT (λho=>ajb ar ho ae ae (cY aV) ae hx hl hy hT kR hle aR) (jD hk))
end
end Go.El
namespace Go.El
open Go Go.Proofs
def xa(ws:List Int):aG Tryz.prog 234 [cS aE ws] (cS aE (a7 ws)):=by
 refine aX Tryz.func234 ae ae ae ae ae ak (Aa 0 ae λhb=>?_);simp only[ET.n,k9]at hb;refine rr ae (rr ae ?_);refine aj (aH (bA (α:=Nat) (λk=>⟨[(0,cS aE ws),(3,cI k)],[],2,[]⟩) (λk=>k≤ws.length∧iM ws k=iM ws ws.length) (λk=>k) ws.length ⟨bD _,ae⟩ bY ?_));rintro k ⟨hk,iR⟩;have fin:∀v,k=0∨ws.getD (k-1) 0≠0→v=List.take k ws→au (cS aE v) (cS aE (a7 ws)):=by
  intro v h1 h2;refine au.of_eq ?_;subst h2;unfold a7;rw[←iR];cases k with
  |zero=>rfl
  |succ k=>
   rcases h1 with h1|h1
   ·omega
   ·simp only[iY]at h1;simp only[iM,h1,cV]
 refine aj (rb ?_);refine rg 8 ae ae (λh=>?_) (λh=>?_)
 ·simp at h;refine re ae (ax ae (λh2=>?_) (λh2=>?_))
  ·refine aC (ai (aH (rt ae (a6 (a8 (k-1) ⟨by omega,?_⟩ (by show k-1<k;omega) (wk ⟨sR ae,sE ae ?_,ah⟩ ah))))))
   ·rw[←iR];obtain⟨j,rfl⟩:∃j,k=j+1:=⟨k-1,by omega⟩;have h3:ws.getD j 0=0:=by have:(((j+1:Nat):Int)-1).toNat=j:=af;simpa[this]using h2
    simp only[iY,iM,h3,cP]
   ·congr 2;omega
  ·refine bh (bt (bq (bp (ai (rr ae (aF (aL ar ae (fin _ (.inr ?_) ?_))))))))
   ·have:((k:Int)-1).toNat=k-1:=by omega
    simpa[this]using h2
   ·simp
 ·simp at h;subst h;refine re ae (ax ae (λh2=>by simp at h2) (λ_=>?_));exact bh (bt (bq (bp (ai (rr ae (aF (aL ar ae (fin _ (.inl ae) ae))))))))
def Ak(ws:List Int):aG Tryz.prog 176 [cS aE ws] (cS aE (a7 ws)):=by
 refine aX Tryz.func176 ae ae ae ae ae ak (Aa 0 ae λhb=>?_);simp only[ET.n,k9]at hb;refine rr ae (rr ae ?_);refine aj (aH (bA (α:=Nat) (λk=>⟨[(0,cS aE ws),(3,cI k)],[],2,[]⟩) (λk=>k≤ws.length∧iM ws k=iM ws ws.length) (λk=>k) ws.length ⟨bD _,ae⟩ bY ?_));rintro k ⟨hk,iR⟩;have fin:∀v,k=0∨ws.getD (k-1) 0≠0→v=List.take k ws→au (cS aE v) (cS aE (a7 ws)):=by
  intro v h1 h2;refine au.of_eq ?_;subst h2;unfold a7;rw[←iR];cases k with
  |zero=>rfl
  |succ k=>
   rcases h1 with h1|h1
   ·omega
   ·simp only[iY]at h1;simp only[iM,h1,cV]
 refine aj (rb ?_);refine rg 8 ae ae (λh=>?_) (λh=>?_)
 ·simp at h;refine re ae (ax ae (λh2=>?_) (λh2=>?_))
  ·refine aC (ai (aH (rt ae (a6 (a8 (k-1) ⟨by omega,?_⟩ (by show k-1<k;omega) (wk ⟨sR ae,sE ae ?_,ah⟩ ah))))))
   ·rw[←iR];obtain⟨j,rfl⟩:∃j,k=j+1:=⟨k-1,by omega⟩;have h3:ws.getD j 0=0:=by have:(((j+1:Nat):Int)-1).toNat=j:=af;simpa[this]using h2
    simp only[iY,iM,h3,cP]
   ·congr 2;omega
  ·refine bh (bt (bq (bp (ai (rr ae (aF (aL ar ae (fin _ (.inr ?_) ?_))))))))
   ·have:((k:Int)-1).toNat=k-1:=by omega
    simpa[this]using h2
   ·simp
 ·simp at h;subst h;refine re ae (ax ae (λh2=>by simp at h2) (λ_=>?_));exact bh (bt (bq (bp (ai (rr ae (aF (aL ar ae (fin _ (.inl ae) ae))))))))
def wrap_u32(n:Int)(h0:0≤n)(h1:n<4294967296):IntKind.wrap .u32 n=n:=by simp[IntKind.wrap,IntKind.bits,IntKind.signed];omega
def wrap_u64(n:Int)(h0:0≤n)(h1:n<18446744073709551616):IntKind.wrap .u64 n=n:=by simp[IntKind.wrap,IntKind.bits,IntKind.signed];omega
def YM(m:Nat)(hm:m<18446744073709551616):a7 [((m%4294967296:Nat):Int),((m/4294967296:Nat):Int)]=az m:=by have hr:bV [((m%4294967296:Nat):Int),((m/4294967296:Nat):Int)]:=zL.mpr ⟨by omega,zL.mpr ⟨by omega,PQ⟩⟩;rw[qn hr];congr 1;simp only[val];omega
def Cc(m:Nat)(hm:m<18446744073709551616):aG Tryz.prog 112 [cU m] (cS aE (az m)):=by
 refine aX Tryz.func112 ae ae ae ae ae ak ?_;refine rr ae (rb ?_);have e1:IntKind.wrap .u32 ((m:Int).tmod 4294967296)=((m%4294967296:Nat):Int):=by rw[wrap_u32]<;>(rw[rB af];omega)
 have e2:IntKind.wrap .u32 (IntKind.wrap .u64 ((m:Int).tdiv 4294967296))=((m/4294967296:Nat):Int):=by
  have:(m:Int).tdiv 4294967296=((m/4294967296:Nat):Int):=by rw[Be af];omega
  rw[this,wrap_u64 _ af af,wrap_u32 _ af af]
 refine rl aE [_,_] ae ae ?_;refine rc ae ae (Ak _) ?_;refine re ae (aF (aL ar ae (au.of_eq ?_)));rw[e1,e2,YM m hm]
def ajd(neg:Bool)(ws:List Int):aG Tryz.prog 107 [cB neg,cS aE ws] (.a [.B (neg&&decide (0<(a7 ws).length)),.S aE (a7 ws)]):=by
 refine aX Tryz.func107 ae ae ae ae ae ak ?_;refine rr ae (rb ?_);refine rc ae ae (Ak _) ?_;refine re ae (rb ?_);refine rg 9 ae ae (λh=>?_) (λh=>?_)
 ·refine re ae (aF (aL ar ae (au.of_eq ?_)));subst h;have e:decide (((a7 ws).length:Int)>0)=(true&&decide (0<(a7 ws).length)):=be;exact ay (λb=>AV.a [C.B b,C.S aE (a7 ws)]) e
 ·refine re ae (aF (aL ar ae (au.of_eq ?_)));subst h;rfl
def Cd(ws:List Int)(i:Nat)(hr:bV ws):aG Tryz.prog 177 [cS aE ws,cI i] (cU (ws.getD i 0)):=by
 refine aX Tryz.func177 ae ae ae ae ae ak ?_;refine rr ae (aj (rr ae ?_));have:=dd hr i;refine ax ae (λh=>?_) (λh=>?_)
 ·simp at h;refine rr ae (aF (bS (aL ar ae (au.of_eq ?_))));have e:IntKind.wrap .u64 (ws.getD (i:Int).toNat 0)=ws.getD i 0:=by rw[bu,wrap_u64 _ this.1 af]
  exact ay (λx=>AV.c (C.I .u64 x)) e
 ·simp at h;refine aC (ai (rr ae (aF (aL ar ae (au.of_eq ?_)))));have e:ws.getD i 0=0:=by simp[aU,nn h]
  rw[e];rfl
def dz(a b:Int):Int:=if a<b then-1 else if b<a then 1 else 0
def aje(a b:List Int)(ha:bV a)(hb:bV b)(ca:can a)(cb:can b):aG Tryz.prog 109 [cS aE a,cS aE b] (cI (dz (val a) (val b))):=by
 refine aX Tryz.func109 ae ae ae ae ae ak (Aa 0 ae λRh=>Aa 1 ae λqH=>?_);simp only[ET.n,k9]at Rh qH;refine rr ae (aj (rr ae ?_));refine ax ae (λh=>?_) (λh=>?_)
 ·simp at h;refine rr ae (aF (bS (aL ar ae (au.of_eq ?_))));rw[dz,aw (KR ha hb cb h)];rfl
 ·simp at h;refine aC (ai (aj (rr ae ?_)));refine ax ae (λh2=>?_) (λh2=>?_)
  ·simp at h2;refine rr ae (aF (bS (aL ar ae (au.of_eq ?_))));have:=KR hb ha ca h2;rw[dz,aq af,aw this];rfl
  ·simp at h2;have hl:a.length=b.length:=af;refine aC (ai (aj (rr ae ?_)));refine aH (bA (α:=Nat) (λk=>⟨[(0,cS aE a),(1,cS aE b),(5,cI ((k:Int)-1))],[],4,[]⟩) (λk=>k≤a.length∧a.drop k=b.drop k) (λk=>k) a.length ⟨bD _,by simp[hl]⟩ bY ?_);rintro k ⟨hk,hd⟩;refine aj (rr ae ?_);refine ax ae (λh3=>?_) (λh3=>?_)
   ·simp at h3;obtain⟨j,rfl⟩:∃j,k=j+1:=⟨k-1,by omega⟩;have hj:(((j+1:Nat):Int)-1)=j:=af;have br:j<a.length:=af;rw[hj];refine aC (ai (aj (aH (aj (rr ae ?_)))));have ga:=dd ha j;have gb:=dd hb j;refine ax ae (λh4=>?_) (λh4=>?_)
    ·simp at h4;refine rr ae (aF ?_);repeat(first|refine bS ?_|refine fq ?_|refine gU ?_)
     refine aL ar ae (au.of_eq ?_);rw[dz,aw (KS ha hb j hd hl br h4)];rfl
    ·have h4:¬(a.getD j 0<b.getD j 0):=by simpa using h4
     refine aC (ai (rr ae ?_));refine ax ae (λh5=>?_) (λh5=>?_)
     ·simp at h5;refine rr ae (aF ?_);repeat(first|refine bS ?_|refine fq ?_|refine gU ?_)
      refine aL ar ae (au.of_eq ?_);have:=KS hb ha j hd.symm hl.symm af h5;rw[dz,aq af,aw this];rfl
     ·have h5:¬(a.getD j 0>b.getD j 0):=by simpa using h5
      refine aC (a6 (ai (rt ae (a8 j ⟨by omega,?_⟩ po bY))));have e:a.getD j 0=b.getD j 0:=af;have HK:j<b.length:=af;rw[oH br,oH HK,hd];simp only[aU,cr br,cr HK,DG]at e;rw[e]
   ·simp at h3;have:k=0:=af;subst this;refine bh (bt (bq (bp (ai (rr ae (aF ?_))))));repeat(first|refine bS ?_|refine fq ?_|refine gU ?_)
    refine aL ar ae (au.of_eq ?_);simp only[uY]at hd;rw[hd,dz,aq af,aq af];rfl
def mH(o:List Int)(i j:Nat)(w:Int)(h:i<o.length):(o.set i w).getD j 0=if i=j then w else o.getD j 0:=by
 simp only[aU,GC];by_cases e:i=j
 ·subst e;simp[h]
 ·simp[e]
def HL(o:List Int)(i:Nat)(w:Int)(h:i<o.length)(hz:o.getD i 0=0):val (o.set i w)=val o+w*4294967296^i:=by rw[PU o i w h,hz];simp
structure EF(a b:List Int)(m:Nat)(x:Nat×List Int×Int):Prop where
 i:x.1≤m
 len:x.2.1.length=m
 r:bV x.2.1
 z:∀j,x.1≤j→x.2.1.getD j 0=0
 c0:0≤x.2.2
 c1:x.2.2≤1
 v:val x.2.1+x.2.2*4294967296^x.1=val (a.take x.1)+val (b.take x.1)
def EF.next{a b:List Int}{m:Nat}{x:Nat×List Int×Int}(h:EF a b m x)(hi:x.1<m)(ha:bV a)(hb:bV b):EF a b m (x.1+1,x.2.1.set x.1 ((a.getD x.1 0+b.getD x.1 0+x.2.2)%4294967296),(a.getD x.1 0+b.getD x.1 0+x.2.2)/4294967296):=by
 have h1:=dd ha x.1;have h2:=dd hb x.1;have h3:=h.c0;have h4:=h.c1;refine⟨hi,by simp[h.len],zN h.r _ ⟨by omega,by omega⟩,?_,(by show 0≤_/_;omega),(by show _/_≤1;omega),?_⟩
 ·intro j hj;simp only at hj;rw[mH _ _ _ _ (by rw[h.len];exact hi),aq af];exact h.z j af
 ·simp only;rw[HL _ _ _ (by rw[h.len];exact hi) (h.z _ (bD _)),lh,lh,fU];have hv:=h.v;generalize (4294967296:Int)^x.1=q at hv⊢;generalize ht:a.getD x.1 0+b.getD x.1 0+x.2.2=s;have hs:s%4294967296+s/4294967296*4294967296=s:=af;have:val x.2.1=val (a.take x.1)+val (b.take x.1)-x.2.2*q:=af;rw[this];have e:s%4294967296*q+s/4294967296*(q*4294967296)=s*q:=by rw[show s/4294967296*(q*4294967296)=s/4294967296*4294967296*q by grind,←lK,hs]
  have e2:s*q=a.getD x.1 0*q+b.getD x.1 0*q+x.2.2*q:=by rw[←ht];grind
  omega
def YN(x y:Nat):(if(y:Int)>x then(y:Int)else x)=((max x y:Nat):Int):=by
 by_cases h:(y:Int)>x
 ·rw[aw h];omega
 ·rw[aq h];omega
def ajf(a b:List Int)(ha:bV a)(hb:bV b)(la:a.length≤1099511627776)(lb:b.length≤1099511627776):aG Tryz.prog 108 [cS aE a,cS aE b] (cS aE (az (val a+val b).toNat)):=by
 refine aX Tryz.func108 ae ae ae ae ae ak ?_;refine rr ae (rr ae (rb ?_));refine rm aE (max a.length b.length+1) ae ae ae ae ae ae (lU .u32) ?_ ?_ ?_ ?_
 ·rw[YN];rfl
 ·show _*4≤_;omega
 ·show _*1≤_;omega
 refine re ae (rr ae (aj (rr ae ?_)));generalize hM:max a.length b.length+1=M;refine aH (bA (α:=Nat×List Int×Int) (λx=>⟨[(0,cS aE a),(1,cS aE b),(5,cI M),(6,.c (.X 2001000)),(7,cU x.2.2),(8,cI x.1)],[(2001000,.vec 23 aE x.2.1)],5,[]⟩) (EF a b M) (λx=>M-x.1) (0,List.replicate M 0,0) ?_ ?_ ?_)
 ·refine⟨bK _,by simp,sJ M,?_,jB _,Kh,by simp[wK,val]⟩;intro j _;simp only[aU,mU];split<;>rfl
 ·refine wk ⟨sR ae,sR ae,sE ae ?_,sR ae,sR ae,sR ae,ah⟩ ⟨bR ae,ah⟩;rw[YN,←hM];congr 2
 ·rintro⟨i,o,c⟩ hI;have hlen:o.length=M:=hI.len;have nE:0≤c:=hI.c0;have lQ:c≤1:=hI.c1;have ga:=dd ha i;have gb:=dd hb i;refine aj (rr ae ?_);refine ax ae (λh=>?_) (λh=>?_)
  ·have h:i<M:=by simpa using h
   refine aC (ai (aj (aH (rb ?_))));refine rc ae ae (Cd a i ha) (rc ae ae (Cd b i hb) (re ae ?_));have e0:IntKind.wrap .u64 (IntKind.wrap .u64 (a.getD i 0+b.getD i 0)+c)=a.getD i 0+b.getD i 0+c:=by rw[wrap_u64 (a.getD i 0+b.getD i 0) af af,wrap_u64 _ af af]
   rw[e0];generalize ht:a.getD i 0+b.getD i 0+c=s;have e1:IntKind.wrap .u32 (s.tmod 4294967296)=s%4294967296:=by rw[rB af,wrap_u32 _ af af]
   have e2:IntKind.wrap .u64 (s.tdiv 4294967296)=s/4294967296:=by rw[Be af,wrap_u64 _ af af]
   have hn:=hI.next h ha hb;simp only[ht]at hn;refine rr ae (rt ae (a6 (ai (rt ae (a8 (i+1,o.set i (s%4294967296),s/4294967296) hn Gp (wk ⟨sR ae,sR ae,sR ae,sR ae,sE ae ?_,sE ae ?_,ah⟩ ⟨bE ae ?_,ah⟩))))))
   ·exact ay (λx=>AV.c (C.I .u64 x)) e2
   ·rfl
   ·rw[e1,bu]
  ·have h:¬i<M:=by simpa using h
   have hi:i=M:=by have:=hI.i;simp only at this;omega
   refine bh (bt (bq (bp (ai (fY 2001000 ae ae ae (rb ?_))))));refine rc ae ae (Ak _) (re ae (aF (aL ar ae (au.of_eq ?_))));have hv:=hI.v;simp only at hv;have hr:bV o:=hI.r;have jq:=nX hr;have n8:=mz hr;have Ce:val (a.take i)=val a:=nv a i af;have HM:val (b.take i)=val b:=nv b i af;have EG:=nX ha;have hlb:=nX hb;have pa:(4294967296:Int)^a.length≤4294967296^(M-1):=vb af;have pb:(4294967296:Int)^b.length≤4294967296^(M-1):=vb af;have pm:(4294967296:Int)^M=4294967296^(M-1)*4294967296:=by rw[←fU];congr 1;omega
   have pM:=jZ (M-1);have hc:c=0:=by
    rw[Ce,HM,hi,pm]at hv;rcases Int.lt_or_le c 1 with br|tR
    ·omega
    ·have:c=1:=by omega
     subst this;omega
   rw[qn hr];subst hc;rw[Ce,HM]at hv;simp only[kO,nq]at hv;rw[hv]
structure HN(a b:List Int)(m:Nat)(x:Nat×List Int×Int):Prop where
 i:x.1≤m
 len:x.2.1.length=m
 r:bV x.2.1
 z:∀j,x.1≤j→x.2.1.getD j 0=0
 c0:0≤x.2.2
 c1:x.2.2≤1
 v:val x.2.1-x.2.2*4294967296^x.1=val (a.take x.1)-val (b.take x.1)
def HN.next{a b:List Int}{m:Nat}{x:Nat×List Int×Int}(h:HN a b m x)(hi:x.1<m)(ha:bV a)(hb:bV b):HN a b m (x.1+1,x.2.1.set x.1 ((4294967296+a.getD x.1 0-b.getD x.1 0-x.2.2)%4294967296),1-(4294967296+a.getD x.1 0-b.getD x.1 0-x.2.2)/4294967296):=by
 have h1:=dd ha x.1;have h2:=dd hb x.1;have h3:=h.c0;have h4:=h.c1;refine⟨hi,by simp[h.len],zN h.r _ ⟨by omega,by omega⟩,?_,(by show 0≤1-_/_;omega),(by show 1-_/_≤1;omega),?_⟩
 ·intro j hj;simp only at hj;rw[mH _ _ _ _ (by rw[h.len];exact hi),aq af];exact h.z j af
 ·simp only;rw[HL _ _ _ (by rw[h.len];exact hi) (h.z _ (bD _)),lh,lh,fU];have hv:=h.v;generalize (4294967296:Int)^x.1=q at hv⊢;generalize ht:4294967296+a.getD x.1 0-b.getD x.1 0-x.2.2=s;have hs:s%4294967296+s/4294967296*4294967296=s:=af;have:val x.2.1=val (a.take x.1)-val (b.take x.1)+x.2.2*q:=af;rw[this];have e:s%4294967296*q+s/4294967296*(q*4294967296)=s*q:=by rw[show s/4294967296*(q*4294967296)=s/4294967296*4294967296*q by grind,←lK,hs]
  have e2:s*q=4294967296*q+a.getD x.1 0*q-b.getD x.1 0*q-x.2.2*q:=by rw[←ht];grind
  have e3:(1-s/4294967296)*(q*4294967296)=4294967296*q-s/4294967296*(q*4294967296):=by grind
  omega
def ajg(a b:List Int)(ha:bV a)(hb:bV b)(hl:b.length≤a.length)(hle:val b≤val a)(la:a.length≤1099511627776):aG Tryz.prog 110 [cS aE a,cS aE b] (cS aE (az (val a-val b).toNat)):=by
 refine aX Tryz.func110 ae ae ae ae ae ak ?_;refine rr ae (rb ?_);refine rm aE a.length ae ae ae ae ae ae (lU .u32) ae ?_ ?_ ?_
 ·show _*4≤_;omega
 ·show _*1≤_;omega
 refine re ae (rr ae (aj (rr ae ?_)));generalize hM:a.length=M;refine aH (bA (α:=Nat×List Int×Int) (λx=>⟨[(0,cS aE a),(1,cS aE b),(5,.c (.X 1002000)),(6,cU x.2.2),(7,cI x.1)],[(1002000,.vec 23 aE x.2.1)],4,[]⟩) (HN a b M) (λx=>M-x.1) (0,List.replicate M 0,0) ?_ ?_ ?_)
 ·refine⟨bK _,by simp,sJ M,?_,jB _,Kh,by simp[wK,val]⟩;intro j _;simp only[aU,mU];split<;>rfl
 ·exact wk ⟨sR ae,sR ae,sR ae,sR ae,sR ae,ah⟩ ⟨bR ae,ah⟩
 ·rintro⟨i,o,c⟩ hI;have hlen:o.length=M:=hI.len;have nE:0≤c:=hI.c0;have lQ:c≤1:=hI.c1;have ga:=dd ha i;have gb:=dd hb i;refine aj (rr ae ?_);refine ax ae (λh=>?_) (λh=>?_)
  ·have h:i<M:=by simpa[hM]using h
   refine aC (ai (aj (aH (rb ?_))));refine rc ae ae (Cd b i hb) (re ae ?_);have e0:IntKind.wrap .u64 (IntKind.wrap .u64 (IntKind.wrap .u64 (4294967296+IntKind.wrap .u64 (a.getD (i:Int).toNat 0))-b.getD i 0)-c)=4294967296+a.getD i 0-b.getD i 0-c:=by rw[bu,wrap_u64 (a.getD i 0) af af,wrap_u64 (4294967296+a.getD i 0) af af,wrap_u64 (4294967296+a.getD i 0-b.getD i 0) af af,wrap_u64 _ af af]
   simp only[e0];generalize ht:4294967296+a.getD i 0-b.getD i 0-c=s;have e1:IntKind.wrap .u32 (s.tmod 4294967296)=s%4294967296:=by rw[rB af,wrap_u32 _ af af]
   have e2:IntKind.wrap .u64 (1-IntKind.wrap .u64 (s.tdiv 4294967296))=1-s/4294967296:=by rw[Be af,wrap_u64 (s/4294967296) af af,wrap_u64 _ af af]
   have hn:=hI.next h ha hb;simp only[ht]at hn;refine rr ae (rt ae (a6 (ai (rt ae (a8 (i+1,o.set i (s%4294967296),1-s/4294967296) hn Gp (wk ⟨sR ae,sR ae,sR ae,sE ae ?_,sE ae ?_,ah⟩ ⟨bE ae ?_,ah⟩))))))
   ·exact ay (λx=>AV.c (C.I .u64 x)) e2
   ·rfl
   ·rw[e1,bu]
  ·have h:¬i<M:=by simpa[hM]using h
   have hi:i=M:=by have:=hI.i;simp only at this;omega
   refine bh (bt (bq (bp (ai (fY 1002000 ae ae ae (rb ?_))))));refine rc ae ae (Ak _) (re ae (aF (aL ar ae (au.of_eq ?_))));have hv:=hI.v;simp only at hv;have hr:bV o:=hI.r;have jq:=nX hr;have n8:=mz hr;have Ce:val (a.take i)=val a:=nv a i af;have HM:val (b.take i)=val b:=nv b i af;have pM:=jZ M;rw[hlen]at jq;have hc:c=0:=by
    rw[Ce,HM,hi]at hv;rcases Int.lt_or_le c 1 with br|tR
    ·omega
    ·have:c=1:=by omega
     subst this;omega
   rw[qn hr];subst hc;rw[Ce,HM]at hv;simp only[kO,DL]at hv;rw[hv]
structure Ri(a b:List Int)(x:Nat×List Int):Prop where
 i:x.1≤a.length
 len:x.2.length=a.length+b.length
 r:bV x.2
 z:∀j,x.1+b.length≤j→x.2.getD j 0=0
 v:val x.2=val (a.take x.1)*val b
structure Cf(a b:List Int)(i:Nat)(x:Nat×List Int×Int):Prop where
 k:x.1≤b.length
 len:x.2.1.length=a.length+b.length
 r:bV x.2.1
 z:∀j,i+b.length≤j→x.2.1.getD j 0=0
 c0:0≤x.2.2
 c1:x.2.2<4294967296
 v:val x.2.1+x.2.2*4294967296^(i+x.1)=val (a.take i)*val b+a.getD i 0*val (b.take x.1)*4294967296^i
def HO{x y:Int}(hx:0≤x)(lT:x≤4294967295)(hy:0≤y)(HP:y≤4294967295):0≤x*y∧x*y≤18446744065119617025:=by refine⟨jX hx hy,?_⟩;have h1:x*y≤4294967295*y:=jI lT hy;omega
def Cf.next{a b:List Int}{i:Nat}{x:Nat×List Int×Int}(h:Cf a b i x)(hi:i<a.length)(hk:x.1<b.length)(ha:bV a)(hb:bV b):Cf a b i (x.1+1,x.2.1.set (i+x.1) ((a.getD i 0*b.getD x.1 0+x.2.1.getD (i+x.1) 0+x.2.2)%4294967296),(a.getD i 0*b.getD x.1 0+x.2.1.getD (i+x.1) 0+x.2.2)/4294967296):=by
 have h1:=dd ha i;have h2:=dd hb x.1;have h3:=h.c0;have h4:=h.c1;have h5:=dd h.r (i+x.1);have h6:=HO h1.1 af h2.1 af;have br:i+x.1<x.2.1.length:=by rw[h.len];omega
 refine⟨hk,by simp[h.len],zN h.r _ ⟨by omega,by omega⟩,?_,(by show 0≤_/_;omega),(by show _/_<(4294967296:Int);omega),?_⟩
 ·intro j hj;simp only;rw[mH _ _ _ _ br,aq af];exact h.z j hj
 ·simp only;rw[PU _ _ _ br,lh,←tO,fU];have hv:=h.v;have hp:(4294967296:Int)^(i+x.1)=4294967296^i*4294967296^x.1:=Int.pow_add ..;generalize hq:(4294967296:Int)^(i+x.1)=q at hv hp⊢;generalize ht:a.getD i 0*b.getD x.1 0+x.2.1.getD (i+x.1) 0+x.2.2=s;have hs:s%4294967296+s/4294967296*4294967296=s:=af;have e:s%4294967296*q+s/4294967296*(q*4294967296)=s*q:=by rw[show s/4294967296*(q*4294967296)=s/4294967296*4294967296*q by grind,←lK,hs]
  have e2:s*q=a.getD i 0*b.getD x.1 0*q+x.2.1.getD (i+x.1) 0*q+x.2.2*q:=by rw[←ht];grind
  have e3:(s%4294967296-x.2.1.getD (i+x.1) 0)*q=s%4294967296*q-x.2.1.getD (i+x.1) 0*q:=by grind
  have e4:a.getD i 0*(val (b.take x.1)+b.getD x.1 0*4294967296^x.1)*4294967296^i=a.getD i 0*val (b.take x.1)*4294967296^i+a.getD i 0*b.getD x.1 0*q:=by rw[hp];grind
  rw[e3,e4];omega
def Cf.done{a b:List Int}{i:Nat}{o:List Int}{c:Int}(h:Cf a b i (b.length,o,c))(hi:i<a.length):Ri a b (i+1,o.set (i+b.length) c):=by
 have hlen:o.length=a.length+b.length:=h.len;have h3:=h.c0;have h4:=h.c1;have hz:o.getD (i+b.length) 0=0:=h.z _ (bD _);refine⟨hi,by simp[hlen],zN h.r _ ⟨h3,h4⟩,?_,?_⟩
 ·intro j hj;simp only at hj⊢;rw[mH _ _ _ _ af,aq af];exact h.z j af
 ·simp only;rw[HL _ _ _ af hz,lh];have hv:=h.v;simp only[iK]at hv;rw[hv];grind
set_option maxHeartbeats 1000000 in
def ajh(a b:List Int)(ha:bV a)(hb:bV b)(la:a.length≤1099511627776)(lb:b.length≤1099511627776):aG Tryz.prog 111 [cS aE a,cS aE b] (cS aE (az (val a*val b).toNat)):=by
 refine aX Tryz.func111 ae ae ae ae ae ak ?_;refine rr ae (rb ?_);refine rm aE (a.length+b.length) ae ae ae ae ae ae (lU .u32) ae ?_ ?_ ?_
 ·show _*4≤_;omega
 ·show _*1≤_;omega
 refine re ae (aj (rr ae ?_));refine aH (bA (α:=Nat×List Int) (λx=>⟨[(0,cS aE a),(1,cS aE b),(5,.c (.X 1005000)),(6,cI x.1)],[(1005000,.vec 23 aE x.2)],3,[]⟩) (Ri a b) (λx=>a.length-x.1) (0,List.replicate (a.length+b.length) 0) ?_ ?_ ?_)
 ·refine⟨bK _,by simp,sJ _,?_,by simp[wK,val]⟩;intro j _;simp only[aU,mU];split<;>rfl
 ·exact wk ⟨sR ae,sR ae,sR ae,sR ae,ah⟩ ⟨bR ae,ah⟩
 ·rintro⟨i,o⟩ hO;have hlen:o.length=a.length+b.length:=hO.len;refine aj (rr ae ?_);refine ax ae (λh=>?_) (λh=>?_)
  ·have h:i<a.length:=by simpa using h
   refine aC (ai (aj (aH (rr ae (aj (rr ae ?_))))));refine aH (bA (α:=Nat×List Int×Int) (λx=>⟨[(0,cS aE a),(1,cS aE b),(5,.c (.X 1005000)),(6,cI i),(7,cU x.2.2),(8,cI x.1)],[(1005000,.vec 23 aE x.2.1)],6,[]⟩) (Cf a b i) (λx=>b.length-x.1) (0,o,0) ?_ ?_ ?_)
   ·refine⟨bK _,hlen,hO.r,hO.z,jB _,(by show(0:Int)<_;decide),?_⟩;have:=hO.v;simp only at this;simp[this,val]
   ·exact wk ⟨sR ae,sR ae,sR ae,sR ae,sR ae,sR ae,ah⟩ ⟨bR ae,ah⟩
   ·rintro⟨k,o,c⟩ hI;have hlen:o.length=a.length+b.length:=hI.len;have nE:0≤c:=hI.c0;have lQ:c<4294967296:=hI.c1;refine aj (rr ae ?_);refine ax ae (λh2=>?_) (λh2=>?_)
    ·have h2:k<b.length:=by simpa using h2
     have ga:=dd ha i;have gb:=dd hb k;have go:=dd hI.r (i+k);simp only at go;have gm:=HO ga.1 af gb.1 af;refine aC (ai (aj (aH (rr ae ?_ (hp:=jT)))));have yv:((i:Int)+(k:Int)).toNat=i+k:=af;have e0:IntKind.wrap .u64 (IntKind.wrap .u64 (IntKind.wrap .u64 (IntKind.wrap .u64 (a.getD (i:Int).toNat 0)*IntKind.wrap .u64 (b.getD (k:Int).toNat 0))+IntKind.wrap .u64 (o.getD ((i:Int)+(k:Int)).toNat 0))+c)=a.getD i 0*b.getD k 0+o.getD (i+k) 0+c:=by rw[yv,bu,bu,wrap_u64 (a.getD i 0) af af,wrap_u64 (b.getD k 0) af af,wrap_u64 (o.getD (i+k) 0) af af,wrap_u64 (a.getD i 0*b.getD k 0) af af,wrap_u64 (a.getD i 0*b.getD k 0+o.getD (i+k) 0) af af,wrap_u64 _ af af]
     have hn:=hI.next h h2 ha hb;simp only at hn;generalize ht:a.getD i 0*b.getD k 0+o.getD (i+k) 0+c=s at hn e0;have e1:IntKind.wrap .u32 (s.tmod 4294967296)=s%4294967296:=by rw[rB af,wrap_u32 _ af af]
     have e2:IntKind.wrap .u64 (s.tdiv 4294967296)=s/4294967296:=by rw[Be af,wrap_u64 _ af af]
     refine dy (st':=⟨[(0,cS aE a),(1,cS aE b),(5,.c (.X 1005000)),(6,cI i),(8,cI k),(9,cU s)],[(1005000,.vec 23 aE o)],8,[]⟩) (wk ⟨sR ae,sR ae,sR ae,sR ae,sR ae,sE ae ?_,ah⟩ ⟨bR ae,ah⟩) ?_
     ·exact ay (λx=>AV.c (C.I .u64 x)) e0
     refine rr ae (rt ae (a6 (ai (rt ae (a8 (k+1,o.set (i+k) (s%4294967296),s/4294967296) hn (by show b.length-(k+1)<b.length-k;omega) (wk ⟨sR ae,sR ae,sR ae,sR ae,sE ae ?_,sE ae ?_,ah⟩ ⟨bE ae ?_,ah⟩))))))
     ·exact ay (λx=>AV.c (C.I .u64 x)) e2
     ·rfl
     ·rw[e1,yv]
    ·have h2:¬k<b.length:=by simpa using h2
     have hk:k=b.length:=by have:=hI.k;simp only at this;omega
     subst hk;have hd:=hI.done h;have yv:((i:Int)+(b.length:Int)).toNat=i+b.length:=af;have e1:IntKind.wrap .u32 c=c:=wrap_u32 c nE lQ;refine bh (bt (bq (bp (ai (rt ae (a6 (ai (rt ae (a8 (i+1,o.set (i+b.length) c) hd oF (wk ⟨sR ae,sR ae,sR ae,sE ae ?_,ah⟩ ⟨bE ae ?_,ah⟩))))))))))
     ·rfl
     ·rw[e1,yv]
  ·have h:¬i<a.length:=by simpa using h
   have hi:i=a.length:=by have:=hO.i;simp only at this;omega
   subst hi;refine bh (bt (bq (bp (ai (fY 1005000 ae ae ae (rb ?_))))));refine rc ae ae (Ak _) (re ae (aF (aL ar ae (au.of_eq ?_))));have hv:=hO.v;simp only[iK]at hv;rw[qn hO.r];simp only[hv]
def Sm(z:Int):Prop:=(dc z).length≤1099511627776
def sg(neg:Bool)(m:Nat):Int:=if neg then-(m:Int)else m
def vz(z:Int):sg (bN z) z.natAbs=z:=by
 unfold sg bN;by_cases h:z<0
 ·simp[h];omega
 ·simp[h];omega
def nh{m:Nat}:0<(az m).length↔m≠0:=by
 constructor
 ·intro h e;subst e;simp[DT]at h
 ·intro h;rw[x6 h];simp
def YO(neg:Bool)(m:Nat):(AV.a [.B (neg&&decide (0<(az m).length)),.S aE (az m)])=aZ (sg neg m):=by
 have e1:bN (sg neg m)=(neg&&decide (0<(az m).length)):=by
  unfold bN sg;cases neg with
  |false=>simp
  |true=>
   simp only[cP,Bool.true_and]
   rw[Bool.eq_iff_iff]
   simp only[decide_eq_true_eq]
   rw[nh];omega
 have e2:(sg neg m).natAbs=m:=by unfold sg;cases neg<;>simp
 unfold aZ;simp only[av,dc,e1,e2]
def mI(neg:Bool)(m:Nat):aG Tryz.prog 107 [cB neg,cS aE (az m)] (aZ (sg neg m)):=by have:=ajd neg (az m);rw[PV,YO]at this;exact this
def Ch(n:Int)(h0: -9223372036854775808≤n)(h1:n≤9223372036854775807):aG Tryz.prog 38 [cI n] (aZ n):=by
 refine aX Tryz.func38 ae ae ae ae ae ak ?_;refine rr ae (aj (rr ae ?_));refine ax ae (λh=>?_) (λh=>?_)
 ·have h:n<0:=by simpa using h
  have e:IntKind.wrap .u64 (IntKind.wrap .u64 (0-(n+1))+1)=((-n).toNat:Nat):=by rw[wrap_u64 (0-(n+1)) af af,wrap_u64 _ af af];omega
  refine rb ?_;refine rc ae ae (f:=112) (r:=cS aE (az (-n).toNat)) (by rw[e];exact Cc _ af) ?_;refine rc ae ae (mI true _) (re ae (aF (bS (aL ar ae (au.of_eq ?_)))));have e2:sg true (-n).toNat=n:=by unfold sg;simp;omega
  rw[e2];rfl
 ·have h:¬n<0:=by simpa using h
  have e:IntKind.wrap .u64 n=(n.toNat:Nat):=by rw[wrap_u64 _ af af];omega
  refine aC (ai (rb ?_));refine rc ae ae (f:=112) (r:=cS aE (az n.toNat)) (by rw[show(AV.c (num .u64 n).1)=cU ((n.toNat:Nat):Int)from ay (λx=>AV.c (C.I .u64 x)) e];exact Cc _ af) ?_;refine rc ae ae (mI false _) (re ae (aF (aL ar ae (au.of_eq ?_))));have e2:sg false n.toNat=n:=by unfold sg;simp;omega
  rw[e2];rfl
def cN(a:Int):Int:=if a<0 then-1 else if a=0 then 0 else 1
def EH(a:Int):aG Tryz.prog 57 [aZ a] (cI (cN a)):=by
 refine aX Tryz.func57 ae ae ae ae ae ak ?_;refine rr ae (aj (rr ae ?_));refine ax ae (λh=>?_) (λh=>?_)
 ·have h:a<0:=by simpa[bN]using h
  refine rr ae (aF (bS (aL ar ae (au.of_eq ?_))));rw[cN,aw h];rfl
 ·have h:¬a<0:=by simpa[bN]using h
  refine aC (ai (rr ae (aF (aL ar ae (au.of_eq ?_)))));have e:(if true=false then(0:Int)else if(1:Int)<(dc a).length then 1 else(dc a).length)=cN a:=by
   rw[aq ak,cN,aq h];by_cases hz:a=0
   ·subst hz;rfl
   ·have:0<(dc a).length:=nh.2 af;rw[aq hz];split<;>omega
  exact ay (λx=>AV.c (C.I .i64 x)) e
def YP(a:Int):aG Tryz.prog 58 [aZ a] (aZ (-a)):=by
 refine aX Tryz.func58 ae ae ae ae ae ak ?_;refine rr ae (rb ?_);refine rc ae ae (mI (!bN a) a.natAbs) (re ae (aF (aL ar ae (au.of_eq ?_))));have e2:sg (!bN a) a.natAbs= -a:=by
  unfold sg bN;by_cases h:a<0
  ·simp[h];omega
  ·simp[h];omega
 rw[e2];rfl
def HQ(m k:Nat):aG Tryz.prog 109 [cS aE (az m),cS aE (az k)] (cI (dz m k)):=by have:=aje (az m) (az k) (eK m) (eK k) (u9 m) (u9 k);rw[ff,ff]at this;exact this
def YQ(a b:Int):aG Tryz.prog 42 [aZ a,aZ b] (cI (dz a b)):=by
 refine aX Tryz.func42 ae ae ae ae ae ak ?_;refine rr ae (aj (rb ?_));refine rg 7 ae ae (λh=>?_) (λh=>?_)
 ·have ha:a<0:=by simpa[bN]using h
  refine re ae (ax ae (λh2=>?_) (λh2=>?_))
  ·have hb:¬b<0:=by simpa[bN]using h2
   refine rr ae (aF (bS (aL ar ae (au.of_eq ?_))));rw[dz,aw af];rfl
  ·have hb:b<0:=by simpa[bN]using h2
   refine aC (ai (aj (rb ?_)));refine rg 15 ae ae (λh3=>?_) (λh3=>?_)
   ·simp[bN,ha]at h3
   ·refine re ae (ax ae (λh4=>by simp at h4) (λ_=>?_));refine aC (ai (aj (rr ae ?_)));refine ax ae (λh4=>?_) (λh4=>?_)
    ·refine rb (rc ae ae (HQ _ _) (re ae (aF (bS (aL ar ae (au.of_eq ?_))))));have e:dz b.natAbs a.natAbs=dz a b:=by unfold dz;split<;>split<;>(try split)<;>omega
     exact ay (λx=>AV.c (C.I .i64 x)) e
    ·simp[bN,ha]at h4
 ·have ha:¬a<0:=by simpa[bN]using h
  refine re ae (ax ae (λh2=>by simp at h2) (λh2=>?_));refine aC (ai (aj (rb ?_)));refine rg 15 ae ae (λh3=>?_) (λh3=>?_)
  ·refine re ae (ax ae (λh4=>?_) (λh4=>?_))
   ·have hb:b<0:=by simpa[bN]using h4
    refine rr ae (aF (bS (aL ar ae (au.of_eq ?_))));rw[dz,aq af,aw af];rfl
   ·have hb:¬b<0:=by simpa[bN]using h4
    refine aC (ai (aj (rr ae ?_)));refine ax ae (λh4=>?_) (λh4=>?_)
    ·simp[bN,ha]at h4
    ·refine aC (ai (rb (rc ae ae (HQ _ _) (re ae (aF (aL ar ae (au.of_eq ?_)))))));have e:dz a.natAbs b.natAbs=dz a b:=by unfold dz;split<;>split<;>(try split)<;>omega
     exact ay (λx=>AV.c (C.I .i64 x)) e
  ·simp[bN,ha]at h3
def Rj(m k:Nat)(hm:(az m).length≤1099511627776)(hk:(az k).length≤1099511627776):aG Tryz.prog 108 [cS aE (az m),cS aE (az k)] (cS aE (az (m+k))):=by have:=ajf (az m) (az k) (eK m) (eK k) hm hk;rw[ff,ff,show((m:Int)+(k:Int)).toNat=m+k by omega]at this;exact this
def te{m k:Nat}(h:m≤k):(az m).length≤(az k).length:=By (by have:=va (n:=k);omega)
def LF(m k:Nat)(h:k≤m)(hm:(az m).length≤1099511627776):aG Tryz.prog 110 [cS aE (az m),cS aE (az k)] (cS aE (az (m-k))):=by have:=ajg (az m) (az k) (eK m) (eK k) (te h) (by rw[ff,ff];omega) hm;rw[ff,ff,show((m:Int)-(k:Int)).toNat=m-k by omega]at this;exact this
def Rk(m k:Nat)(hm:(az m).length≤1099511627776)(hk:(az k).length≤1099511627776):aG Tryz.prog 111 [cS aE (az m),cS aE (az k)] (cS aE (az (m*k))):=by have:=ajh (az m) (az k) (eK m) (eK k) hm hk;rw[ff,ff,show((m:Int)*(k:Int)).toNat=m*k by rw[←gi];rfl]at this;exact this
def xb(a b:Int)(ha:Sm a)(hb:Sm b):aG Tryz.prog 37 [aZ a,aZ b] (aZ (a*b)):=by
 refine aX Tryz.func37 ae ae ae ae ae ak ?_;refine rr ae (rb ?_);refine rc ae ae (Rk _ _ ha hb) (rc ae ae (mI _ _) (re ae (aF (aL ar ae (au.of_eq ?_)))));have e2:sg (bN a !=bN b) (a.natAbs*b.natAbs)=a*b:=by have ea:=vz a;have eb:=vz b;generalize a.natAbs=x at ea⊢;generalize b.natAbs=y at eb⊢;cases Rl:bN a<;>cases Rm:bN b<;>rw[Rl]at ea<;>rw[Rm]at eb<;>simp only[sg,cP,cV,mV]at ea eb<;>rw[←ea,←eb]<;>simp[sg]<;>grind
 exact ay aZ e2
def YR(a b:Int)(ha:Sm a)(hb:Sm b):aG Tryz.prog 36 [aZ a,aZ b] (aZ (a+b)):=by
 refine aX Tryz.func36 ae ae ae ae ae ak ?_;refine rr ae (aj (rr ae ?_));have ea:=vz a;have eb:=vz b;refine ax ae (λh=>?_) (λh=>?_)
 ·have h:bN a=bN b:=by simpa using h
  refine rb (rc ae ae (Rj _ _ ha hb) (rc ae ae (mI _ _) (re ae (aF (bS (aL ar ae (au.of_eq ?_)))))));have e2:sg (bN a) (a.natAbs+b.natAbs)=a+b:=by unfold bN sg at*;by_cases h1:a<0<;>by_cases h2:b<0<;>simp[h1,h2]at h⊢<;>omega
  exact ay aZ e2
 ·have h:bN a≠bN b:=by simpa using h
  refine aC (ai (aj (rb (rc ae ae (HQ _ _) (re ae ?_)))));refine ax ae (λh2=>?_) (λh2=>?_)
  ·have h2:a.natAbs<b.natAbs:=by
    have h2:dz a.natAbs b.natAbs<0:=gY;unfold dz at h2;split at h2
    ·omega
    ·split at h2<;>omega
   refine rb (rc ae ae (LF _ _ af hb) (rc ae ae (mI _ _) (re ae (aF (bS (aL ar ae (au.of_eq ?_)))))));have e2:sg (bN b) (b.natAbs-a.natAbs)=a+b:=by unfold bN sg at*;by_cases h1:a<0<;>by_cases h3:b<0<;>simp[h1,h3]at h⊢<;>omega
   exact ay aZ e2
  ·have h2:b.natAbs≤a.natAbs:=by
    have h2:¬dz a.natAbs b.natAbs<0:=gY;unfold dz at h2;split at h2
    ·omega
    ·omega
   refine aC (ai (rb (rc ae ae (LF _ _ af ha) (rc ae ae (mI _ _) (re ae (aF (aL ar ae (au.of_eq ?_))))))));have e2:sg (bN a) (a.natAbs-b.natAbs)=a+b:=by unfold bN sg at*;by_cases h1:a<0<;>by_cases h3:b<0<;>simp[h1,h3]at h⊢<;>omega
   exact ay aZ e2
def YS(m k:Nat)(hm:m<18446744073709551616)(hk:k<18446744073709551616):aG Tryz.prog 222 [cU m,cU k] (cU (Nat.gcd m k)):=by
 refine aX Tryz.func222 ae ae ae ae ae ak ?_;refine rr ae (aj (aH (bA (α:=Nat×Nat) (λx=>⟨[(0,cU x.1),(1,cU x.2)],[],1,[]⟩) (λx=>Nat.gcd x.1 x.2=Nat.gcd m k∧x.1<18446744073709551616∧x.2<18446744073709551616) (λx=>x.2) (m,k) ⟨ae,hm,hk⟩ bY ?_)));rintro⟨x,y⟩ ⟨hg,hx,hy⟩;simp only at hg hx hy;refine aj (rr ae ?_);refine ax ae (λh=>?_) (λh=>?_)
 ·have h:0<y:=by have:(y:Int)>0:=cq;omega
  refine aC (ai (aH (rr ae (rr ae (rt ae (a6 (a8 (y,x%y) ⟨?_,hy,?_⟩ ?_ (wk ⟨sR ae,sE ae ?_,ah⟩ ah))))))))
  ·rw[←hg,Bq x y,Nat.gcd_rec y x,Bq]
  ·exact kv (iy _ h) (KG hy)
  ·exact iy _ h
  ·have e:(x:Int).tmod (y:Int)=((x%y:Nat):Int):=by rw[rB af];omega
   exact ay (λz=>AV.c (C.I .u64 z)) e
 ·have h:y=0:=by have:¬(y:Int)>0:=cq;omega
  subst h;refine bh (bt (bq (bp (ai (rr ae (aF (aL ar ae (au.of_eq ?_))))))));rw[←hg,Kz]
def YT(m:Nat):(az m).getD 0 0=((m%4294967296:Nat):Int):=by
 by_cases h:m=0
 ·subst h;rfl
 ·rw[x6 h];rfl
def aji(m:Nat)(hm:m<18446744073709551616):(az m).getD 1 0=((m/4294967296:Nat):Int):=by
 by_cases h:m=0
 ·subst h;rfl
 ·rw[x6 h,List.getD_cons_succ,YT];congr 1;omega
def LG(m:Nat)(hm:m<18446744073709551616):aG Tryz.prog 223 [cS aE (az m)] (cU m):=by
 refine aX Tryz.func223 ae ae ae ae ae ak ?_;refine rr ae (rb ?_);refine rc ae ae (Cd _ 1 (eK m)) (rc ae ae (Cd _ 0 (eK m)) (re ae (aF (aL ar ae (au.of_eq ?_)))));have e:IntKind.wrap .u64 (IntKind.wrap .u64 ((az m).getD 1 0*4294967296)+(az m).getD 0 0)=m:=by rw[YT,aji m hm,wrap_u64 (((m/4294967296:Nat):Int)*4294967296) af af,wrap_u64 _ af af];omega
 exact ay (λz=>AV.c (C.I .u64 z)) e
def Al{m:Nat}(hm:m<18446744073709551616):(az m).length≤2:=By (by show(m:Int)<4294967296^2;omega)
def ajj(m k:Nat)(hm:m<18446744073709551616)(hk:k<18446744073709551616):aG Tryz.prog 151 [cS aE (az m),cS aE (az k)] (cS aE (az (Nat.gcd m k))):=by
 refine aX Tryz.func151 ae ae ae ae ae ak ?_;have l1:=Al hm;have l2:=Al hk;refine rr ae (aj (aH (bA (α:=Unit) (λ_=>⟨[(0,cS aE (az m)),(1,cS aE (az k))],[],1,[]⟩) (λ_=>True) (λ_=>0) () ah bY ?_)));rintro⟨⟩ _;refine aj (rr ae ?_);refine ax ae (λh=>?_) (λh=>?_)
 ·refine aC (ai (aH (aj (rb ?_))));refine rg 13 ae ae (λh2=>?_) (λh2=>?_)
  ·refine re ae (ax ae (λh3=>?_) (λh3=>?_))
   ·refine rb (rc ae ae (LG m hm) (rc ae ae (LG k hk) (rc ae ae (YS m k hm hk) (rc ae ae (Cc _ ?_) (re ae (aF ?_))))))
    ·by_cases h0:m=0
     ·rw[h0,Nat.gcd_zero_left];exact hk
     ·exact zy (Nat.gcd_le_left k af) hm
    ·repeat(first|refine bS ?_|refine fq ?_|refine gU ?_)
     exact aL ar ae (au.refl _)
   ·simp at h3;omega
  ·simp at h2;omega
 ·have h:(az k).length=0:=by have:¬((az k).length:Int)>0:=cq;omega
  have h0:k=0:=Decidable.byContradiction λaR=>by have:=nh.2 aR;omega
  subst h0;refine bh (bt (bq (bp (ai (rr ae (aF (aL ar ae (au.of_eq ?_))))))));rw[Kz]
def ajk(a b:Int)(ha:a.natAbs<18446744073709551616)(hb:b.natAbs<18446744073709551616):aG Tryz.prog 80 [aZ a,aZ b] (aZ (Int.gcd a b)):=by refine aX Tryz.func80 ae ae ae ae ae ak ?_;refine rr ae (rb ?_);refine rc ae ae (ajj _ _ ha hb) (rc ae ae (mI false _) (re ae (aF (aL ar ae (au.of_eq ?_)))));rfl
structure EI(a:List Int)(d:Int)(x:Nat×List Int×Int):Prop where
 k:x.1≤a.length
 len:x.2.1.length=a.length
 r:bV x.2.1
 r0:0≤x.2.2
 r1:x.2.2<d
 v:val (a.drop x.1)=val (x.2.1.drop x.1)*d+x.2.2
def drop_cons(l:List Int)(j:Nat)(h:j<l.length):l.drop j=l.getD j 0::l.drop (j+1):=by rw[oH h];simp[aU,cr h]
def LH{r a d:Int}(h0:0≤r)(h1:r<d)(h2:0≤a)(h3:a<4294967296)(h4:d<4294967296):0≤r*4294967296+a∧r*4294967296+a<18446744073709551616∧0≤(r*4294967296+a)/d∧(r*4294967296+a)/d<4294967296∧0≤(r*4294967296+a)%d∧(r*4294967296+a)%d<d:=by have hd:0<d:=af;refine⟨by omega,by omega,xS af af,?_,gZ _ af,iv _ hd⟩;apply DB hd;have:(r+1)*4294967296≤d*4294967296:=jI af ak;omega
def EI.next{a:List Int}{d:Int}{j:Nat}{q:List Int}{r:Int}(h:EI a d (j+1,q,r))(ha:bV a)(hd:d<4294967296):EI a d (j,q.set j ((r*4294967296+a.getD j 0)/d),(r*4294967296+a.getD j 0)%d):=by have g:=dd ha j;have h0:0≤r:=h.r0;have h1:r<d:=h.r1;have hb:=LH h0 h1 g.1 g.2 hd;have hk:j+1≤a.length:=h.k;have hl:q.length=a.length:=h.len;refine⟨by show j≤_;omega,by simp[hl],zN h.r _ ⟨hb.2.2.1,hb.2.2.2.1⟩,hb.2.2.2.2.1,hb.2.2.2.2.2,?_⟩;have hv:val (a.drop (j+1))=val (q.drop (j+1))*d+r:=h.v;simp only;rw[drop_cons a j af,drop_cons (q.set j _) j cT,mH _ _ _ _ af,aw ae,List.drop_set_of_lt af];simp only[val];rw[hv];have:=pq (r*4294967296+a.getD j 0) d;generalize (r*4294967296+a.getD j 0)/d=x at*;generalize (r*4294967296+a.getD j 0)%d=y at*;grind
def YU(a:List Int)(d:Int)(ha:bV a)(vA:0<d)(hd:d<4294967296)(la:a.length≤1099511627776):aG Tryz.prog 224 [cS aE a,cU d] (.t [(false,[.S aE (az (val a/d).toNat)]),(false,[.I .u64 (val a%d)])]):=by
 refine aX Tryz.func224 ae ae ae ae ae ak ?_;refine rr ae (rb ?_);refine rm aE a.length ae ae ae ae ae ae (lU .u32) ae ?_ ?_ ?_
 ·show _*4≤_;omega
 ·show _*1≤_;omega
 refine re ae (rr ae (aj (rr ae ?_)));refine aH (bA (α:=Nat×List Int×Int) (λx=>⟨[(0,cS aE a),(1,cU d),(6,.c (.X 1002000)),(7,cU x.2.2),(8,cI ((x.1:Int)-1))],[(1002000,.vec 23 aE x.2.1)],4,[]⟩) (EI a d) (λx=>x.1) (a.length,List.replicate a.length 0,0) ?_ ?_ ?_)
 ·exact⟨bD _,by simp,sJ _,jB _,vA,by simp[val]⟩
 ·exact wk ⟨sR ae,sR ae,sR ae,sR ae,sR ae,ah⟩ ⟨bR ae,ah⟩
 ·rintro⟨k,q,r⟩ hI;have hlen:q.length=a.length:=hI.len;have h0:0≤r:=hI.r0;have h1:r<d:=hI.r1;have hk:k≤a.length:=hI.k;refine aj (rr ae ?_);refine ax ae (λh=>?_) (λh=>?_)
  ·have h:(k:Int)-1≥0:=by simpa using h
   obtain⟨j,rfl⟩:∃j,k=j+1:=⟨k-1,by omega⟩;have ej:(((j+1:Nat):Int)-1).toNat=j:=af;have g:=dd ha j;have hb:=LH h0 h1 g.1 g.2 hd;have hn:=hI.next ha hd;refine aC (ai (aj (aH (rr ae ?_))));have e0:IntKind.wrap .u64 (IntKind.wrap .u64 (r*4294967296)+IntKind.wrap .u64 (a.getD (((j+1:Nat):Int)-1).toNat 0))=r*4294967296+a.getD j 0:=by rw[ej,wrap_u64 (r*4294967296) af af,wrap_u64 (a.getD j 0) af af,wrap_u64 _ af af]
   generalize ht:r*4294967296+a.getD j 0=s at hn hb e0;have e1:IntKind.wrap .u32 (IntKind.wrap .u64 (s.tdiv d))=s/d:=by rw[Be af,wrap_u64 _ af af,wrap_u32 _ af af]
   have e2:s.tmod d=s%d:=rB af;refine dy (st':=⟨[(0,cS aE a),(1,cU d),(6,.c (.X 1002000)),(8,cI (((j+1:Nat):Int)-1)),(9,cU s)],[(1002000,.vec 23 aE q)],6,[]⟩) (wk ⟨sR ae,sR ae,sR ae,sR ae,sE ae ?_,ah⟩ ⟨bR ae,ah⟩) ?_
   ·exact ay (λx=>AV.c (C.I .u64 x)) e0
   refine rr ae (rt ae (a6 (ai (rt ae (a8 (j,q.set j (s/d),s%d) hn po (wk ⟨sR ae,sR ae,sR ae,sE ae ?_,sE ae ?_,ah⟩ ⟨bE ae ?_,ah⟩))))))
   ·exact ay (λx=>AV.c (C.I .u64 x)) e2
   ·refine ay (λx=>AV.c (C.I .i64 x)) ?_;show((j+1:Nat):Int)-1-1=(j:Int)-1;omega
   ·rw[e1,ej]
  ·have h:¬((k:Int)-1≥0):=by simpa using h
   have:k=0:=af;subst this;refine bh (bt (bq (bp (ai (fY 1002000 ae ae ae (rb ?_))))));refine rc ae ae (Ak _) (re ae (aF (aL ar ae (au.of_eq ?_))));have hv:val a=val q*d+r:=hI.v;have hr:bV q:=hI.r;have eq:val a/d=val q:=by rw[hv,xX,DA _ _ af,Gy h0 h1];omega
   have er:val a%d=r:=by rw[hv,xX,Wy,iZ h0 h1]
   rw[qn hr,eq,er];rfl
def au.t2{x x' y:C}(h:au (.c x) (.c x')):au (.t [(false,[x]),(false,[y])]) (.t [(false,[x']),(false,[y])]):=by
 refine⟨?_,?_⟩
 ·rintro g v ⟨vs,rfl,v1,r,rfl,h1,h2⟩;exact⟨_,ae,v1,r,ae,h.1 g v1 h1,h2⟩
 ·intro id al;have h2:=h.2 id;simp only[AV.aD,fJ,cD,kB,b6]at al h2⊢;exact al.elim (λh=> .inl (h2 h)) .inr
def YV(m k:Nat)(hk:k≠0)(h:m<k∨k<4294967296)(lm:(az m).length≤1099511627776):aG Tryz.prog 152 [cS aE (az m),cS aE (az k)] (.t [(false,[.S aE (az (m/k))]),(false,[.S aE (az (m%k))])]):=by
 refine aX Tryz.func152 ae ae ae ae ae ak ?_;refine rr ae (aj (rb (rc ae ae (HQ m k) (re ae ?_))));refine ax ae (λh2=>?_) (λh2=>?_)
 ·have h2:m<k:=by
   have h2:dz m k<0:=gY;unfold dz at h2;split at h2
   ·omega
   ·split at h2<;>omega
  refine rr ae (aF (bS (aL ar ae ?_)));rw[GG h2,rD h2];exact au.t2 (au.nil aE)
 ·have h2:¬m<k:=by have h2:¬dz m k<0:=gY;unfold dz at h2;split at h2<;>omega
  have dR:k<4294967296:=h.resolve_left h2;have ek:az k=[(k:Int)]:=by rw[x6 hk,show k%4294967296=k by omega,show k/4294967296=0 by omega];rfl
  refine aC (ai (aj (rr ae ?_)));rw[ek];refine ax ae (λh3=>?_) (λh3=>by simp at h3);refine rb ?_;have e1:IntKind.wrap .u64 (k:Int)=k:=wrap_u64 _ af af;refine rc ae ae (f:=224) (r:= .t [(false,[.S aE (az (m/k))]),(false,[.I .u64 ((m%k:Nat):Int)])]) ?_ ?_
  ·have:=YU (az m) k (eK m) af af lm;rw[ff,show((m:Int)/(k:Int)).toNat=m/k from ae,show(m:Int)%(k:Int)=((m%k:Nat):Int)from ae]at this;rw[show(AV.c (num .u64 ([(k:Int)].getD (0:Int).toNat 0)).1)=cU (k:Int)from ay (λx=>AV.c (C.I .u64 x)) e1];exact this
  refine re ae (rb (rc ae ae (Cc _ ?_) (re ae (aF (bS (aL ar ae (au.refl _)))))));have:=iy m (qj hk);omega
def Rn(a:Int)(B:Nat)(hB:0<B):(a.natAbs:Int)=((a.natAbs%B:Nat):Int)+(B:Int)*((a.natAbs/B:Nat):Int)∧a.natAbs%B<B:=by refine⟨?_,iy _ hB⟩;have:=Nat.mod_add_div a.natAbs B;rw[←gi,←xV,this]
def Ro{a:Int}{B:Nat}(hB:0<B)(ha:¬a<0):a/(B:Int)=((a.natAbs/B:Nat):Int)∧a%(B:Int)=((a.natAbs%B:Nat):Int):=by obtain⟨h1,h2⟩:=Rn a B hB;exact(WJ af).2 ⟨by omega,by omega,by omega⟩
def Rp{a:Int}{B:Nat}(hB:0<B)(ha:a<0)(hr:a.natAbs%B=0):a/(B:Int)= -((a.natAbs/B:Nat):Int)∧a%(B:Int)=0:=by obtain⟨h1,h2⟩:=Rn a B hB;refine(WJ af).2 ⟨?_,by omega,by omega⟩;rw[hr]at h1;rw[Int.mul_neg];omega
def Rq{a:Int}{B:Nat}(hB:0<B)(ha:a<0)(hr:a.natAbs%B≠0):a/(B:Int)= -((a.natAbs/B+1:Nat):Int)∧a%(B:Int)=((B-a.natAbs%B:Nat):Int):=by obtain⟨h1,h2⟩:=Rn a B hB;refine(WJ af).2 ⟨?_,by omega,by omega⟩;rw[Int.mul_neg,xV,px];omega
def yw(a b:Int)(q r:Nat)(h1:a/(b.natAbs:Int)=sg (bN a) q)(h2:a%(b.natAbs:Int)=r):a/b=sg (bN a !=bN b) q∧a%b=sg false r:=by
 by_cases hb:b<0
 ·have e:b= -(b.natAbs:Int):=by omega
  have hz:bN b=true:=by simp[bN,hb]
  rw[e,DM,Int.emod_neg,←e,h1,h2,hz];refine⟨?_,ae⟩;unfold sg;cases bN a<;>simp
 ·have e:b=(b.natAbs:Int):=by omega
  have hz:bN b=false:=by simp[bN,hb]
  rw[←e]at h1 h2;rw[h1,h2,hz];refine⟨?_,ae⟩;cases bN a<;>rfl
def ajl(a b:Int)(hb:b≠0)(h:a.natAbs<b.natAbs∨b.natAbs<4294967296)(ha:Sm a)(nZ:Sm b):aG Tryz.prog 81 [aZ a,aZ b] (.t [(true,av .z (a/b)),(true,av .z (a%b)),(false,[.I .i64 0])]):=by
 refine aX Tryz.func81 ae ae ae ae ae ak ?_;refine rr ae (aj (rr ae ?_));have du:b.natAbs≠0:=af;refine ax ae (λh2=>?_) (λh2=>?_)
 ·exfalso;have h2:((dc b).length:Int)=0:=gY;have:=nh.2 du;unfold dc at h2;omega
 ·refine aC (ai (rb (rc ae ae (YV _ _ du h ha) (re ae (aj (rb ?_))))));refine rg 25 ae ae (λh3=>?_) (λh3=>?_)
  ·have h3:a<0:=by simpa[bN]using h3
   refine re ae (ax ae (λh4=>?_) (λh4=>?_))
   ·have h4:a.natAbs%b.natAbs≠0:=by have h4:((az (a.natAbs%b.natAbs)).length:Int)>0:=uS;exact nh.1 af
    obtain⟨e1,e2⟩:=Rq (qj du) h3 h4;have hz:bN a=true:=zp;obtain⟨e3,e4⟩:=yw a b (a.natAbs/b.natAbs+1) (b.natAbs-a.natAbs%b.natAbs) zr e2;have hr:a.natAbs%b.natAbs<b.natAbs:=iy _ (qj du);refine rb (rl aE [_] ae ae (rc ae ae (Rj (a.natAbs/b.natAbs) 1 ?_ ak) (re ae (cK (rc ae ae (LF b.natAbs _ af nZ) (re ae (ai (rb ?_))))))))
    ·exact dF (te (DI _ _)) ha
    refine rc ae ae (mI _ _) (rc ae ae (mI _ _) (re ae (aF (aL ar ae (au.of_eq ?_)))));rw[e3,e4];rfl
   ·have h4:a.natAbs%b.natAbs=0:=by have h4:¬((az (a.natAbs%b.natAbs)).length:Int)>0:=uS;exact Decidable.byContradiction λaR=>by have:=nh.2 aR;omega
    obtain⟨e1,e2⟩:=Rp (qj du) h3 h4;have hz:bN a=true:=zp;obtain⟨e3,e4⟩:=yw a b (a.natAbs/b.natAbs) (a.natAbs%b.natAbs) zr (by rw[e2,h4];rfl);refine aC (ai (rb (rc ae ae (mI _ _) (rc ae ae (mI _ _) (re ae (aF (aL ar ae (au.of_eq ?_))))))));rw[e3,e4];rfl
  ·have h3:¬a<0:=by simpa[bN]using h3
   refine re ae (ax ae (λh4=>by simp at h4) (λh4=>?_));obtain⟨e1,e2⟩:=Ro (qj du) h3;have hz:bN a=false:=zp;obtain⟨e3,e4⟩:=yw a b (a.natAbs/b.natAbs) (a.natAbs%b.natAbs) zr e2;refine aC (ai (rb (rc ae ae (mI _ _) (rc ae ae (mI _ _) (re ae (aF (aL ar ae (au.of_eq ?_))))))));rw[e3,e4];rfl
def tf:Nat→Int→Int→Int→Int→Int→Int
 |0,q,_,_,_,_=>q
 |f+1,q,r,v1,v2,u2=>if q≥4294967296∨q*v2>r*4294967296+u2 then(if r+v1≥4294967296 then q-1 else tf f (q-1) (r+v1) v1 v2 u2)else q
def LI{M v1 v2 v' v t u2 u' u:Int}(h:Kn1 M v1 v2 v' v t u2 u' u):∀(f:Nat)(q r:Int),t=q*v1+r→0≤r→r<4294967296→4294967296≤r+f*2147483648→u/v≤q→u/v≤tf f q r v1 v2 u2∧tf f q r v1 v2 u2≤u/v+1∧tf f q r v1 v2 u2<4294967296
 |0,q,r,_,_,h2,h3,_=>by omega
 |f+1,q,r,ht,h1,h2,h3,hq=>by
  have q0:=h.q0;have DV:=h.DV;have kD:=h.kD;rw[tf];split
  ·rename_i hc;have br:u/v<q:=by
    rcases hc with hc|hc
    ·omega
    ·exact h.down ht af hc
   have Rs:t=(q-1)*v1+(r+v1):=by rw[x5,ja];omega
   split
   ·rename_i hr;have hb:=h.ag8 Rs hr;have hc:q-1-1≤u/v:=h.close Rs af hb (by have e1:(q-1)*v2≤4294967296*4294967296:=Bo af (by have:=h.W7;omega) h.sK ak;have:=h.nw;omega);exact⟨by omega,by omega,hb⟩
   ·rename_i hr;exact LI h f (q-1) (r+v1) Rs af af af af
  ·rename_i hc;have lQ:q<4294967296:=by
    by_cases e:q<4294967296
    ·exact e
    ·exact absurd (.inl af) hc
   have vk:q*v2≤r*4294967296+u2:=by
    by_cases e:q*v2≤r*4294967296+u2
    ·exact e
    ·exact absurd (.inr af) hc
   have:=h.close ht af lQ vk;exact⟨hq,by omega,lQ⟩
def EJ{a b:Int}(ha:0≤a):a.tdiv b=a/b:=Be ha
def HR{a b:Int}(ha:0≤a):a.tmod b=a%b:=rB ha
set_option maxHeartbeats 4000000 in
def ajm(U v:List Int)(j n:Nat)(hU:bV U)(hv:bV v)(hn:v.length=n+2)(hj:j+n+3≤U.length)(hl:U.length≤1099511627777){v' u' u:Int}
  (K:Kn1 (4294967296^n) (v.getD (n+1) 0) (v.getD n 0) v' (val v) (U.getD (j+(n+2)) 0*4294967296+U.getD (j+(n+1)) 0) (U.getD (j+n) 0) u' u):
  nf Tryz.prog 225 [.c (.W 0 j (n+3)),cS aE v] 23 aE U (cU (tf 2 ((U.getD (j+(n+2)) 0*4294967296+U.getD (j+(n+1)) 0)/v.getD (n+1) 0) ((U.getD (j+(n+2)) 0*4294967296+U.getD (j+(n+1)) 0)%v.getD (n+1) 0) (v.getD (n+1) 0) (v.getD n 0) (U.getD (j+n) 0))) U:=by
 refine qJ Tryz.func225 ae ae ae ae ae ak ?_
 have g1:=dd hU (j+(n+2))
 have g2:=dd hU (j+(n+1))
 have g3:=dd hU (j+n)
 have k1:=dd hv (n+1)
 have k2:=dd hv n
 have kD:=K.kD
 have a1:((v.length:Int)).toNat=n+2:=af
 have a2:((v.length:Int)-1).toNat=n+1:=af
 have a3:((v.length:Int)-2).toNat=n:=af
 generalize hQ:tf 2 ((U.getD (j+(n+2)) 0*4294967296+U.getD (j+(n+1)) 0)/v.getD (n+1) 0) ((U.getD (j+(n+2)) 0*4294967296+U.getD (j+(n+1)) 0)%v.getD (n+1) 0) (v.getD (n+1) 0) (v.getD n 0) (U.getD (j+n) 0)=Q0
 refine rr ae (rr ae (rr ae (hp:=jT) ?_))
 rw[a1,a2]
 have e6:IntKind.wrap .u64 (IntKind.wrap .u64 (IntKind.wrap .u64 (U.getD (j+(n+2)) 0)*4294967296)+IntKind.wrap .u64 (U.getD (j+(n+1)) 0))=U.getD (j+(n+2)) 0*4294967296+U.getD (j+(n+1)) 0:=by rw[wrap_u64 (U.getD (j+(n+2)) 0) af af,wrap_u64 (U.getD (j+(n+1)) 0) af af,wrap_u64 (_*_) af af,wrap_u64 _ af af]
 have Rt:IntKind.wrap .u64 (v.getD (n+1) 0)=v.getD (n+1) 0:=wrap_u64 _ af af
 have Ru:IntKind.wrap .u64 (v.getD n 0)=v.getD n 0:=wrap_u64 _ af af
 have Rv:IntKind.wrap .u64 (U.getD (j+n) 0)=U.getD (j+n) 0:=wrap_u64 _ af af
 have oc:0≤U.getD (j+(n+2)) 0*4294967296+U.getD (j+(n+1)) 0:=af
 have EK:U.getD (j+(n+2)) 0*4294967296+U.getD (j+(n+1)) 0<18446744073709551616:=af
 have vB:=@Kn1.small _ _ _ _ _ _ _ _ _ K
 have aV:=@LI _ _ _ _ _ _ _ _ _ K
 have Am:=K.first
 generalize U.getD (j+(n+2)) 0*4294967296+U.getD (j+(n+1)) 0=t at*
 generalize HS:v.getD (n+1) 0=v1 at*
 generalize Rw:v.getD n 0=v2 at*
 generalize Ry:U.getD (j+n) 0=u2 at*
 have x1:IntKind.wrap .u64 (v.getD ((v.length:Int)-1).toNat 0)=v1:=by rw[a2,HS];exact Rt
 have x2:IntKind.wrap .u64 (v.getD ((v.length:Int)-2).toNat 0)=v2:=by rw[a3,Rw];exact Ru
 have x3:IntKind.wrap .u64 (U.getD (j+((v.length:Int)-2).toNat) 0)=u2:=by rw[a3,Ry];exact Rv
 have vA:0≤t/v1:=xS oc af
 have vo:0≤t%v1:=gZ _ af
 have n5:t%v1<v1:=iv _ af
 have aT:=pq t v1
 refine dy (st':=⟨[(0,.c (.W 0 j (n+3))),(1,cS aE v),(5,cI v.length),(6,cU t)],[(0,.vec 23 aE U)],4,[]⟩) (wk ⟨sR ae,sR ae,sR ae,⟨_,ae,au.of_eq (ay (λz=>AV.c (C.I .u64 z)) e6)⟩,ah⟩ ⟨bR ae,ah⟩) ?_
 have jo:((-9223372036854775808≤(v.length:Int)-1∧(v.length:Int)-1≤9223372036854775807)∧0≤(v.length:Int)-1∧(v.length:Int)-1<(v.length:Int))∧IntKind.wrap .u64 (v.getD ((v.length:Int)-1).toNat 0)≠0:=by rw[x1];omega
 refine rr ae (hp:=by simp only[Pr.an,Pr.h,num,aA,true_and,and_true];exact jo) (rr ae (hp:=by simp only[Pr.an,Pr.h,num,aA,true_and,and_true];exact jo) ?_)
 refine aj (aH (bA (α:=Nat×Int×Int) (λx=>⟨[(0,.c (.W 0 j (n+3))),(1,cS aE v),(5,cI v.length),(6,cU t),(7,cU x.2.1),(8,cU x.2.2)],[(0,.vec 23 aE U)],6,[]⟩) (λx=>tf x.1 x.2.1 x.2.2 v1 v2 u2=Q0∧t=x.2.1*v1+x.2.2∧0≤x.2.2∧x.2.2<4294967296∧4294967296≤x.2.2+x.1*2147483648∧u/val v≤x.2.1) (λx=>x.1) (2,t/v1,t%v1) ⟨hQ,by show t=t/v1*v1+t%v1;rw[fh];omega,vo,by show t%v1<4294967296;omega,by show(4294967296:Int)≤t%v1+(2:Nat)*2147483648;omega,Am⟩ (wk ⟨sR ae,sR ae,sR ae,sR ae,sE ae ?_,sE ae ?_,ah⟩ ⟨bR ae,ah⟩) ?_))
 ·refine ay (λz=>AV.c (C.I .u64 z)) ?_;show IntKind.wrap .u64 (t.tdiv (IntKind.wrap .u64 (v.getD ((v.length:Int)-1).toNat 0)))=t/v1;have:=Int.ediv_le_self v1 oc;rw[x1,EJ oc,wrap_u64 _ vA af]
 ·refine ay (λz=>AV.c (C.I .u64 z)) ?_;show(t.tmod (IntKind.wrap .u64 (v.getD ((v.length:Int)-1).toNat 0)))=t%v1;rw[x1,HR oc]
 ·rintro⟨f,q,r⟩ ⟨h1,h2,h3,h4,h5,h6⟩;simp only at h1 h2 h3 h4 h5 h6;have nF:=K.q0;have hqs:=vB h2 h3;cases f with
  |zero=>omega
  |succ f=>
  rw[tf]at h1;have qE:0≤q*v2∧q*v2<18446744073709551616:=by refine⟨jX af af,?_⟩;have:q*v2≤4294967297*4294967295:=Bo af af af ak;omega
  refine aj (rb (rg 42 ae ae (λh=>?_) (λh=>?_)))
  ·have xc:q≥4294967296:=by simpa using h
   have hc:q≥4294967296∨q*v2>r*4294967296+u2:= .inl xc;refine re ae (ax ae (λ_=>?_) (λh7=>by cases h7));have br:u/val v<q:=by
    rcases hc with hc|hc
    ·have:=K.DV;omega
    ·exact K.down h2 af hc
   have w1:IntKind.wrap .u64 (q-1)=q-1:=wrap_u64 _ af af;have w2:IntKind.wrap .u64 (r+IntKind.wrap .u64 (v.getD ((v.length:Int)-1).toNat 0))=r+v1:=by rw[x1,wrap_u64 _ af af]
   refine aC (ai (aH (rr ae (rr ae (hp:=jT) (rr ae (ax ae (λh7=>?_) (λh7=>?_)))))))
   ·have h7:r+v1≥4294967296:=by
     have h7:4294967296≤IntKind.wrap .u64 (r+IntKind.wrap .u64 (v.getD ((v.length:Int)-1).toNat 0)):=by simpa using h7
     omega
    rw[aw hc,aw h7]at h1;refine bh (Ho (bq (bp (ai (rr ae (aF (uh ar ae (au.of_eq ?_) ae)))))));refine ay (λz=>AV.c (C.I .u64 z)) ?_;rw[←h1];exact w1
   ·have h7:¬r+v1≥4294967296:=by
     have h7:IntKind.wrap .u64 (r+IntKind.wrap .u64 (v.getD ((v.length:Int)-1).toNat 0))<4294967296:=by simpa using h7
     omega
    rw[aw hc,aq h7]at h1;refine aC (a6 (a8 (f,q-1,r+v1) ⟨h1,by show t=(q-1)*v1+(r+v1);rw[x5,ja];omega,by show 0≤r+v1;omega,by show r+v1<4294967296;omega,by show(4294967296:Int)≤r+v1+(f:Nat)*2147483648;omega,by show u/val v≤q-1;omega⟩ (fT f) (wk ⟨sR ae,sR ae,sR ae,sR ae,⟨_,ae,au.of_eq (ay (λz=>AV.c (C.I .u64 z)) w1)⟩,⟨_,ae,au.of_eq (ay (λz=>AV.c (C.I .u64 z)) w2)⟩,ah⟩ ⟨bR ae,ah⟩)))
  ·have xc:¬q≥4294967296:=by have:q<4294967296:=cq;omega
   have w3:IntKind.wrap .u64 (q*IntKind.wrap .u64 (v.getD ((v.length:Int)-2).toNat 0))=q*v2:=by rw[x2,wrap_u64 _ qE.1 qE.2]
   have w4:IntKind.wrap .u64 (IntKind.wrap .u64 (r*4294967296)+IntKind.wrap .u64 (U.getD (j+((v.length:Int)-2).toNat) 0))=r*4294967296+u2:=by rw[x3,wrap_u64 (r*4294967296) af af,wrap_u64 _ af af]
   refine re ae (hp:=jT) (ax ae (λh8=>?_) (λh8=>?_))
   ·have hc:q≥4294967296∨q*v2>r*4294967296+u2:= .inr (by
     have h8:IntKind.wrap .u64 (q*IntKind.wrap .u64 (v.getD ((v.length:Int)-2).toNat 0))>IntKind.wrap .u64 (IntKind.wrap .u64 (r*4294967296)+IntKind.wrap .u64 (U.getD (j+((v.length:Int)-2).toNat) 0)):=by simpa using h8
     rw[w3,w4]at h8;exact h8)
    have br:u/val v<q:=by
     rcases hc with hc|hc
     ·have:=K.DV;omega
     ·exact K.down h2 af hc
    have w1:IntKind.wrap .u64 (q-1)=q-1:=wrap_u64 _ af af;have w2:IntKind.wrap .u64 (r+IntKind.wrap .u64 (v.getD ((v.length:Int)-1).toNat 0))=r+v1:=by rw[x1,wrap_u64 _ af af]
    refine aC (ai (aH (rr ae (rr ae (hp:=jT) (rr ae (ax ae (λh7=>?_) (λh7=>?_)))))))
    ·have h7:r+v1≥4294967296:=by
      have h7:4294967296≤IntKind.wrap .u64 (r+IntKind.wrap .u64 (v.getD ((v.length:Int)-1).toNat 0)):=by simpa using h7
      omega
     rw[aw hc,aw h7]at h1;refine bh (Ho (bq (bp (ai (rr ae (aF (uh ar ae (au.of_eq ?_) ae)))))));refine ay (λz=>AV.c (C.I .u64 z)) ?_;rw[←h1];exact w1
    ·have h7:¬r+v1≥4294967296:=by
      have h7:IntKind.wrap .u64 (r+IntKind.wrap .u64 (v.getD ((v.length:Int)-1).toNat 0))<4294967296:=by simpa using h7
      omega
     rw[aw hc,aq h7]at h1;refine aC (a6 (a8 (f,q-1,r+v1) ⟨h1,by show t=(q-1)*v1+(r+v1);rw[x5,ja];omega,by show 0≤r+v1;omega,by show r+v1<4294967296;omega,by show(4294967296:Int)≤r+v1+(f:Nat)*2147483648;omega,by show u/val v≤q-1;omega⟩ (fT f) (wk ⟨sR ae,sR ae,sR ae,sR ae,⟨_,ae,au.of_eq (ay (λz=>AV.c (C.I .u64 z)) w1)⟩,⟨_,ae,au.of_eq (ay (λz=>AV.c (C.I .u64 z)) w2)⟩,ah⟩ ⟨bR ae,ah⟩)))
   ·have hc:¬(q≥4294967296∨q*v2>r*4294967296+u2):=by
     have h8:¬IntKind.wrap .u64 (q*IntKind.wrap .u64 (v.getD ((v.length:Int)-2).toNat 0))>IntKind.wrap .u64 (IntKind.wrap .u64 (r*4294967296)+IntKind.wrap .u64 (U.getD (j+((v.length:Int)-2).toNat) 0)):=by simpa using h8
     rw[w3,w4]at h8;omega
    rw[aq hc]at h1;subst h1;exact bh (bt (bq (bp (ai (rr ae (aF (uh ar ae (au.refl _) ae)))))))
end Go.El
namespace Go.El
def bZ:Nat→Int→List Int
 |0,_=>[]
 |n+1,x=>x%4294967296::bZ n (x/4294967296)
def uj:∀(n:Nat)(x:Int),(bZ n x).length=n
 |0,_=>rfl
 |n+1,x=>by rw[bZ,fv,uj n]
def HT:∀(n:Nat)(x:Int),bV (bZ n x)
 |0,_=>PQ
 |n+1,x=>zL.2 ⟨⟨gZ _ ak,iv _ ak⟩,HT n _⟩
def qK(n:Nat):(4294967296:Int)^(n+1)=4294967296^n*4294967296:=fU _ _
def LJ(x:Int)(n:Nat):x/4294967296^(n+1)=x/4294967296^n/4294967296:=by rw[qK,Int.ediv_ediv_of_nonneg (by have:=jZ n;omega)]
def YW(x:Int)(n:Nat):x/4294967296^(n+1)=x/4294967296/4294967296^n:=by rw[qK,fh,Int.ediv_ediv_of_nonneg ak]
def Rz(x:Int)(n:Nat):x%4294967296^(n+1)=x%4294967296+4294967296*(x/4294967296%4294967296^n):=by
 have h1:=pq x (4294967296^(n+1));have h2:=pq x 4294967296;have h3:=pq (x/4294967296) (4294967296^n);rw[YW,qK]at h1;rw[qK];generalize x/4294967296/4294967296^n=a at*;generalize x/4294967296%4294967296^n=b at*;generalize x/4294967296=c at*;have e:4294967296^n*4294967296*a=4294967296*(4294967296^n*a):=by rw[fh (4294967296^n) 4294967296,ke]
 rw[e]at h1;generalize (4294967296:Int)^n*a=d at*;omega
def HU:∀(n:Nat)(x:Int),val (bZ n x)=x%4294967296^n
 |0,x=>by rw[wJ,Int.emod_one];rfl
 |n+1,x=>by rw[bZ,val,HU n,Rz]
def EL:∀(n:Nat)(x:Int),bZ (n+1) x=bZ n x++[x/4294967296^n%4294967296]
 |0,x=>by rw[wJ,zD];rfl
 |n+1,x=>by rw[bZ,EL n,bZ,YW];rfl
def LK:∀(n:Nat)(x y:Int),x%4294967296^n=y%4294967296^n→bZ n x=bZ n y
 |0,_,_,_=>rfl
 |n+1,x,y,h=>by rw[Rz,Rz]at h;have h1:=gZ x (show(4294967296:Int)≠0 by decide);have h2:=iv x (show(0:Int)<4294967296 by decide);have h3:=gZ y (show(4294967296:Int)≠0 by decide);have h4:=iv y (show(0:Int)<4294967296 by decide);rw[bZ,bZ,LK n (x/4294967296) (y/4294967296) af,show x%4294967296=y%4294967296 by omega]
def RA(n:Nat)(x y:Int):bZ n (x+y*4294967296^n)=bZ n x:=LK n _ _ (Wy _ _ _)
def YX:∀{ws:List Int},bV ws→bZ ws.length (val ws)=ws
 |[],_=>rfl
 |w::ws,h=>by obtain⟨h1,h2⟩:=zL.1 h;rw[fv,bZ,val];rw[show(w+4294967296*val ws)%4294967296=w by omega,show(w+4294967296*val ws)/4294967296=val ws by omega,YX h2]
def c8(U:List Int)(j:Nat)(ws:List Int):List Int:=U.take j++(ws++U.drop (j+ws.length))
def LL(U:List Int)(j:Nat):c8 U j []=U:=by simp[c8]
def yx{U:List Int}{j:Nat}{ws:List Int}(h:j+ws.length≤U.length):(c8 U j ws).length=U.length:=by simp[c8];omega
def LM{U:List Int}{j:Nat}{ws:List Int}(h:j+ws.length≤U.length):(c8 U j ws).getD (j+ws.length) 0=U.getD (j+ws.length) 0:=by unfold c8;have hj:(U.take j).length=j:=cT;rw[aU,zu af,hj,zu af,tM,aU];congr 2;omega
def LN{U:List Int}{j:Nat}{ws:List Int}(w:Int)(h:j+ws.length<U.length):(c8 U j ws).set (j+ws.length) w=c8 U j (ws++[w]):=by unfold c8;have hj:(U.take j).length=j:=cT;rw[qi _ _ af,hj,qi _ _ af,show j+ws.length-j-ws.length=0 by omega];rw[oH h,DF,np,kA];rfl
def RB{U:List Int}{j:Nat}{ws:List Int}(h:bV U)(hw:bV ws):bV (c8 U j ws):=PR (jY h _) (PR hw (zM h _))
def RC{U:List Int}{j:Nat}{ws:List Int}(h:j+ws.length≤U.length):(c8 U j ws).drop j=ws++U.drop (j+ws.length):=by unfold c8;have hj:(U.take j).length=j:=cT;rw[Kl af,Kt af,wH]
def YY{U:List Int}{j:Nat}{ws:List Int}(h:j+ws.length≤U.length):(c8 U j ws).take j=U.take j:=by unfold c8;have hj:(U.take j).length=j:=cT;rw[Bc af,lI af]
def RD(U:List Int)(j i:Nat):(U.drop j).getD i 0=U.getD (j+i) 0:=by rw[aU,tM,aU]
def YZ(U v:List Int)(j i:Nat)(q:Int){D c b:Int}(hD:D=val ((U.drop j).take i)-q*val (v.take i))(hb:D/4294967296^i= -(c+b)):
  (let p:=q*v.getD i 0+c
   let t:=4294967296+U.getD (j+i) 0-p%4294967296-b
   let D':=val ((U.drop j).take (i+1))-q*val (v.take (i+1))
   bZ (i+1) D'=bZ i D++[t%4294967296]∧D'/4294967296^(i+1)= -(p/4294967296+(1-t/4294967296))):=by
 intro p t D'
 have hd:D'=D+(U.getD (j+i) 0-q*v.getD i 0)*4294967296^i:=by show val ((U.drop j).take (i+1))-q*val (v.take (i+1))=_;rw[lh,lh,RD,hD,px,x5,ke];omega
 have he:D'/4294967296^i= -(c+b)+(U.getD (j+i) 0-q*v.getD i 0):=by rw[hd,DA _ _ (by have:=jZ i;omega),hb]
 have hp:p=q*v.getD i 0+c:=rfl
 have ht:t=4294967296+U.getD (j+i) 0-p%4294967296-b:=rfl
 clear_value p t
 refine⟨?_,?_⟩
 ·rw[EL,hd,RA,←hd,he];congr 2;omega
 ·rw[LJ,he];omega
def Y0(U v:List Int)(j i:Nat){D c:Int}(hD:D=val ((U.drop j).take i)+val (v.take i))(hb:D/4294967296^i=c):
  (let t:=U.getD (j+i) 0+v.getD i 0+c
   let D':=val ((U.drop j).take (i+1))+val (v.take (i+1))
   bZ (i+1) D'=bZ i D++[t%4294967296]∧D'/4294967296^(i+1)=t/4294967296):=by
 intro t D'
 have hd:D'=D+(U.getD (j+i) 0+v.getD i 0)*4294967296^i:=by show val ((U.drop j).take (i+1))+val (v.take (i+1))=_;rw[lh,lh,RD,hD,lK];omega
 have he:D'/4294967296^i=c+(U.getD (j+i) 0+v.getD i 0):=by rw[hd,DA _ _ (by have:=jZ i;omega),hb]
 have ht:t=U.getD (j+i) 0+v.getD i 0+c:=rfl
 clear_value t
 refine⟨?_,?_⟩
 ·rw[EL,hd,RA,←hd,he];congr 2;omega
 ·rw[LJ,he];omega
end Go.El
namespace Go.El
open Go Go.Proofs
def Y1{v:List Int}(hv:bV v){q:Int}(nF:0≤q)(hq:q<4294967296)(i:Nat):0≤q*val (v.take i)/4294967296^i∧q*val (v.take i)/4294967296^i<4294967296:=by have h1:=mz (jY hv i);have h2:=nX (jY hv i);have h3:=vb (m:=(v.take i).length) (n:=i) cT;have h4:=jZ i;have h5:0≤q*val (v.take i):=jX nF h1;refine⟨xS h5 af,DB h4 ?_⟩;have h6:q*val (v.take i)≤4294967296*val (v.take i):=jI af h1;have h7:4294967296*val (v.take i)<4294967296*4294967296^i:=Int.mul_lt_mul_of_pos_left af ak;omega
def Y2{v:List Int}{q c:Int}(i:Nat)(hc:c=q*val (v.take i)/4294967296^i):q*val (v.take (i+1))/4294967296^(i+1)=(q*v.getD i 0+c)/4294967296:=by rw[LJ,lh,px,←ke,DA _ _ (by have:=jZ i;omega),hc,xX]
def ajo{v:List Int}(hv:bV v){q:Int}(nF:0≤q)(hq:q<4294967296){L:Nat}(hL:v.length<L):q*val (v.take L)/4294967296^L=0:=by
 rw[nv v L af];have h1:=mz hv;have h2:=nX hv;have h3:=vb (m:=v.length) (n:=L-1) af;have h4:(4294967296:Int)^L=4294967296^(L-1)*4294967296:=by rw[←qK];congr 1;omega
 have h6:q*val v≤4294967296*val v:=jI af h1;exact Gy (jX nF h1) (by rw[h4];omega)
set_option maxHeartbeats 4000000 in
def ajp(U v:List Int)(j L:Nat)(q:Int)(hU:bV U)(hv:bV v)(hj:j+L≤U.length)(hL:v.length<L)(nF:0≤q)(hq:q<4294967296)(hl:U.length≤1099511627777):
  nf Tryz.prog 226 [.c (.W 0 j L),cS aE v,cU q] 23 aE U (cB (decide (val ((U.drop j).take L)-q*val v<0))) (c8 U j (bZ L (val ((U.drop j).take L)-q*val v))):=by
 refine qJ Tryz.func226 ae ae ae ae ae ak ?_
 refine rr ae (rr ae (rr ae (aj (rr ae ?_))))
 refine aH (bA (α:=Nat×Int×Int) (λx=>⟨[(0,.c (.W 0 j L)),(1,cS aE v),(2,cU q),(7,cU x.2.1),(8,cU x.2.2),(9,cI x.1)],[(0,.vec 23 aE (c8 U j (bZ x.1 (val ((U.drop j).take x.1)-q*val (v.take x.1)))))],5,[]⟩) (λx=>x.1≤L∧(val ((U.drop j).take x.1)-q*val (v.take x.1))/4294967296^x.1= -(x.2.1+x.2.2)∧x.2.1=q*val (v.take x.1)/4294967296^x.1∧(x.2.2=0∨x.2.2=1)) (λx=>L-x.1) (0,0,0) ⟨bK _,by simp[val],by simp[val],.inl ae⟩ (wk ⟨sR ae,sR ae,sR ae,sR ae,sR ae,sR ae,ah⟩ ⟨bE ae ?_,ah⟩) ?_)
 ·exact ay (aK.vec 23 aE) (LL U j).symm
 rintro⟨i,c,b⟩ ⟨h1,h2,h3,h4⟩
 simp only at h1 h2 h3 h4
 have hc:=Y1 hv nF hq i
 rw[←h3]at hc
 refine aj (rr ae ?_)
 refine ax ae (λh=>?_) (λh=>?_)
 ·have h:i<L:=by simpa using h
  have gv:=dd hv i;have gu:=dd hU (j+i);have hm:0≤q*v.getD i 0∧q*v.getD i 0≤18446744065119617025:=HO nF af gv.1 af;have dh:=YZ U v j i q (c:=c) (b:=b) ae h2;have th:=Y2 (v:=v) (q:=q) i h3;simp only at dh;obtain⟨s1,s2⟩:=dh;have hlen:(bZ i (val ((U.drop j).take i)-q*val (v.take i))).length=i:=uj _ _;have m6:=yx (U:=U) (j:=j) (ws:=bZ i (val ((U.drop j).take i)-q*val (v.take i))) af;have rV:=LM (U:=U) (j:=j) (ws:=bZ i (val ((U.drop j).take i)-q*val (v.take i))) af;have lj:=λw=>LN (U:=U) (j:=j) (ws:=bZ i (val ((U.drop j).take i)-q*val (v.take i))) w af
  rw[hlen]at rV lj;refine aC (ai (aj (aH (rb (rc ae ae (Cd v i hv) (re ae ?_))))));have w1:IntKind.wrap .u64 (IntKind.wrap .u64 (q*v.getD i 0)+c)=q*v.getD i 0+c:=by rw[wrap_u64 (q*v.getD i 0) af af,wrap_u64 _ af af]
  generalize hp:q*v.getD i 0+c=p at*;have cL:0≤p∧p<18446744073709551616:=af;refine dy (st':=⟨[(0,.c (.W 0 j L)),(1,cS aE v),(2,cU q),(8,cU b),(9,cI i),(10,cU p)],[(0,.vec 23 aE (c8 U j (bZ i (val ((U.drop j).take i)-q*val (v.take i)))))],7,[]⟩) (wk ⟨sR ae,sR ae,sR ae,sR ae,sR ae,⟨_,ae,au.of_eq (ay (λz=>AV.c (C.I .u64 z)) w1)⟩,ah⟩ ⟨bR ae,ah⟩) ?_;generalize hX:c8 U j (bZ i (val ((U.drop j).take i)-q*val (v.take i)))=X at*;refine rr ae (rr ae (hp:=jT) ?_);have ei:(i:Int).toNat=i:=bu i;have w2:IntKind.wrap .u64 (p.tdiv 4294967296)=p/4294967296:=by rw[EJ cL.1,wrap_u64 _ af af]
  have w3:IntKind.wrap .u64 (IntKind.wrap .u64 (IntKind.wrap .u64 (4294967296+IntKind.wrap .u64 (X.getD (j+(i:Int).toNat) 0))-p.tmod 4294967296)-b)=4294967296+U.getD (j+i) 0-p%4294967296-b:=by rw[ei,rV,HR cL.1,wrap_u64 (U.getD (j+i) 0) af af,wrap_u64 (4294967296+_) af af,wrap_u64 (_-p%4294967296) af af,wrap_u64 _ af af]
  generalize ht:4294967296+U.getD (j+i) 0-p%4294967296-b=t at*;have oc:0≤t∧t<8589934592:=af;refine dy (st':=⟨[(0,.c (.W 0 j L)),(1,cS aE v),(2,cU q),(7,cU (p/4294967296)),(9,cI i),(11,cU t)],[(0,.vec 23 aE X)],9,[]⟩) (wk ⟨sR ae,sR ae,sR ae,⟨_,ae,au.of_eq (ay (λz=>AV.c (C.I .u64 z)) w2)⟩,sR ae,⟨_,ae,au.of_eq (ay (λz=>AV.c (C.I .u64 z)) w3)⟩,ah⟩ ⟨bR ae,ah⟩) ?_;refine rr ae (hp:=jT) (rt ae ?_);refine a6 (ai (rt ae (a8 (i+1,p/4294967296,1-t/4294967296) ⟨h,s2,th.symm,by show 1-t/4294967296=0∨1-t/4294967296=1;omega⟩ (by show L-(i+1)<L-i;omega) (wk ⟨sR ae,sR ae,sR ae,sR ae,sE ae ?_,sE ae ?_,ah⟩ ⟨bE ae ?_,ah⟩))))
  ·refine ay (λz=>AV.c (C.I .u64 z)) ?_;show IntKind.wrap .u64 (1-IntKind.wrap .u64 (t.tdiv 4294967296))=1-t/4294967296;rw[EJ oc.1,wrap_u64 (t/4294967296) af af,wrap_u64 _ af af]
  ·exact ay cI af
  ·refine ay (aK.vec 23 aE) ?_;show X.set (j+(i:Int).toNat) (IntKind.wrap .u32 (t.tmod 4294967296))=c8 U j (bZ (i+1) _);rw[s1,ei,HR oc.1,wrap_u32 _ af af,lj]
 ·have h:¬i<L:=by simpa using h
  have e:i=L:=af;subst e;rw[ajo hv nF hq hL]at h3;rw[nv v i af]at h2⊢;refine bh (bt (bq (bp (ai (rr ae (aF (uh ar ae (au.of_eq ?_) ae)))))));refine ay cB ?_;show(b==1)=_;have hp:=jZ i;rcases h4 with h4|h4
  ·subst h4 h3;have:0≤val ((U.drop j).take i)-q*val v:=by have h5:=pq (val ((U.drop j).take i)-q*val v) (4294967296^i);have h6:=gZ (val ((U.drop j).take i)-q*val v) (show(4294967296:Int)^i≠0 by omega);rw[h2]at h5;simp at h5;omega
   rw[kC af];rfl
  ·subst h4 h3;have:val ((U.drop j).take i)-q*val v<0:=by have h5:=pq (val ((U.drop j).take i)-q*val v) (4294967296^i);have h6:=iv (val ((U.drop j).take i)-q*val v) hp;rw[h2]at h5;simp at h5;omega
   rw[oK af];rfl
set_option maxHeartbeats 4000000 in
def ajq(U v:List Int)(j L:Nat)(hU:bV U)(hv:bV v)(hj:j+L≤U.length)(hL:v.length≤L)(hl:U.length≤1099511627777):
  nf Tryz.prog 227 [.c (.W 0 j L),cS aE v] 23 aE U (.t []) (c8 U j (bZ L (val ((U.drop j).take L)+val v))):=by
 refine qJ Tryz.func227 ae ae ae ae ae ak ?_
 refine rr ae (rr ae ?_)
 refine aH (bA (α:=Nat×Int) (λx=>⟨[(0,.c (.W 0 j L)),(1,cS aE v),(4,cU x.2),(5,cI x.1)],[(0,.vec 23 aE (c8 U j (bZ x.1 (val ((U.drop j).take x.1)+val (v.take x.1)))))],3,[]⟩) (λx=>x.1≤L∧(val ((U.drop j).take x.1)+val (v.take x.1))/4294967296^x.1=x.2∧(x.2=0∨x.2=1)) (λx=>L-x.1) (0,0) ⟨bK _,by simp[val],.inl ae⟩ (wk ⟨sR ae,sR ae,sR ae,sR ae,ah⟩ ⟨bE ae ?_,ah⟩) ?_)
 ·exact ay (aK.vec 23 aE) (LL U j).symm
 rintro⟨i,c⟩ ⟨h1,h2,h4⟩
 simp only at h1 h2 h4
 refine aj (rr ae ?_)
 refine ax ae (λh=>?_) (λh=>?_)
 ·have h:i<L:=by simpa using h
  have gv:=dd hv i;have gu:=dd hU (j+i);have dh:=Y0 U v j i (c:=c) ae h2;simp only at dh;obtain⟨s1,s2⟩:=dh;have hlen:(bZ i (val ((U.drop j).take i)+val (v.take i))).length=i:=uj _ _;have m6:=yx (U:=U) (j:=j) (ws:=bZ i (val ((U.drop j).take i)+val (v.take i))) af;have rV:=LM (U:=U) (j:=j) (ws:=bZ i (val ((U.drop j).take i)+val (v.take i))) af;have lj:=λw=>LN (U:=U) (j:=j) (ws:=bZ i (val ((U.drop j).take i)+val (v.take i))) w af
  rw[hlen]at rV lj;generalize hX:c8 U j (bZ i (val ((U.drop j).take i)+val (v.take i)))=X at*;have ei:(i:Int).toNat=i:=bu i;refine aC (ai (aj (aH (rb (rc ae ae (Cd v i hv) (hp:=jT) (re ae ?_))))));have w1:IntKind.wrap .u64 (IntKind.wrap .u64 (IntKind.wrap .u64 (X.getD (j+(i:Int).toNat) 0)+v.getD i 0)+c)=U.getD (j+i) 0+v.getD i 0+c:=by rw[ei,rV,wrap_u64 (U.getD (j+i) 0) af af,wrap_u64 (_+v.getD i 0) af af,wrap_u64 _ af af]
  generalize ht:U.getD (j+i) 0+v.getD i 0+c=t at*;have oc:0≤t∧t<8589934592:=af;refine dy (st':=⟨[(0,.c (.W 0 j L)),(1,cS aE v),(5,cI i),(6,cU t)],[(0,.vec 23 aE X)],5,[]⟩) (wk ⟨sR ae,sR ae,sR ae,⟨_,ae,au.of_eq (ay (λz=>AV.c (C.I .u64 z)) w1)⟩,ah⟩ ⟨bR ae,ah⟩) ?_;refine rr ae (hp:=jT) (rt ae ?_);refine a6 (ai (rt ae (a8 (i+1,t/4294967296) ⟨h,s2,by show t/4294967296=0∨t/4294967296=1;omega⟩ (by show L-(i+1)<L-i;omega) (wk ⟨sR ae,sR ae,sE ae ?_,sE ae ?_,ah⟩ ⟨bE ae ?_,ah⟩))))
  ·refine ay (λz=>AV.c (C.I .u64 z)) ?_;show IntKind.wrap .u64 (t.tdiv 4294967296)=t/4294967296;rw[EJ oc.1,wrap_u64 (t/4294967296) af af]
  ·exact ay cI af
  ·refine ay (aK.vec 23 aE) ?_;show X.set (j+(i:Int).toNat) (IntKind.wrap .u32 (t.tmod 4294967296))=c8 U j (bZ (i+1) _);rw[s1,ei,HR oc.1,wrap_u32 _ af af,lj]
 ·have h:¬i<L:=by simpa using h
  have e:i=L:=af;subst e;rw[nv v i af];exact bh (bt (bq (bp (Ah ar ae (au.refl _) ae))))
end Go.El
namespace Go.El
def RE{v:List Int}{n:Nat}(h:v.length=n+2):val v=(v.getD (n+1) 0*4294967296+v.getD n 0)*4294967296^n+val (v.take n):=by
 have h1:=lh v n;have h2:=lh v (n+1);rw[nv v (n+1+1) af,qK]at h2;rw[h2,h1,lK];have e:v.getD (n+1) 0*(4294967296^n*4294967296)=v.getD (n+1) 0*4294967296*4294967296^n:=by rw[fh (4294967296^n),ke]
 rw[e];omega
def ajr(U:List Int)(j n:Nat):val ((U.drop j).take (n+3))=((U.getD (j+(n+2)) 0*4294967296+U.getD (j+(n+1)) 0)*4294967296+U.getD (j+n) 0)*4294967296^n+val ((U.drop j).take n):=by have h1:=lh (U.drop j) n;have h2:=lh (U.drop j) (n+1);have h3:=lh (U.drop j) (n+2);rw[RD]at h1 h2 h3;rw[qK]at h2;rw[qK (n+1),qK]at h3;rw[show n+3=n+2+1 from ae,h3,h2,h1];generalize (4294967296:Int)^n=M;generalize U.getD (j+(n+2)) 0=a;generalize U.getD (j+(n+1)) 0=b;generalize U.getD (j+n) 0=c;grind
def Y3{U v:List Int}{j n:Nat}(hU:bV U)(hv:bV v)(hn:v.length=n+2)(hj:j+n+3≤U.length)(yy:2147483648≤v.getD (n+1) 0)(br:val ((U.drop j).take (n+3))<val v*4294967296):
  Kn1 (4294967296^n) (v.getD (n+1) 0) (v.getD n 0) (val (v.take n)) (val v) (U.getD (j+(n+2)) 0*4294967296+U.getD (j+(n+1)) 0) (U.getD (j+n) 0) (val ((U.drop j).take n)) (val ((U.drop j).take (n+3))):=by
 have a1:=dd hv (n+1)
 have a2:=dd hv n
 have b1:=dd hU (j+(n+2))
 have b2:=dd hU (j+(n+1))
 have b3:=dd hU (j+n)
 have l1:=nX (jY hv n)
 have l2:=nX (jY (zM hU j) n)
 rw[show(v.take n).length=n by simp;omega]at l1
 rw[show((U.drop j).take n).length=n by simp;omega]at l2
 exact⟨jZ n,yy,a1.2,a2.1,a2.2,mz (jY hv n),l1,by omega,b3.1,b3.2,mz (jY (zM hU j) n),l2,RE hn,ajr U j n,br⟩
structure vC(A v:Int)(lb M:Nat)(x:Nat×List Int×List Int):Prop where
 k:x.1≤M+1
 ul:x.2.1.length=M+lb+1
 ur:bV x.2.1
 ub:val (x.2.1.drop x.1)<v
 ql:x.2.2.length=M+1
 qr:bV x.2.2
 qz:∀i,i<x.1→x.2.2.getD i 0=0
 eq:A=val x.2.1+v*val x.2.2
def An(U:List Int)(j:Nat)(h:j≤U.length):val U=val (U.take j)+4294967296^j*val (U.drop j):=by have:=DS (U.take j) (U.drop j);rw[xP]at this;rw[this];congr 3;simp;omega
def Y4{ws:List Int}(h:bV ws)(n:Nat)(hn:n≤ws.length)(hs:val ws<4294967296^n):val (ws.drop n)=0:=by
 have h1:=An ws n hn;have h2:=mz (jY h n);have h3:=mz (zM h n);by_cases e:val (ws.drop n)=0
 ·exact e
 ·exfalso;have:4294967296^n*1≤4294967296^n*val (ws.drop n):=jx af (by have:=jZ n;omega);omega
def vC.RF{A v:Int}{lb M j:Nat}{U Q:List Int}(h:vC A v lb M (j+1,U,Q))(hv:v<4294967296^lb):val (U.drop j)=val ((U.drop j).take (lb+1))∧val ((U.drop j).take (lb+1))<v*4294967296:=by
 have hk:j+1≤M+1:=h.k;have hl:U.length=M+lb+1:=h.ul;have hr:bV U:=h.ur;have hb:val (U.drop (j+1))<v:=h.ub;have e1:U.drop j=U.getD j 0::U.drop (j+1):=by rw[oH af];simp[aU,cr (show j<U.length by omega)]
 have h0:val ((U.drop (j+1)).drop lb)=0:=Y4 (zM hr _) lb cT af;have h1:val (U.drop j)=val ((U.drop j).take (lb+1)):=by have:=An (U.drop j) (lb+1) cT;rw[xW]at this;rw[xW]at h0;rw[this,show j+(lb+1)=j+1+lb by omega,h0];simp
 refine⟨h1,?_⟩;rw[←h1,e1,val];have:=dd hr j;omega
def vC.next{A v:Int}{lb M j:Nat}{U Q:List Int}(h:vC A v lb M (j+1,U,Q))(oS:0<v)(hv:v<4294967296^lb):
  vC A v lb M (j,c8 U j (bZ (lb+1) (val ((U.drop j).take (lb+1))%v)),Q.set j (val ((U.drop j).take (lb+1))/v)):=by
 obtain⟨w1,w2⟩:=h.RF hv
 have hk:j+1≤M+1:=h.k
 have hl:U.length=M+lb+1:=h.ul
 have hr:bV U:=h.ur
 have hb:val (U.drop (j+1))<v:=h.ub
 have rW:Q.length=M+1:=h.ql
 have hqr:bV Q:=h.qr
 have Y5:∀i,i<j+1→Q.getD i 0=0:=h.qz
 have heq:A=val U+v*val Q:=h.eq
 have RH:0≤val ((U.drop j).take (lb+1)):=mz (jY (zM hr _) _)
 generalize hu:val ((U.drop j).take (lb+1))=u at*
 have m0:=gZ u (show v≠0 by omega)
 have m1:=iv u oS
 have d0:0≤u/v:=xS RH af
 have d1:u/v<4294967296:=DB oS (by rw[fh];exact w2)
 have qL:=pq u v
 have m6:(bZ (lb+1) (u%v)).length=lb+1:=uj _ _
 have vq:j+(bZ (lb+1) (u%v)).length≤U.length:=af
 have br:u%v<4294967296^(lb+1):=by rw[qK];have:=jZ lb;omega
 have h0:val (U.drop (j+(lb+1)))=0:=by
  have:=An (U.drop j) (lb+1) cT;rw[xW,hu,w1]at this;have hp:=jZ (lb+1);have h3:4294967296^(lb+1)*val (U.drop (j+(lb+1)))=0:=af;rcases Int.mul_eq_zero.1 h3 with e|e
  ·omega
  ·exact e
 have Y6:val ((c8 U j (bZ (lb+1) (u%v))).drop j)=u%v:=by rw[RC vq,DS,HU,iZ m0 br,m6,h0];simp
 refine⟨by show j≤M+1;omega,by show(c8 _ _ _).length=_;rw[yx vq];exact hl,RB hr (HT _ _),by show val ((c8 U j _).drop j)<v;rw[Y6];exact m1,by show(Q.set _ _).length=_;simp[rW],zN hqr _ ⟨d0,d1⟩,?_,?_⟩
 ·intro i hi;show(Q.set j _).getD i 0=0;have hi:i<j:=hi;rw[aU,List.getElem?_set_ne af,←aU];exact Y5 i af
 ·show A=val (c8 U j _)+v*val (Q.set j _);rw[PU Q j _ af,Y5 j af,An (c8 U j _) j (by rw[yx vq];omega),YY vq,Y6,heq,An U j af,w1];have e1:v*(val Q+(u/v-0)*4294967296^j)=v*val Q+4294967296^j*(v*(u/v)):=by generalize u/v=x;generalize (4294967296:Int)^j=y;grind
  have e2:4294967296^j*u=4294967296^j*(u%v)+4294967296^j*(v*(u/v)):=by rw[←px,qL]
  rw[e1,e2];omega
def vC.fin{A v:Int}{lb M:Nat}{U Q:List Int}(h:vC A v lb M (0,U,Q)):val Q=A/v∧val U=A%v:=by have hb:val U<v:=h.ub;have hu:=mz h.ur;have heq:A=val U+v*val Q:=h.eq;simp only at hu;have hv:0<v:=af;rw[heq,Int.add_mul_ediv_left _ _ af,Gy hu hb,Kp,iZ hu hb];exact⟨by omega,ae⟩
def ajt{b1:Int}(h1:1≤b1)(h2:b1<4294967296):2147483648≤b1*(4294967296/(b1+1)):=by
 have hd:=pq 4294967296 (b1+1);have hm:=iv 4294967296 (show 0<b1+1 by omega);generalize 4294967296/(b1+1)=d at*;generalize (4294967296:Int)%(b1+1)=r at*;by_cases hb:2147483648≤b1
 ·have LO:1≤d:=by
   by_cases e:1≤d
   ·exact e
   ·have:(b1+1)*d≤(b1+1)*0:=jx af af;omega
  have:b1*1≤b1*d:=jx LO af;omega
 ·have key:0≤(b1-1)*(4294967296-2*b1-2):=jX af af;have e1:(b1-1)*(4294967296-2*b1-2)=b1*4294967296-2*(b1*b1)-4294967296+2:=by grind
  have e2:(b1+1)*(b1*d)=b1*(4294967296-r):=by rw[show(b1+1)*(b1*d)=b1*((b1+1)*d)by grind];congr 1;omega
  have e3:b1*(4294967296-b1)≤b1*(4294967296-r):=jx af af;have e4:b1*(4294967296-b1)=b1*4294967296-b1*b1:=by rw[KN]
  by_cases e:2147483648≤b1*d
  ·exact e
  ·exfalso;have:(b1+1)*(b1*d)≤(b1+1)*2147483647:=jx af af;omega
end Go.El
namespace Go.El
open Go Go.Proofs
def Sm.of{z:Int}(h:z.natAbs<18446744073709551616):Sm z:=dF (Al h) ak
def EM(n:Int)(h0: -9223372036854775808≤n)(h1:n≤9223372036854775807):aG Tryz.prog 46 [cI n] (aQ (n:Rat)):=by refine aX Tryz.func46 ae ae ae ae ae ak ?_;refine rr ae (rb (rc ae ae (Ch n h0 h1) (rc ae ae (Ch 1 ak ak) (re ae (aF (aL ar ae (au.of_eq ?_)))))));rfl
def HV(q:Rat):aG Tryz.prog 53 [aQ q] (cI (cN q.num)):=by refine aX Tryz.func53 ae ae ae ae ae ak ?_;refine rr ae (rb (rc ae ae (EH q.num) (re ae (aF (aL ar ae (au.refl _))))))
def LP(n g:Int)(hg:g≠0)(h:g.natAbs<4294967296)(hn:Sm n):aG Tryz.prog 228 [aZ n,aZ g] (aZ (n/g)):=by refine aX Tryz.func228 ae ae ae ae ae ak ?_;refine rr ae (rb (rc ae ae (ajl n g hg (.inr h) hn (Sm.of af)) (re ae (rr ae (aF (aL ar ae (au.of_eq ?_)))))));rfl
def HW(n d:Int)(hd:d≠0):(Rat.divInt n d).num=n/(if d<0 then-((Int.gcd n d:Nat):Int)else((Int.gcd n d:Nat):Int))∧((Rat.divInt n d).den:Int)=d/(if d<0 then-((Int.gcd n d:Nat):Int)else((Int.gcd n d:Nat):Int)):=by
 have RI:((Int.gcd n d:Nat):Int)∣n:=Int.gcd_dvd_left ..;have aju:((Int.gcd n d:Nat):Int)∣d:=WS ..;have RJ:Int.gcd n d≠0:=by intro h0;have:=(Po.1 h0).2;exact hd this
 rw[Rat.num_divInt,Rat.den_divInt,aq hd,Int.gcd_comm d n];by_cases h:d<0
 ·rw[aw h,Int.sign_eq_neg_one_of_neg h,DM,DM];refine⟨?_,?_⟩
  ·rw[Int.neg_mul,ja,Int.neg_ediv_of_dvd RI]
  ·rw[Bl,show((d.natAbs:Nat):Int)= -d by omega,Int.neg_ediv_of_dvd aju]
 ·rw[aq h,Int.sign_eq_one_of_pos af,ja];refine⟨ae,?_⟩;rw[Bl,show((d.natAbs:Nat):Int)=d by omega]
def ajv(n d:Int)(hd:d≠0)(hn:n.natAbs<18446744073709551616)(uk:d.natAbs<4294967296):aG Tryz.prog 153 [aZ n,aZ d] (aQ (Rat.divInt n d)):=by
 refine aX Tryz.func153 ae ae ae ae ae ak ?_;have RJ:Int.gcd n d≠0:=λh0=>hd (Po.1 h0).2
 have jP:Int.gcd n d<4294967296:=zy (Nat.gcd_le_right _ af) uk;obtain⟨p1,p2⟩:=HW n d hd;refine rr ae (rb (rc ae ae (ajk n d hn af) (re ae (aj (rb (rc ae ae (EH d) (re ae ?_)))))));refine ax ae (λh=>?_) (λh=>?_)
 ·have h:d<0:=by
   have h:cN d<0:=cq;unfold cN at h;split at h
   ·assumption
   ·(try split at h)<;>omega
  rw[aw h]at p1 p2;refine cK (rc ae ae (YP _) (re ae (ai (rb ?_))));refine rc ae ae (LP n _ af af (Sm.of hn)) (rc ae ae (LP d _ af af (Sm.of af)) (re ae (aF (aL ar ae (au.of_eq ?_)))));unfold aQ;simp only[av,p1,p2];rfl
 ·have h:¬d<0:=by
   have h:¬cN d<0:=cq;unfold cN at h;split at h
   ·omega
   ·assumption
  rw[aq h]at p1 p2;refine aC (ai (rb ?_));refine rc ae ae (LP n _ af af (Sm.of hn)) (rc ae ae (LP d _ af af (Sm.of af)) (re ae (aF (aL ar ae (au.of_eq ?_)))));unfold aQ;simp only[av,p1,p2];rfl
def ajw(n d:Int)(hd:d≠0)(hn:n.natAbs<18446744073709551616)(uk:d.natAbs<4294967296):aG Tryz.prog 119 [aZ n,aZ d] (.t [(true,av .q (Rat.divInt n d)),(false,[.I .i64 0])]):=by
 refine aX Tryz.func119 ae ae ae ae ae ak ?_;refine rr ae (aj (rb (rc ae ae (EH d) (re ae ?_))));refine ax ae (λh=>?_) (λh=>?_)
 ·exfalso;have h:cN d=0:=cq;unfold cN at h;split at h
  ·omega
  ·(try split at h)<;>omega
 ·refine aC (ai (rb (rc ae ae (ajv n d hd hn uk) (re ae (aF (aL ar ae (au.of_eq ?_)))))));rfl
def Y7{a b:Int}{x y:Nat}(ha:a.natAbs≤x)(hb:b.natAbs≤y):(a*b).natAbs≤x*y:=by rw[uZ];exact my ha hb
def ajx(a b:Rat)(hb:b.num≠0)(wV:a.num.natAbs≤65535)(wU:a.den≤65535)(jq:b.num.natAbs≤65535)(dO:b.den≤65535):aG Tryz.prog 51 [aQ a,aQ b] (.t [(true,av .q (Rat.divInt (a.num*(b.den:Int)) ((a.den:Int)*b.num))),(false,[.I .i64 0])]):=by refine aX Tryz.func51 ae ae ae ae ae ak ?_;have m1:=Y7 (a:=a.num) (b:=(b.den:Int)) wV (show((b.den:Int)).natAbs≤65535 by simpa using dO);have m2:=Y7 (a:=(a.den:Int)) (b:=b.num) (show((a.den:Int)).natAbs≤65535 by simpa using wU) jq;have aR:(a.den:Int)*b.num≠0:=Py (by have:=a.den_nz;omega) hb;refine rr ae (rb (rc ae ae (xb _ _ (Sm.of af) (Sm.of af)) (rc ae ae (xb _ _ (Sm.of af) (Sm.of af)) (rc ae ae (ajw _ _ aR af af) (re ae (aF (aL ar ae (au.of_eq ?_))))))));rfl
end Go.El
