/- The engine, part 47: a box is frozen; contracts that use up the blocks that they are handed; a slice of slices that a call reads in place. Own work; no condition. -/
import Derived.Test.YtceihkmakfdcnaaGreatH7
import Derived.Test.YtceihkmakfdcnaaGreatH4
import Derived.Test.YtceihkmakfdcnaaGreatH6
set_option linter.all false
set_option maxHeartbeats 16000000
set_option maxRecDepth 100000
open Bool renaming false->ah
open Go.El renaming rr->I,cS->N,ar5->c,jt->S,jg->M,re->j,cI->y,rb->R,vK->r
open Go.Proofs.Tryz renaming prog->z
open Int renaming toNat->af,natAbs->aA
open List renaming length->Z,getD->E,range->cd,take->h,replicate->bg
open Option renaming some->ad
open Rat renaming sub_eq_add_neg->ajN,mul_add->Yr,add_neg_cancel->ajO,divInt->iW
open _root_ renaming List->V,Nat->Y,Rat->D,Int->G
namespace Go.El
open Go Go.Proofs Go.RowKit
def GQ(g:Gh)(fm:V (Y×aE))(d:Y):Prop:=∃a e,S a fm=ad e/\cz (g.γ a)=ad d
def ajJ(g:Gh)(W:World)(fm:V (Y×aE))(f:AV)(e:Ending)(d:World):Prop:=
 ∃v a,e= .returned v/\bA ⟨a,jI⟩ f v/\cD g.H a/\(∀b o,b<W.heap.size->¬GQ g fm b->a b o=g.H b o)/\Sub a d/\BK (GQ g fm) W d
structure Lg(P:Program)(f:FuncId)(args:V AV)(fm:V (Y×aE))(r:AV):Prop where
 call:nS P f=true
 iy:r.ak=[]
 spec:∀g W vs,Sub g.H W->eQ g args vs->(∀d b,S d fm=ad b->fB (λ_=>True) g W d b)->(∀d a b e k,S d fm=ad b->S a fm=ad e->cz (g.γ d)=ad k->cz (g.γ a)=ad k->d=a)->Calls P f vs.toArray W (ajJ g W fm r)
def Yh(P:Program)(g:Func)(i:AV):k7:=λF e a W=>bodyPost P g (λe f=>∃v d,e= .returned v/\bA ⟨d,jI⟩ i v/\cD F.H0 d/\(∀b o,b<F.w0.heap.size->¬F.own b->d b o=F.H0 b o)/\Sub d f/\BK F.own F.w0 f) e a W
section
variable{P:Program}{tt:TT}{n:Y}{st:St}
def Yi(e:b8 P tt=true){l}{m}{o f}(p:kF tt st m=ad o)(i:bm o f)(k:l.results=m.toArray:=by rfl)(q:f.ak=[]:=by rfl):eR n .ret st (Yh P l f):=by intro F s g W a h;let ⟨u,hu,d⟩:=zR e h k p;exact⟨h.defers.trans s.ds,u,hu,u,g.H,J,(i.1 _ _ d).iy q (cD.refl _) jI,h.le,h.fresh,h.sub,h.below⟩
def ajK{f}{p}{df}{args}{fm}{aV}o(hf:P.funcs[f]? =ad p)(hb:p.body=ad df)(hN:p.ntmps=n)(q:Nat.ble args.length n=true)(x7:∀d∈cF args,d<1000000*o)(B:KI (1000000*o) fm)(x8:aV.ak=[])(sF:(p.name != "runtime.NumGoroutine")=true)
  (cq:TR P n df ⟨dr 0 args,fm,o,[]⟩ (Yh P p aV)):Lg P f args fm aV:=by
 refine⟨zS,x8,?_⟩
 intro g W vs C l K L
 refine calls_of_wp hf hb ?_
 have z:=xM l
 have q:=c9 q
 have i:∀d b,St.kn ⟨dr 0 args,fm,o,[]⟩ (.m d)=ad (.b b)->S d fm=ad b:=by intro d b e;simp only[St.kn,cu]at e;let ⟨x,hx,he⟩:=e;cases he;exact hx
 let F:eK:={w0:=W,H0:=g.H,n:=n,own:=GQ g fm,k0:=0}
 refine wp_mono (cq F ⟨J,a8 _,J,J⟩ g W _ ⟨?_,J,?_,?_,?_,?_,?_,C,⟨J,J,J,aW _,λ_ _ _=>rfl⟩,cD.refl _,λ_ _ _ _=>rfl,λ_ cq=>absurd cq<|Ch _⟩)<|λe a T E=>E
 .simp[hN,F];omega
 .intro t v A;simp only[St.kn,cu]at A;let ⟨x,hx,he⟩:=A;cases he;let ⟨_,u,hu,G,_⟩:=mW args vs 0 l t v hx;have Q:vs[t]? =ad u:=vN;have gN:t<Z vs:=(rj.1 Q).1;have:(vs.toArray++Array.replicate (p.ntmps-vs.toArray.size) undef).getD t undef=u:=by rw[nQ,xN zT];simp[Q]
  rw[this];exact G
 .intro d b e;have w:=i d b e;exact(K d b w).xY (λk I=> .inr ⟨d,b,w,I⟩) J J ⟨cD.refl _,λ_ _=>rfl⟩
 .intro d U b D k e w M N;exact L d U b D k (i d b e) (i U D w) M N
 .intro k x e d X;cases k with
  |m j=>
   cases x with
   |v y=>simp only[St.kn,cu]at e;let ⟨_,_,he⟩:=e;cases he
   |b b=>exact(B j b<|i j b e).2 d X
  |s t=>
   simp only[St.kn,cu]at e
   let ⟨y,O,he⟩:=e
   subst he
   let ⟨_,u,_,_,R⟩:=mW args vs 0 l t y O
   exact x7 d<|R d X
 .intro d x e;cases x with
  |v y=>simp only[St.kn,cu]at e;let ⟨_,_,he⟩:=e;cases he
  |b b=>exact(B d b<|i d b e).1
def Lh{d:Type}{f:Y}{g:d}:∀{l:V (Y×d)},S f l=ad g->f∈l.map (·.1)
 |[],a=>by simp[S]at a
 | (i,x)::l,a=>by
  simp only[S]at a;split at a
  .rename_i e;simp[e]
  .exact jF _<|Lh a
def Yj{f:Type}{d:Y}:∀{l:V (Y×f)},d∈l.map (·.1)->∃g,S d l=ad g
 |[],a=>by cases a
 | (i,x)::l,a=>by
  simp only[S];split
  .exact⟨x,J⟩
  .rename_i e;rcases bX.1 a with a|a
   .exact absurd a.symm e
   .exact Yj a
def AD(l:V Y):∀k,aC (l.map λa=>((.m a:Key),(none:Option Info))) k=(match k with| .m a=>if a∈l then ad none else none| .s _=>none):=by
 induction l with
 |nil=>intro k;cases k<;>simp[aC]
 |cons x l d=>
  intro k
  simp only[gR,aC]
  cases k with
  |s t=>simp[d]
  |m a=>
   by_cases e:x=a
   .subst e;simp
   .simp only[Key.m.injEq,e,bL,d,bX];have:¬a=x:=λh=>e h.symm
    simp[this]
def ajL{n new}{ops}{i}{o:Oper}(ho:ops[i]? =ad o)(hg:o.guard=none){d:Y}(hd:o.dst=ad d)(di:d<n){f}{args}{k6}(bU:o.op= .call ⟨.value<|.func f,args,k6⟩)
 {sl}{q fm}{nx:Y} {gd:V (Y×Bool)} {vs:V AV} {aV:AV} (hv:jv ⟨sl,q++fm,nx,gd⟩ args.toList=ad vs) (hf:Lg P f vs fm aV) (Yk:∀l p,S l fm=ad p->S l q=none):
  k5 P n ops i ⟨sl,q++fm,nx,gd⟩ ⟨(d,aV)::sl,q,nx,gd⟩ new (bD args.toList++cX (fm.map (·.1)),.s d::(fm.map (·.1)).map .m):=by
 have O:∀l p,S l fm=ad p->S l (q++fm)=ad p:=λl p B=>by rw[Qa,Yk l p B,B];rfl
 refine⟨args.toList.flatMap (cC ⟨sl,q++fm,nx,gd⟩)++ff ⟨sl,q++fm,nx,gd⟩ (fm.map (·.1)),(.s d,ad<|.v aV)::(fm.map (·.1)).map (λl=>(.m l,none)),?_,?_,?_,?_,?_⟩
 .intro F kC Q known σ g W a K zr aN fc hK;have R:=Cb aN _ _ _ hv<|λZ C=>fc Z<|dY _ C;have mc:=vZ (st:=⟨sl,q++fm,nx,gd⟩) (ids:=fm.map (·.1)) (σ:=σ)<|λZ C=>fc Z<|fU _ C;have E:∀l p,S l fm=ad p->σ (.m l)=ad (.b p):=λl p B=>mc l (Lh B) p (O l p B)
  have hc:=hf.spec g W _ aN.sub R (λl p B=>(aN.cL l p<|E l p B).xY (λ_ _=>trivial) J J ⟨cD.refl _,λ_ _=>rfl⟩)<|λl nz p b' k H D h3 h4=>aN.inj l nz p b' k (E l p H) (E nz b' D) h3 h4;unfold wpOp;simp only[ho,Region.wanted,hg,b7];refine .inl ?_;unfold Oper.wp;have x7:args.map a.eval=(args.toList.map a.eval).toArray:=zL;have hex:(execOp a.eval o).run P W= .ok (.enter f (args.toList.map a.eval).toArray) W:=by
   have L:=hf.call;unfold nS at L;rw[execOp,bU];cases T:P.funcs[f]? with
   |none=>rw[T]at L;simp at L
   |some fn=>
    rw[T]at L
    simp only[cw,bne_iff_ne,ne_eq]at L
    have D:fn.body≠none:=by intro B;rw[B]at L;simp at L
    simp[resolve,Act.eval,Deferred.ofValue,invoke,callFunc,T,L.1,D]
    exact x7
  rw[hex];simp only[Oper.upon];refine hc.mono ?_;rintro e W' ⟨v,H',rfl,AE,hle,xQ,vU,c⟩;simp only[hd];have jS:d<a.tmps.size:=l0;have I:fP (λ_=>True) g ⟨H',g.γ⟩:=⟨hle,λ_ _=>rfl⟩;have hN:∀p,GQ g fm p->F.N p:=by rintro p ⟨l,bb,H,D⟩;exact((aN.cL l bb<|E l bb H).block D).1
  have hM:∀j p,bq σ ((.s d,ad<|.v aV)::(fm.map (·.1)).map (λl=>(.m l,none))) (.m j)=ad (.b p)->σ (.m j)=ad (.b p)/\∀k,cz (g.γ j)=ad k->¬GQ g fm k:=by
   intro j p B;simp only[bq,aC,reduceCtorEq,bL,AD]at B;by_cases e:j∈fm.map (·.1)
   .rw[ao e]at B;cases B
   .rw[w e]at B;refine⟨B,λk U=>?_⟩;rintro⟨l,bb,H,D⟩;have:=aN.inj j l p bb k B (E l bb H) U D;subst this;exact e<|Lh H
  refine hK ⟨H',g.γ⟩ W' _ ⟨by simp[Act.put,aN.size],aN.defers,?_,?_,?_,?_,?_,vU,?_,aN.le.trans hle,?_,λl y=>⟨.inl (aN.fS l y).1,(aN.fS l y).2⟩⟩
  .intro t u ht;simp only[bq,aC,AD]at ht;by_cases e:d=t
   .subst e;simp only[b7,au,Info.v.injEq]at ht;subst ht;have:=AE.iy hf.iy (cD.refl _) g.γ;simpa[Act.put,jS]using this
   .have e':¬(Key.s d=Key.s t):=λh=>e dL
    simp only[e',bL]at ht;have hv:(a.put (ad d) v).tmps.getD t undef=a.tmps.getD t undef:=by simp[Act.put,lC e]
    rw[hv];exact bA.mono I (λ_ _=>trivial)<|aN.eE t u ht
  .intro j p B;let ⟨H,D⟩:=hM j p B;have M:=aN.cL j p H;refine M.v7 I A (λ_ _=>trivial)<|λk U=>?_;have z:=(M.block U).2;exact⟨c.block k z<|D k U,λo=>xQ k o z<|D k U⟩
  .intro j j' p b' k B kZ H D;exact aN.inj j j' p b' k (hM j p B).1 (hM j' b' kZ).1 H D
  .intro k x X l y;cases k with
   |s t=>
    simp only[bq,aC,AD]at X
    by_cases e:d=t
    .subst e;simp only[b7,au]at X;subst X;have:l∈aV.ak:=y;rw[hf.iy]at this;cases this
    .have e':¬(Key.s d=Key.s t):=λh=>e dL
     simp only[e',bL]at X;exact .inl<|aN.ak _ _ X l y
   |m j=>
    simp only[bq,aC,reduceCtorEq,bL,AD]at X
    by_cases e:j∈fm.map (·.1)
    .rw[ao e]at X;cases X
    .rw[w e]at X;exact .inl<|aN.ak _ _ X l y
  .intro j x X;simp only[bq,aC,reduceCtorEq,bL,AD]at X;by_cases e:j∈fm.map (·.1)
   .rw[ao e]at X;cases X
   .rw[w e]at X;exact .inl<|aN.dQ _ _ X
  .refine⟨c.os.trans aN.below.os,c.tape.trans aN.below.tape,c.output.trans aN.below.output,bQ aN.below.size c.size,λk U G=>?_⟩;have z:k<W.heap.size:=hP U aN.below.size;rw[<-aN.below.block k U G];refine c.block k z<|λho=>?_;rcases hN k ho with H|H
   .omega
   .exact G H
  .intro k o U G;have z:k<W.heap.size:=hP U aN.below.size;show H' k o=_;rw[xQ k o z (λho=>?_)]
   .exact aN.fresh k o U G
   .rcases hN k ho with H|H
    .omega
    .exact G H
 .intro Z C;rcases aY.1 C with C|C
  .let ⟨x,_,h⟩:=iw.1 C;exact dV _ x Z h
  .exact jV _ _ Z C
 .funext k;cases k with
  |s t=>
   simp only[bq,aC,AD,St.kn,S]
   by_cases e:d=t
   .simp[e]
   .have e':¬(Key.s d=Key.s t):=λh=>e dL
    simp[e,e']
  |m j=>
   simp only[bq,aC,reduceCtorEq,bL,AD,St.kn]
   by_cases e:j∈fm.map (·.1)
   .rw[ao e];let ⟨p,B⟩:=Yj e;simp[Yk j p B]
   .rw[w e];show _=Option.map Info.b (S j<|q++fm);rw[Qa];cases H:S j fm with
    |some p=>exact absurd (Lh H) e
    |none=>rw[Option.or_none]
 .intro k U;simp only[dq,fo,aY]at U;rcases U with h|h
  .exact dY _<|ew _ _ k h
  .exact fU _<|jW _ _ k h
 .intro k U;simp only[fD,gR,bX,K1]at U;rcases U with h|h
  .exact bX.2<|.inl h
  .refine bX.2<|.inr ?_;simpa[Function.comp]using h
end
section
variable{n:Y}{Q:k7}{sl cc:V (Y×AV)}{mem b9:V (Y×aE)}{nx:Y}{gd cr:V (Y×Bool)}{ops:Array Oper}{draw:Bool}{p:Pr}{ks dx:V Ks}{i i' n0 cx:Y}{os dH:V Oper}{d:Y}{ty:TypeId}{pos:String}{ig:Array Edge}{R:St->Prop}
def rcc{f}{args}{e}{conc fm}{vs}{k}(o:runs dG n nx draw ops.toList os i ⟨sl,mem,n0,gd⟩ .t ks=(⟨ad d,.call ⟨.value<|.func f,args,e⟩,ty,pos,ig,none⟩::dH,i',⟨cc,conc++fm,cx,cr⟩,p,dx))(q:jv ⟨cc,conc++fm,cx,cr⟩ args.toList=ad vs)(u:Lg z f vs fm k)(a:∀l v,S l fm=ad v->S l conc=none)
  (x:RG z n ops draw nx (i'+1) dH ⟨(d,k)::cc,conc,cx,cr⟩ (gU draw dx (bD args.toList++cX (fm.map (·.1)),.s d::(fm.map (·.1)).map .m)) R)
  (B:p:=by exact Oy) (g:Nat.blt d n=true:=by rfl):RG z n ops draw nx i os ⟨sl,mem,n0,gd⟩ ks R:=
 jX cj o B (mR (λC=>ajL C J J (c9 g) J q u a)<|mT x)
end
def cN(a d:V D):V D:=if Z a<Z d then a else eT ((dm (E d (Z d-1) 0)⁻¹ a d (Z d-1) (Z a+1-Z d) (Z a+1-Z d)).2.take<|Z d-1)
def da(a:V D):V D:=if a=[]then[]else eT (qC (E a (Z a-1) 0)⁻¹ a)
def eJ:Y->V D->V D->V D
 |0,a,_=>a
 |k+1,a,d=>if d=[]then a else eJ k d (da<|cN a d)
structure wH(s:Y)(a b:V D):Prop where
 la:a.length<=500
 lb:b.length<=500
 bn:b.getD (b.length-1) 0≠0
 qb:∀i,QS s (b.getD i 0)
 qS:∀d,d<=a.length+1-b.length->∀i,QS s ((dm (b.getD (b.length-1) 0)⁻¹ a b (b.length-1) (a.length+1-b.length) d).2.getD i 0)
 rn:cN a b≠[]->(cN a b).getD ((cN a b).length-1) 0≠0
 qr:∀i,QS s ((cN a b).getD i 0)
def yu(s:Y):Y->V D->V D->Prop
 |0,_,d=>d=[]
 |k+1,a,d=>d=[]\/(wH s a d/\yu s k d (da<|cN a d))
def AF l:Z (eT l)<=Z l:=QO
def o8{a d}(e:d≠[]):Z (cN a d)<Z d:=by
 have f:=cv.2 e;unfold cN;split
 .assumption
 .exact uA (AF _) Gd
abbrev UT:ET:= .pr (.sl .q) mi
def sq(f:Y->D):Y->D
 |0=>0
 |k+1=>sq f k+f k
def th{f g:Y->D}:∀{k:Y},(∀i,i<k->f i=g i)->sq f k=sq g k
 |0,_=>rfl
 |k+1,a=>by rw[sq,sq,th<|λi d=>a i O,a k O]
def Li{f:Y->D}{k}(a:∀i,i<k->f i=0):sq f k=0:=by
 induction k with
 |zero=>rfl
 |succ k d=>rw[sq,d<|λi e=>a i O,a k O,nD]
def QP(f g:Y->D):∀k,sq (λi=>f i+g i) k=sq f k+sq g k
 |0=>(nD 0).symm
 |k+1=>by simp only[sq,QP f g k];grind
def Lj(a:D)(f:Y->D):∀k,sq (λi=>a*f i) k=a*sq f k
 |0=>by simp only[sq];grind
 |k+1=>by simp only[sq,Lj a f k];grind
def ajM a(f:Y->D) k:sq (λi=>f i*a) k=sq f k*a:=by rw[Dm,<-Lj];exact th<|λi _=>Dm _ _
def Yl(f:Y->D):∀k,sq f (k+1)=f 0+sq (λi=>f<|i+1) k
 |0=>by simp only[sq];grind
 |k+1=>by rw[sq,Yl f k,sq];grind
def Ym(f:Y->D):∀k,sq f k=sq (λi=>f<|k-1-i) k
 |0=>rfl
 |k+1=>by rw[sq,Ym f k,Yl<|λi=>f<|k+1-1-i];have:sq (λi=>f<|k+1-1-(i+1)) k=sq (λi=>f<|k-1-i) k:=th (λi _=>by congr 1;omega);rw[this,(O:k+1-1-0=k)];grind
def Yn(F:Y->Y->D):∀n,sq (λi=>sq (λa=>F i a)<|i+1) n=sq (λa=>sq (λk=>F (a+k) a)<|n-a) n
 |0=>rfl
 |n+1=>by
  rw[sq,Yn F n];have d:sq (λa=>sq (λk=>F (a+k) a)<|n+1-a) n=sq (λa=>sq (λk=>F (a+k) a) (n-a)+F n a) n:=by refine th<|λa e=>?_;rw[(O:n+1-a=(n-a)+1),sq,(O:a+(n-a)=n)]
  rw[show sq (λa=>sq (λk=>F (a+k) a)<|n+1-a) (n+1)=sq (λa=>sq (λk=>F (a+k) a)<|n+1-a) n+sq (λk=>F (n+k) n) (n+1-n)from J,d,QP];rw[(O:n+1-n=1),show sq (λa=>F n a) (n+1)=sq (λa=>F n a) n+F n n from J,show sq (λk=>F (n+k) n) 1=0+F (n+0) n from J,iR];grind
def Lk{f:Y->D}{a:Y}:∀{n:Y},a<n->(∀i,i<n->i≠a->f i=0)->sq f n=f a
 |0,g,_=>by omega
 |n+1,g,d=>by
  rw[sq];by_cases e:a=n
  .subst e;rw[Li (λi k=>d i O O),GP]
  .rw[Lk (n:=n) O (λi k=>d i O),d n O O,nD]
def Yo(a B:Y->D)(n:Y):D:=sq (λi=>a i*B (n-i))<|n+1
structure Rx where
 v:Y->D
 fin:∃n,∀i,n<=i->v i=0
namespace Rx
instance:CoeFun Rx (λ_=>Y->D):=⟨λA=>A.v⟩
def ext{a B:Rx}(d:∀i,a i=B i):a=B:=by cases a;cases B;have e:=funext d;simp only at e;subst e;rfl
def Yq{A B:Y->D}{m n}(a:∀i,m<=i->A i=0)(d:∀i,n<=i->B i=0):∀i,m+n<=i+1->Yo A B i=0:=λi f=>Li λj g=>by
 by_cases e:m<=j
 .rw[a j e,qB]
 .rw[d (i-j) O,fO]
instance:Add Rx:=⟨λA B=>⟨λi=>A i+B i,by obtain⟨m,a⟩:=A.2;obtain⟨n,d⟩:=B.2;exact⟨m+n,λi e=>by show A.v i+B.v i=0;rw[a i O,d i O,nD]⟩⟩⟩
instance:Mul Rx:=⟨λA B=>⟨Yo A.v B.v,by obtain⟨m,a⟩:=A.2;obtain⟨n,d⟩:=B.2;exact⟨m+n,λi e=>Yq a d i O⟩⟩⟩
instance:Neg Rx:=⟨λA=>⟨λi=> -A i,by obtain⟨m,a⟩:=A.2;exact⟨m,λi d=>by show-A.v i=0;rw[a i d,Rat.neg_zero]⟩⟩⟩
def K(a:D):Rx:=⟨λi=>if i=0 then a else 0,1,λi d=>w O⟩
instance:_root_.Sub Rx:=⟨λx y=>x+ -y⟩
instance:OfNat Rx 0:=⟨⟨λ_=>0,0,λ_ _=>rfl⟩⟩
instance:OfNat Rx 1:=⟨K 1⟩
def eI(a B:Rx) i:(a+B) i=a i+B i:=rfl
def Gk(a:Rx) i:(-a) i= -a i:=rfl
def uC(a B:Rx) i:(a-B) i=a i-B i:=(ajN _ _).symm
def lL i:(0:Rx) i=0:=rfl
def e9(a B:Rx) n:(a*B) n=sq (λi=>a i*B (n-i)) (n+1):=rfl
def mz a i:K a i=if i=0 then a else 0:=rfl
def fZ d e i:(K d*e) i=d*e i:=by rw[e9,Lk (a:=0) O<|λj _ f=>by rw[mz,w f,qB]];rfl
def add_comm(x a:Rx):x+a=a+x:=ext λi=>Rat.add_comm _ _
def add_assoc(x a d:Rx):x+a+d=x+(a+d):=ext λi=>Rat.add_assoc _ _ _
def mul_comm(a B:Rx):a*B=B*a:=by
 refine ext λn=>?_
 rw[e9,e9,Ym];refine th<|λi d=>?_;rw[Dm,(O:n-(n+1-1-i)=i)];rfl
def mul_assoc(a B C:Rx):a*B*C=a*(B*C):=by
 refine ext λn=>?_
 rw[e9,e9];have d:sq (λi=>(a*B) i*C (n-i)) (n+1)=sq (λi=>sq (λj=>a j*B (i-j)*C (n-i))<|i+1) (n+1):=th (λi _=>by rw[e9,ajM]);rw[d,Yn<|λi j=>a j*B (i-j)*C (n-i)];refine th<|λj e=>?_;rw[e9,<-Lj,(O:n+1-j=n-j+1)];refine th<|λk f=>?_;rw[nE,(O:j+k-j=k),(O:n-(j+k)=n-j-k)]
def mul_add(a B C:Rx):a*(B+C)=a*B+a*C:=by
 refine ext λn=>?_
 rw[eI,e9,e9,e9,<-QP];exact th (λi _=>by rw[eI,Yr])
def add_mul(x d a:Rx):(x+d)*a=x*a+d*a:=by rw[mul_comm,mul_add,mul_comm a x,mul_comm a d]
def zero_add(x:Rx):0+x=x:=ext λi=>GP _
def add_zero(x:Rx):x+0=x:=by rw[add_comm,zero_add]
def one_mul(x:Rx):1*x=x:=ext λi=>(fZ 1 x i).trans<|rQ _
def mul_one(x:Rx):x*1=x:=by rw[mul_comm,one_mul]
def zero_mul(x:Rx):0*x=0:=ext λn=>by rw[e9];exact Li λi _=>by rw[lL,qB]
def mul_zero(x:Rx):x*0=0:=by rw[mul_comm,zero_mul]
def add_neg(x:Rx):x+ -x=0:=ext λi=>ajO _
def neg_add(x:Rx): -x+x=0:=by rw[add_comm,add_neg]
def sub_def(x a:Rx):x-a=x+ -a:=rfl
instance:Std.Associative (α:=Rx) (·+·):=⟨add_assoc⟩
instance:Std.Commutative (α:=Rx) (·+·):=⟨add_comm⟩
instance:Std.Associative (α:=Rx) (·*·):=⟨mul_assoc⟩
instance:Std.Commutative (α:=Rx) (·*·):=⟨mul_comm⟩
def add_left_cancel{x a d:Rx}(e:x+a=x+d):a=d:=by have:=a6 (-x+·) e;simpa only[<-add_assoc,neg_add,zero_add]using this
def kM(x a:Rx):x-a+a=x:=by rw[sub_def,add_assoc,neg_add,add_zero]
def uK(x a:Rx):x+a-a=x:=by rw[sub_def,add_assoc,add_neg,add_zero]
def Dp{x a d:Rx}(e:x+a=d):x=d-a:=by rw[<-e,uK]
def sub_eq{x a d:Rx}(e:x=d+a):x-a=d:=by rw[e,uK]
def sub_self(x:Rx):x-x=0:=add_neg x
def sub_zero(x:Rx):x-0=x:=sub_eq (add_zero x).symm
def Dq{x a:Rx}(d:x-a=0):x=a:=by rw[<-kM x a,d,zero_add]
def sub_mul(x d a:Rx):(x-d)*a=x*a-d*a:=Dp (by rw[<-add_mul,kM])
def mul_sub(x a d:Rx):x*(a-d)=x*a-x*d:=by rw[mul_comm,sub_mul,mul_comm a,mul_comm d]
def neg_mul(x a:Rx): -x*a= -(x*a):=add_left_cancel (x:=x*a) (by rw[<-add_mul,add_neg,add_neg,zero_mul])
def neg_neg(x:Rx): - -x=x:=add_left_cancel (x:= -x) (by rw[add_neg,neg_add])
def neg_sub(x a:Rx): -(x-a)=a-x:=add_left_cancel (x:=x-a) (by rw[add_neg,sub_def,sub_def];have:x+ -a+(a+ -x)=(x+ -x)+(-a+a):=fq;rw[this,add_neg,neg_add,add_zero])
def GR(x a d:Rx):(x-a)+(a-d)=x-d:=by rw[sub_def,sub_def,sub_def];have:x+ -a+(a+ -d)=x+ -d+(-a+a):=fq;rw[this,neg_add,add_zero]
def Ll(x e a d:Rx):(x+e)-(a+d)=(x-a)+(e-d):=sub_eq (by have:x-a+(e-d)+(a+d)=(x-a+a)+(e-d+d):=fq;rw[this,kM,kM])
instance:Dvd (Rx):=⟨λa b=>∃w,b=w*a⟩
def dvd_refl(a:Rx):a∣a:=⟨1,(one_mul a).symm⟩
def dvd_zero(a:Rx):a∣0:=⟨0,(zero_mul a).symm⟩
def dvd_trans{a d e:Rx}(f:a∣d)(k:d∣e):a∣e:=by obtain⟨w,rfl⟩:=f;obtain⟨v,rfl⟩:=k;exact⟨v*w,(mul_assoc v w a).symm⟩
def dvd_mul_left(a d:Rx):a∣d*a:=⟨d,J⟩
def dvd_mul_right(a d:Rx):a∣a*d:=⟨d,mul_comm a d⟩
def dI{a d}(f:a∣d)(e:Rx):a∣e*d:=dvd_trans f<|dvd_mul_left d e
def kN{a d}(f:a∣d)(e:Rx):a∣d*e:=dvd_trans f<|dvd_mul_right d e
def dvd_add{a d e:Rx}(f:a∣d)(k:a∣e):a∣d+e:=by obtain⟨w,rfl⟩:=f;obtain⟨v,rfl⟩:=k;exact⟨w+v,(add_mul w v a).symm⟩
def dvd_neg{a d:Rx}(e:a∣d):a∣-d:=by obtain⟨w,rfl⟩:=e;exact⟨-w,(neg_mul w a).symm⟩
def dvd_sub{a d e:Rx}(f:a∣d)(k:a∣e):a∣d-e:=dvd_add f<|dvd_neg k
def wI{a d e:Rx}(f:a∣d+e)(k:a∣d):a∣e:=by have:=dvd_sub f k;rwa[add_comm d e,uK]at this
def ajP{a d e:Rx}(f:a∣d-e)(k:a∣e):a∣d:=by have:=dvd_add f k;rwa[kM]at this
def m9{a d e:Rx}(f:a∣d-e):a∣e-d:=by rw[<-neg_sub];exact dvd_neg f
def og{a e f d:Rx}(g:a∣e-f)(k:a∣f-d):a∣e-d:=by rw[<-GR e f d];exact dvd_add g k
def QQ{a f g d e:Rx}(i:a∣f-g)(k:a∣d-e):a∣(f+d)-(g+e):=by rw[Ll];exact dvd_add i k
def qD{a g f d e:Rx}(i:a∣g-f)(k:a∣d-e):a∣g*d-f*e:=by
 have:g*d-f*e=(g-f)*d+f*(d-e):=by rw[sub_mul,mul_sub,GR]
 rw[this];exact dvd_add (kN i d)<|dI k f
def o9(a d:Rx):a∣d-d:=by rw[sub_self];exact dvd_zero a
def pk(a:Rx):Y->Rx
 |0=>1
 |n+1=>pk a n*a
def qE a:pk a 1=a:=one_mul a
def yv(a:Rx)(m:Y):∀n,pk a (m+n)=pk a m*pk a n
 |0=>(mul_one _).symm
 |n+1=>by rw[<-pW,pk,pk,yv a m n,mul_assoc]
def tj(a:Rx)(m:Y):∀n,pk a (m*n)=pk (pk a m) n
 |0=>rfl
 |n+1=>by rw[Nat.mul_succ,yv,pk,tj a m n]
def tk(a d:Rx):∀n,pk (a*d) n=pk a n*pk d n
 |0=>(one_mul 1).symm
 |n+1=>by rw[pk,pk,pk,tk a d n];ac_rfl
def AG:∀n,pk (1:Rx) n=1
 |0=>rfl
 |n+1=>by rw[pk,AG n,one_mul]
def X(k:Y):Rx:=⟨λi=>if i=k then 1 else 0,k+1,λi a=>w O⟩
def Dr k i:X k i=if i=k then 1 else 0:=rfl
def mq k d i:(X k*d) i=if k<=i then d (i-k)else 0:=by
 rw[e9];by_cases h:k<=i
 .rw[ao h,Lk (a:=k) O (λj _ e=>by rw[Dr,w e,qB]),Dr,ao J,rQ]
 .rw[w h];exact Li (λj e=>by rw[Dr,w O,qB])
def ajQ:X 0=1:=rfl
def C6 a d:K (a+d)=K a+K d:=ext λi=>by rw[eI,mz,mz,mz];split<;>grind
def eW a d:K (a*d)=K a*K d:=ext λi=>by rw[fZ,mz,mz];split<;>grind
def o4:K 0=0:=ext λi=>by rw[mz,lL];split<;>rfl
def oh:K 1=1:=rfl
def QR a:K (-a)= -K a:=add_left_cancel (x:=K a) (by rw[<-C6,ajO,o4,add_neg])
def ajR a d:K (a-d)=K a-K d:=by rw[ajN,C6,QR,sub_def]
def QT{a d}(e:K a=K d):a=d:=a6 (λA:Rx=>A 0) e
def pa{c}(a:c≠0):K c⁻¹ *K c=1:=by rw[<-eW,mA c a,oh]
def lx(a:V D):Rx:=⟨λi=>E a i 0,Z a,λi d=>by rw[aM,jP d];rfl⟩
def gC a i:lx a i=E a i 0:=rfl
def nF:lx []=0:=ext λi=>rfl
def Ds a:lx [a]=K a:=ext λi=>by
 cases i with
 |zero=>rfl
 |succ i=>rfl
def Lm d a:lx (d::a)=K d+X 1*lx a:=ext λi=>by
 rw[eI,mq];cases i with
 |zero=>rw[w O];show d=K d 0+0;rw[mz,ao J,nD]
 |succ i=>rw[ao O];show E a i 0=K d (i+1)+E a i 0;rw[mz,w O,GP]
def bF(a:V D):Prop:=a=[]\/E a (Z a-1) 0≠0
def wJ:bF []:= .inl J
def iJ(a:V D){i}(d:Z a<=i):E a i 0=0:=by rw[aM,jP d];rfl
def bF.top{a}(d:bF a){n}(e:Z a=n+1):E a n 0≠0:=by
 rcases d with d|d
 .subst d;simp at e
 .rwa[e,eh]at d
def Ys{a d:V D}(e:Z a=Z d)(f:∀i,E a i 0=E d i 0):a=d:=by refine sK e<|λi g k=>?_;have:=f i;rwa[aM,aM,cK g,cK k]at this
def ph{a d}(g:bF a)(k:bF d)(l:lx a=lx d):a=d:=by
 have f:∀i,E a i 0=E d i 0:=λi=>a6 (λA:Rx=>A i) l
 refine Ys ?_ f;rcases NS (Z a) (Z d)with e|e|e
 .exact absurd ((f<|Z d-1).symm.trans<|iJ a O)<|k.top O
 .exact e
 .exact absurd ((f<|Z a-1).trans<|iJ d O)<|g.top O
def QU(d:Y->D):∀n,(∀i,n<=i->d i=0)->∃a:V D,bF a/\Z a<=n/\∀i,E a i 0=d i
 |0,f=>⟨[],wJ,aW _,λi=>(f i<|a8 _).symm⟩
 |n+1,f=>by
  by_cases e:d n=0
  .let ⟨a,k,h2,l⟩:=QU d n (λi o=>by
    by_cases m:i=n
    .rw[m,e]
    .exact f i O)
   exact⟨a,k,O,l⟩
  .have g:∀i,E ((cd<|n+1).map d) i 0=d i:=λi=>by
    rw[aM,iV];by_cases e:i<n+1
    .rw[kK e];rfl
    .rw[jP bV];exact(f i O).symm
   refine⟨(cd<|n+1).map d,.inr ?_,ax,g⟩;rw[g];simpa using e
def iY d:∃a,bF a/\lx a=d:=by let ⟨n,e⟩:=d.2;let ⟨a,f,_,g⟩:=QU d.v n e;exact⟨a,f,ext g⟩
open Classical in
noncomputable def sz(a:Rx):Y:=Z<|Classical.choose<|iY a
def fj{a}(e:bF a):sz (lx a)=Z a:=by have d:=uL<|iY<|lx a;rw[sz,ph d.1 e d.2]
def tm{n}{A}(d:∀i,n<=i->A i=0):sz A<=n:=by let ⟨a,e,h2,f⟩:=QU A.v n d;rw[<-(ext f:lx a=A),fj e];exact h2
def lN{A}{i}(d:sz A<=i):A i=0:=by obtain⟨a,e,rfl⟩:=iY A;rw[fj e]at d;exact iJ a d
def GS{d}{n}(e:sz d=n+1):d n≠0:=by obtain⟨a,f,rfl⟩:=iY d;rw[fj f]at e;exact f.top e
def ajS{a}{n}(d:a n≠0):n<sz a:=Nat.lt_of_not_le λe=>d<|lN e
def Ln a:sz (lx a)<=Z a:=tm λ_ d=>iJ a d
def kh:sz (0:Rx)=0:=Nat.le_zero.1<|tm λ_ _=>rfl
def QV a:sz (K a)<=1:=tm λi d=>by rw[mz,w O]
def QW{a}(d:sz a=0):a=0:=ext λi=>lN O
def eO{a}(d:a≠0):0<sz a:=by
 rcases oW (sz a)with e|e
 .exact absurd (QW e) d
 .exact e
def QX a B:sz (a+B)<=max (sz a) (sz B):=tm λi d=>by rw[eI,lN (A:=a) O,lN (A:=B) O,nD]
def QY a:sz (-a)<=sz a:=tm λi d=>by rw[Gk,lN d];rfl
def GU a B:sz (a-B)<=max (sz a) (sz B):=by have d:=QX a<| -B;have e:=QY B;rw[sub_def];omega
def Az{d B:Rx}{m n}(f:∀i,m<i->d i=0)(g:∀i,n<i->B i=0):(d*B) (m+n)=d m*B n:=by
 rw[e9,Lk (a:=m) O<|λj k l=>?_]
 .rw[(O:m+n-m=n)]
 .by_cases e:m<j
  .rw[f j e,qB]
  .rw[g (m+n-j) O,fO]
def pj:(1:Rx)≠0:=λe=>by have:(1:Rx) 0=(0:Rx) 0:=uI;exact absurd this T
def dK{a B}(f:a≠0)(g:B≠0):sz (a*B)+1=sz a+sz B:=by
 have q:=eO f;have s:=eO g;obtain⟨m,k⟩:∃m,sz a=m+1:=⟨sz a-1,O⟩;obtain⟨n,l⟩:∃n,sz B=n+1:=⟨sz B-1,O⟩;have o:(a*B) (m+n)≠0:=by
  rw[Az (λi d=>lN O) (λi d=>lN O)];intro e;rcases yw.1 e with e|e
  .exact GS k e
  .exact GS l e
 have t:=ajS o;have u:sz (a*B)<=m+n+1:=tm λi d=>Yq (A:=a.v) (B:=B.v) (m:=m+1) (n:=n+1) (λj p=>lN (A:=a) O) (λj p=>lN (A:=B) O) i O
 omega
def uM{a}(d:a≠0):K a≠0:=λe=>d<|QT<|e.trans o4.symm
def o6{a B:Rx}(d:a≠0)(f:B≠0):a*B≠0:=λe=>by have h:=dK d f;rw[e,kh]at h;have g:=eO d;have i:=eO f;omega
def yx{A B C:Rx}(a:A≠0)(d:B*A=C*A):B=C:=by
 refine Dq ?_;refine eX λe=>?_
 exact o6 e a (by rw[sub_mul,d,sub_self])
def qF:sz (1:Rx)=1:=by have a:=QV 1;have d:=eO pj;rw[oh]at a;omega
def Dt{f}(g:sz f=1):∃d:D,d≠0/\f=K d:=by
 obtain⟨a,e,rfl⟩:=iY f;rw[fj e]at g;match a,g,e with
 |[d],_,e=>exact⟨d,e.top (n:=0) J,Ds d⟩
def uN{a}(d:sz a=1):∃B:Rx,B*a=1:=by obtain⟨c,e,rfl⟩:=Dt d;exact⟨_,pa e⟩
def wK{a B}(d:B*a=1):sz a=1:=by
 have f:a≠0:=λe=>pj (by rw[<-d,e,mul_zero])
 have g:B≠0:=λe=>pj (by rw[<-d,e,zero_mul])
 have i:=dK g f;rw[d,qF]at i;have k:=eO f;have l:=eO g;omega
def dvd_one{a}(d:a∣1):sz a=1:=by let ⟨w,hw⟩:=d;exact wK hw.symm
def iK{a B}(g:a∣B)(d:B≠0):sz a<=sz B:=by
 obtain⟨w,rfl⟩:=g;have f:w≠0:=λe=>d GV
 have i:a≠0:=λe=>d (by rw[e,mul_zero])
 have k:=dK f i;have pw:=eO f;omega
def uO{A B}(a:A∣B)(d:sz B<sz A):B=0:=
 eX λe=>by have:=iK a e;omega
def Yt{B:Rx}(f:B≠0):∀(n:Y)(a:Rx),sz a<n->∃Q d,a=Q*B+d/\sz d<sz B
 |0,_,g=>by omega
 |n+1,a,g=>by
  by_cases e:sz a<sz B
  .exact⟨0,a,by rw[zero_mul,zero_add],e⟩
  .have s:=eO f;obtain⟨k,l⟩:∃k,sz B=k+1:=⟨sz B-1,O⟩;obtain⟨m,t⟩:∃m,sz a=m+k+1:=⟨sz a-k-1,O⟩;have o:sz (a-K (a (m+k)*(B k)⁻¹)*(X m*B))<n:=by
    have:sz (a-K (a (m+k)*(B k)⁻¹)*(X m*B))<=m+k:=tm λi u=>by
     rw[uC,fZ,mq,ao (O:m<=i)];by_cases p:i=m+k
     .rw[p,(O:m+k-m=k),nE,mA _<|GS l,tn];grind
     .rw[lN (A:=a) (i:=i) O,lN (A:=B) (i:=i-m) O];grind
    omega
   let ⟨Q,d,h2,q⟩:=Yt f n _ o;refine⟨K (a (m+k)*(B k)⁻¹)*X m+Q,d,?_,q⟩;rw[add_mul,add_assoc,<-h2,mul_assoc,add_comm,kM]
def QZ a{B}(e:B≠0):∃Q d,a=Q*B+d/\sz d<sz B:=Yt e _ a<|dJ _
def AH:∀(n:Y)(d B:Rx),sz B<n->∃f U a,f∣d/\f∣B/\f=U*d+a*B
 |0,_,_,l=>by omega
 |n+1,d,B,l=>by
  by_cases e:B=0
  .subst e;exact⟨d,1,0,dvd_refl d,dvd_zero d,by rw[one_mul,mul_zero,add_zero]⟩
  .let ⟨Q,g,i,h2⟩:=QZ d e;let ⟨f,U,a,k,m,o⟩:=AH n B g O;refine⟨f,a,U-a*Q,?_,k,?_⟩
   .rw[i];exact dvd_add (dI k Q) m
   .rw[o,i,mul_add,sub_mul];have:a*(Q*B)+a*g+(U*B-a*Q*B)=(U*B-a*Q*B+a*Q*B)+a*g:=fq;rw[this,kM]
def Co(a B:Rx):Prop:=∃U V,U*a+V*B=1
def Co.symm{d B}(a:Co d B):Co B d:=by let ⟨U,V,a⟩:=a;exact⟨V,U,by rw[add_comm];exact a⟩
def Co.dvd{a B C}(d:Co a B)(k:a∣B*C):a∣C:=by
 let ⟨U,V,d⟩:=d;have:C=C*U*a+V*(B*C):=by have e:C*(U*a)+C*(V*B)=C*U*a+V*(B*C):=fq;rw[<-e,<-mul_add,d,mul_one]
 rw[this];exact dvd_add (dvd_mul_left a _)<|dI k V
def Co.of_dvd{d B C}(a:Co d B)(k:C∣B):Co d C:=by let ⟨U,V,a⟩:=a;obtain⟨w,rfl⟩:=k;exact⟨U,V*w,by rw[mul_assoc];exact a⟩
def Co.unit{a B}(d:Co a B)(k:a∣B):sz a=1:=by let ⟨U,V,d⟩:=d;exact dvd_one<|d▸dvd_add (dvd_mul_left a U) (dI k V)
def bl(Q:Rx):Prop:=2<=sz Q/\∀A B,Q=A*B->sz A=1\/sz B=1
def bl.ne{Q}(a:bl Q):Q≠0:=λe=>by have:=a.1;rw[e,kh]at this;omega
def bl.or{Q}(f:bl Q) a:Q∣a\/Co Q a:=by
 let ⟨D,U,V,g,h2,i⟩:=AH _ Q a<|dJ _;let ⟨w,hw⟩:=g;rcases f.2 _ _ hw with e|e
 .let ⟨B,d⟩:=uN e;left;refine dvd_trans ⟨B,?_⟩ h2;rw[hw,<-mul_assoc,d,one_mul]
 .let ⟨B,d⟩:=uN e;right;refine⟨B*U,B*V,?_⟩;rw[<-d,i,mul_add,mul_assoc,mul_assoc]
def bl.AI{Q}(a:bl Q):¬Q∣1:=λe=>by have:=dvd_one e;have:=a.1;omega
def bl.na{Q}(d:bl Q){a B}(k:Q∣a*B):Q∣a\/Q∣B:=by
 rcases d.or a with e|e
 .exact .inl e
 .exact .inr<|e.dvd k
def rR:∀(n:Y)(a:Rx),sz a<n->2<=sz a->∃Q,bl Q/\Q∣a
 |0,_,m,_=>by omega
 |n+1,a,m,h2=>by
  by_cases f:bl a
  .exact⟨a,f,dvd_refl a⟩
  .have:∃B C,a=B*C/\¬(sz B=1\/sz C=1):=eX λo=>f ⟨h2,λB C e=>eX λg=>o ⟨B,C,e,g⟩⟩
   let ⟨B,C,e,g⟩:=this;have i:a≠0:=λe=>by rw[e,kh]at h2;omega
   have k:B≠0:=λd=>i (by rw[e,d,zero_mul])
   have l:C≠0:=λd=>i (by rw[e,d,mul_zero])
   have p:=dK k l;rw[<-e]at p;have t:=eO k;have u:=eO l;let ⟨Q,q,s⟩:=rR n B O O;exact⟨Q,q,by rw[e];exact kN s C⟩
def Du{a B}(g:a≠0)(i:∀Q,bl Q->Q∣a->Q∣B->False):Co a B:=by
 let ⟨D,U,V,d,h2,k⟩:=AH _ a B<|dJ _;have l:D≠0:=λe=>by let ⟨w,hw⟩:=d;rw[e,mul_zero]at hw;exact g hw
 have o:=eO l;by_cases e:sz D=1
 .let ⟨C,m⟩:=uN e;refine⟨C*U,C*V,?_⟩;rw[<-m,k,mul_add,mul_assoc,mul_assoc]
 .let ⟨Q,n,f⟩:=rR _ D (dJ _) O;exact(i Q n (dvd_trans f d)<|dvd_trans f h2).elim
end Rx
namespace Rx
def wL{a B C d:Rx}(e:a∣B)(k:C∣d):a*C∣B*d:=by obtain⟨w,rfl⟩:=e;obtain⟨v,rfl⟩:=k;exact⟨w*v,fq⟩
def uQ{a}(d:a≠0):sz (K a)=1:=wK<|pa d
def ajT{d B}{a}(f:a≠0)(g:d∣K a*B):d∣B:=by
 have e:B=K a⁻¹ *(K a*B):=by rw[<-mul_assoc,pa f,one_mul]
 rw[e];exact dI g _
def bt(a:Rx):Rx:=⟨λi=>((i+1:Y):D)*a (i+1),by let ⟨n,h⟩:=a.2;exact⟨n,λi d=>by rw[h (i+1) O,fO]⟩⟩
def pn a i:bt a i=((i+1:Y):D)*a (i+1):=rfl
def GW x a:bt (x+a)=bt x+bt a:=ext λi=>by rw[pn,eI,eI,Yr];rfl
def Dv a:bt (K a)=0:=ext λi=>by rw[pn,mz,w O,fO];rfl
def Q1:bt 0=0:=by rw[<-o4,Dv,o4]
def ajU:bt 1=0:=Dv 1
def GX a x:bt (K a*x)=K a*bt x:=ext λi=>by rw[pn,fZ,fZ,pn];grind
def GY x:bt (X 1*x)=x+X 1*bt x:=ext λi=>by
 rw[pn,mq,eI,mq,ao O,eh];cases i with
 |zero=>rw[w O,nD];exact rQ _
 |succ i=>
  rw[ao O,eh,pn,Rat.natCast_add (i+1) 1]
  grind
def GZ(B:Rx):∀a:V D,bt (lx a*B)=bt (lx a)*B+lx a*bt B
 |[]=>by rw[nF,zero_mul,Q1,zero_mul,zero_mul,zero_add]
 |e::a=>by have d:=GZ B a;rw[Lm,add_mul,GW,GX,mul_assoc,GY,d,GW,Dv,zero_add,GY];simp only[add_mul,mul_add];ac_rfl
def uR d B:bt (d*B)=bt d*B+d*bt B:=by obtain⟨a,_,rfl⟩:=iY d;exact GZ B a
def G0(Q:Rx):∀e,bt (pk Q<|e+1)=pk Q e*(K ((e+1:Y):D)*bt Q)
 |0=>by rw[qE];show bt Q=1*(K 1*bt Q);rw[oh,one_mul,one_mul]
 |e+1=>by rw[show pk Q (e+1+1)=pk Q (e+1)*Q from J,uR,G0 Q e,Rat.natCast_add (e+1) 1,C6,add_mul,mul_add];rw[show(K ((1:Y):D):Rx)=1 from J,one_mul,show pk Q (e+1)=pk Q e*Q from J];ac_rfl
def ajV{Q}(g:2<=sz Q):bt Q≠0:=λe=>by
 obtain⟨n,d⟩:∃n,sz Q=n+1+1:=⟨sz Q-2,O⟩;have f:=GS d;have a:bt Q n=(0:Rx) n:=uI;rw[pn,lL]at a;rcases yw.1 a with a|a
 .have:n+1=0:=by exact_mod_cast a
  omega
 .exact f a
def Lo{Q}:sz (bt Q)<=sz Q-1:=tm λi a=>by rw[pn,lN O,fO]
def bl.G3{Q}(a:bl Q):¬Q∣bt Q:=λd=>by have e:=a.1;have f:=Lo (Q:=Q);exact ajV e<|uO d O
def Mo(a:Rx):Prop:=a (sz a-1)=1
def Mo.ne{a}(d:Mo a):a≠0:=λe=>by subst e;have f:(0:D)=1:=d;exact absurd f T
def Mo.at{a}(d:Mo a){n}(e:sz a=n+1):a n=1:=by have:=d;rwa[Mo,e,eh]at this
def Yu{a B}{m n}(e:sz a=m+1)(f:sz B=n+1):(a*B) (m+n)=a m*B n:=Az (λi d=>lN O)<|λi d=>lN O
def Dw{a}(d:a≠0):∃n,sz a=n+1:=⟨sz a-1,by have:=eO d;omega⟩
def Mo.mul{a B}(d:Mo a)(k:Mo B):Mo (a*B):=by let ⟨m,hm⟩:=Dw d.ne;let ⟨n,e⟩:=Dw k.ne;have f:=dK d.ne k.ne;rw[Mo,(O:sz (a*B)-1=m+n),Yu hm e,d.at hm,k.at e,rQ]
def Mo.yy{a B}(d:Mo (a*B))(k:Mo B):Mo a:=by
 have f:a≠0:=λe=>d.ne GV
 let ⟨m,hm⟩:=Dw f;let ⟨n,g⟩:=Dw k.ne;have l:=dK f k.ne;have i:=d.at (n:=m+n) O;rw[Yu hm g,k.at g,tn]at i;rw[Mo,hm];exact i
def Yv:Mo 1:=by have:sz (1:Rx)=1:=qF;rw[Mo,this];rfl
def Mo.pk{a:Rx}(d:Mo a):∀n,Mo (pk a n)
 |0=>Yv
 |n+1=>(Mo.pk d n).mul d
def Mo.unit{a}(e:Mo a)(d:sz a=1):a=1:=by obtain⟨c,g,rfl⟩:=Dt d;have f:=e.at d;rw[show c=1 from f];rfl
def Mo.eq{a B}(d:Mo a)(k:Mo B)(e:a∣B)(g:B∣a):a=B:=by have l:=iK e k.ne;have m:=iK g d.ne;obtain⟨w,rfl⟩:=e;have f:Mo w:=k.yy d;have n:=dK f.ne d.ne;have i:w=1:=f.unit O;rw[i,one_mul]
def Yw{a}(f:a≠0):∃g:D,g≠0/\Mo (K g*a):=by
 let ⟨n,k⟩:=Dw f;have i:=GS k;have d:(a n)⁻¹ ≠0:=λe=>by have:=mA _ i;rw[e,qB]at this;exact absurd this T
 refine⟨(a n)⁻¹,d,?_⟩;have l:=dK (uM d) f;rw[uQ d]at l;rw[Mo,(O:sz (K (a n)⁻¹ *a)-1=n),fZ,mA _ i]
def bl.smul{Q}(h:bl Q){d}(f:d≠0):bl (K d*Q):=by
 have i:=dK (uM f) h.ne;rw[uQ f]at i;refine⟨Av,λA B e=>?_⟩;have k:Q=(K d⁻¹ *A)*B:=by rw[mul_assoc,<-e,<-mul_assoc,pa f,one_mul]
 rcases h.2 _ _ k with g|g
 .left;have a:d⁻¹ ≠0:=λe=>by have:=mA _ f;rw[e,qB]at this;exact absurd this T
  have l:A≠0:=λm=>by rw[m,mul_zero,kh]at g;omega
  have:=dK (uM a) l;rw[uQ a]at this;omega
 .exact .inr g
def bl.assoc{Q q}(a:bl Q)(k:bl q)(d:Q∣q):q∣Q:=by
 let ⟨w,hw⟩:=d;rcases k.2 _ _ hw with e|e
 .let ⟨C,f⟩:=uN e;exact⟨C,by rw[hw,<-mul_assoc,f,one_mul]⟩
 .have:=a.1;omega
def bl.eq{Q q}(d:bl Q)(k:bl q)(e:Mo Q)(f:Mo q)(a:Q∣q):Q=q:=e.eq f a<|d.assoc k a
def mult{Q:Rx}(d:bl Q):∀(n:Y)(F:Rx),sz F<n->F≠0->∃e a,F=pk Q e*a/\¬Q∣a
 |0,_,a,_=>by omega
 |n+1,F,a,l=>by
  by_cases f:Q∣F
  .obtain⟨i,rfl⟩:=f;have k:i≠0:=λe=>l GV
   have o:=dK k d.ne;have p:=d.1;obtain⟨e,g,rfl,m⟩:=mult d n i O k;exact⟨e+1,g,by rw[pk];ac_rfl,m⟩
  .exact⟨0,F,(one_mul F).symm,f⟩
def bl.pk{Q f:Rx}(a:bl Q):∀{n:Y},Q∣pk f n->0<n/\Q∣f
 |0,d=>absurd d a.AI
 |n+1,d=>by
  rcases a.na d with e|e
  .exact⟨O,(bl.pk a e).2⟩
  .exact⟨O,e⟩
structure FL(L:V (Rx×Y)):Prop where
 fI:∀x∈L,bl x.1
 mo:∀x∈L,Mo x.1
 pos:∀x∈L,1<=x.2
 AJ:L.Pairwise (λx a=>x.1≠a.1)
def FL.tail{x}{L}(a:FL (x::L)):FL L:=⟨λy hy=>a.fI y tq,λy hy=>a.mo y tq,λy hy=>a.pos y tq,(jr.1 a.AJ).2⟩
def FL.Q2:∀{L:V (Rx×Y)},L.Pairwise (λx i=>x.1≠i.1)->∀{x d:Rx×Y},x∈L->d∈L->x≠d->x.1≠d.1
 |i::L,n,x,d,hx,k,e=>by
  let ⟨l,h2⟩:=jr.1 n;rcases bX.1 hx with m|f
  .rcases bX.1 k with g|a
   .exact absurd (m.trans g.symm) e
   .rw[m];exact l d a
  .rcases bX.1 k with g|a
   .rw[g];exact(l x f).symm
   .exact FL.Q2 h2 f a e
def pF(a:Y->Y):V (Rx×Y)->Rx
 |[]=>1
 |x::L=>pk x.1 (a x.2)*pF a L
def AK(a d:Y->Y):∀L,pF (λm=>a m+d m) L=pF a L*pF d L
 |[]=>(one_mul 1).symm
 |x::L=>by rw[pF,pF,pF,AK a d L,yv];ac_rfl
def wM{a d:Y->Y}:∀{L:V (Rx×Y)},(∀x∈L,a x.2=d x.2)->pF a L=pF d L
 |[],_=>rfl
 |x::L,e=>by rw[pF,pF,e x ax,wM<|λf hy=>e f tq]
def uS{d:Y->Y}:∀{L:V (Rx×Y)},(∀x∈L,Mo x.1)->Mo (pF d L)
 |[],_=>Yv
 |x::L,a=>((a x ax).pk _).mul<|uS λe hy=>a e tq
def Lp{a:Y->Y}:∀{L:V (Rx×Y)},(∀x∈L,a x.2=0)->pF a L=1
 |[],_=>rfl
 |x::L,d=>by rw[pF,d x ax,Lp<|λe hy=>d e tq];exact one_mul 1
def G4{c:Y->Y}:∀{L:V (Rx×Y)}{x:Rx×Y},x∈L->0<c x.2->x.1∣pF c L
 |f::L,x,a,hc=>by
  rw[pF];rcases bX.1 a with rfl|a
  .obtain⟨e,d⟩:∃e,c x.2=e+1:=⟨c x.2-1,O⟩;rw[d,pk];exact kN (dvd_mul_left _ _) _
  .exact dI (G4 a hc) _
def yz{f:Y->Y}{Q:Rx}(a:bl Q):∀{L:V (Rx×Y)},Q∣pF f L->∃x∈L,0<f x.2/\Q∣x.1
 |[],d=>absurd d a.AI
 |g::L,d=>by
  rcases a.na d with e|e
  .exact⟨g,ax,a.pk e⟩
  .let ⟨x,h1,h2⟩:=yz a e;exact⟨x,yA,h2⟩
def FL.ajW{x}{L}(a:FL (x::L)){d:Y->Y}:¬x.1∣pF d L:=λe=>by let ⟨y,h1,h2,f⟩:=yz (a.fI x ax) e;exact(jr.1 a.AJ).1 y h1<|(a.fI x ax).eq (a.fI y yA) (a.mo x ax) (a.mo y yA) f
def FL.G3{i:Y->Y}(l:∀m,i m<=1):∀{L:V (Rx×Y)},FL L->∀{x:Rx×Y},x∈L->i x.2=1->¬x.1∣bt (pF i L)
 |f::L,a,x,hx,n,g=>by
  have k:=a.fI f ax;rcases bX.1 hx with rfl|d
  .rw[pF,n,qE,uR]at g;rcases k.na (wI ((add_comm _ _).symm▸g)<|dvd_mul_right _ _)with e|e
   .exact k.G3 e
   .exact a.ajW e
  .have o:=FL.G3 l a.tail d n;have p:=a.fI x hx;by_cases q:i f.2=0
   .rw[pF,q]at g;exact o (by rwa[show pk f.1 0=1 from J,one_mul]at g)
   .have s:i f.2=1:=by have:=l f.2;omega
    rw[pF,s,qE,uR]at g;rcases p.na (wI g<|dI (G4 d O) _)with e|e
    .exact(jr.1 a.AJ).1 x d (p.eq k (a.mo x hx) (a.mo f ax) e).symm
    .exact o e
def Yx:∀(n:Y)(F:Rx),sz F<n->Mo F->∃L,FL L/\pF id L=F
 |0,_,H,_=>by omega
 |n+1,F,H,k=>by
  have U:=eO k.ne;by_cases e:sz F=1
  .exact⟨[],⟨ax,ax,ax,.nil⟩,(k.unit e).symm⟩
  .let ⟨Q,o,C⟩:=rR _ F (dJ _) O;let ⟨c,hc,hm⟩:=Yw o.ne;have m:=o.smul hc;have p:K c*Q∣F:=dvd_trans (o.assoc m<|dvd_mul_left _ _) C;generalize K c*Q=q at*;let ⟨e,g,l,t⟩:=mult m _ F (dJ _) k.ne;have P:1<=e:=by
    rcases oW e with d|d
    .subst d;rw[show pk q 0=1 from J,one_mul]at l;exact absurd (l▸p) t
    .exact d
   have u:Mo g:=by rw[l,mul_comm]at k;exact k.yy<|hm.pk e
   have W:sz g<sz F:=by have v:=dK (hm.pk e).ne u.ne;rw[<-l]at v;obtain⟨f,rfl⟩:∃f,e=f+1:=⟨e-1,O⟩;have i:=dK (hm.pk f).ne hm.ne;have s:=eO (hm.pk f).ne;have X:=m.1;rw[show pk q (f+1)=pk q f*q from J]at v;omega
   let ⟨L,i,s⟩:=Yx n g O u;refine⟨(q,e)::L,⟨?_,?_,?_,jr.2 ⟨λy B d=>?_,i.AJ⟩⟩,?_⟩
   .intro x a;rcases bX.1 a with rfl|a
    .exact m
    .exact i.fI x a
   .intro x a;rcases bX.1 a with rfl|a
    .exact hm
    .exact i.mo x a
   .intro x a;rcases bX.1 a with rfl|a
    .exact P
    .exact i.pos x a
   .refine t ?_;rw[<-s];have d:q=y.1:=d;rw[d];exact G4 B<|i.pos y B
   .rw[pF,s];exact l.symm
structure G5(D a B:Rx):Prop where
 mo:Mo D
 l:D∣a
 r:D∣B
 ex:∃U V,D=U*a+V*B
def kW(n:Y):Y->Y:=λm=>if n<=m then 1 else 0
def kP(n:Y):Y->Y:=λm=>if m=n then 1 else 0
def kG:Y->Y:=λm=>m-1
def Yy n:∀m,kW n m<=1:=λm=>by unfold kW;split<;>omega
def G6 n:∀m,kP n m<=1:=λm=>by unfold kP;split<;>omega
def Lq{n m}:kW n m=1↔n<=m:=by unfold kW;split<;>omega
def Q3{n m}:kP n m=1↔m=n:=by unfold kP;split<;>omega
def Q4 n L:pF (kW n) L=pF (kP n) L*pF (kW<|n+1) L:=by rw[<-AK];exact wM λx _=>by unfold kW kP;split<;>split<;>split<;>omega
def Q5{L}(a:FL L):pF id L=pF (kW 1) L*pF kG L:=by rw[<-AK];exact wM λx d=>by have:=a.pos x d;show x.2=kW 1 x.2+kG x.2;unfold kW kG;split<;>omega
def Yp(L:V (Rx×Y))(n:Y)(a:Rx):Prop:=∀x∈L,n<=x.2->x.1∣a-K ((x.2:D)-(n:D)+1)*bt (pF (kW n) L)
def Yz:∀{L:V (Rx×Y)},FL L->∃a,bt (pF id L)=a*pF kG L/\∀x∈L,x.1∣a-K (x.2:D)*bt (pF (kW 1) L)
 |[],_=>⟨0,by rw[zero_mul];exact ajU,λx hx=>by simp at hx⟩
 | (q,m)::L,d=>by
  let ⟨a,i,h2⟩:=Yz d.tail;have p:1<=m:=d.pos (q,m) ax;obtain⟨e,rfl⟩:∃e,m=e+1:=⟨m-1,O⟩;have k:pF (kW 1) ((q,e+1)::L)=q*pF (kW 1) L:=by rw[pF,Lq.2 O,qE]
  have l:pF kG ((q,e+1)::L)=pk q e*pF kG L:=rfl;have n:pF id ((q,e+1)::L)=pk q e*q*pF id L:=rfl;refine⟨K ((e+1:Y):D)*bt q*pF (kW 1) L+q*a,?_,?_⟩
  .rw[n,l,uR,i,show pk q e*q=pk q (e+1)from J,G0,Q5 d.tail,show pk q (e+1)=pk q e*q from J,add_mul];ac_rfl
  .intro x hx;rw[k,uR];rcases bX.1 hx with rfl|hx
   .refine⟨a-K ((e+1:Y):D)*bt (pF (kW 1) L),?_⟩;show K ((e+1:Y):D)*bt q*pF (kW 1) L+q*a-K ((e+1:Y):D)*(bt q*pF (kW 1) L+q*bt (pF (kW 1) L))=_;rw[sub_mul];refine sub_eq ?_;rw[mul_add];have f:a*q-K ((e+1:Y):D)*bt (pF (kW 1) L)*q+(K ((e+1:Y):D)*(bt q*pF (kW 1) L)+K ((e+1:Y):D)*(q*bt (pF (kW 1) L)))=(a*q-K ((e+1:Y):D)*bt (pF (kW 1) L)*q+K ((e+1:Y):D)*bt (pF (kW 1) L)*q)+K ((e+1:Y):D)*(bt q*pF (kW 1) L):=fq;rw[f,kM];ac_rfl
   .have o:=h2 x hx;have g:x.1∣pF (kW 1) L:=G4 hx (by rw[Lq.2 (d.pos x lA)];omega);rw[mul_add,Ll];refine dvd_add (dvd_sub (dI g _)<|dI (dI g _) _) ?_;have f:q*a-K (x.2:D)*(q*bt (pF (kW 1) L))=q*(a-K (x.2:D)*bt (pF (kW 1) L)):=by rw[mul_sub];congr 1;ac_rfl
    rw[f];exact dI o q
def wN{m:Y}(a:m≠0):(m:D)≠0:=λe=>a (by exact_mod_cast e)
def ajX{L}(a:FL L){g}(o:G5 g (pF id L) (bt<|pF id L)):g=pF kG L/\∃f,bt (pF id L)=f*g/\Yp L 1 f:=by
 let ⟨f,k,h2⟩:=Yz a;have i:=Q5 a;have l:Co (pF (kW 1) L) f:=Du (uS a.mo).ne λQ n q1 p=>by let ⟨x,d,B,q⟩:=yz n q1;have s:=dvd_trans (n.assoc (a.fI x d) q) p;have t:=ajP (m9<|h2 x d) s;exact FL.G3 (Yy 1) a d (Lq.2<|a.pos x d)<|ajT (wN<|by have:=a.pos x d;omega) t
 let ⟨u,v,m⟩:=l;let ⟨d1,d2,d3,U,V,d4⟩:=o;have e:g=pF kG L:=by
  refine d1.eq (uS a.mo) ?_ ?_
  .have:pF kG L=u*pF id L+v*bt (pF id L):=by rw[i,<-i,k,<-mul_assoc,i,<-mul_assoc,<-add_mul,m,one_mul]
   rw[this];exact dvd_add (dI d2 _)<|dI d3 _
  .rw[d4,k];refine dvd_add (dI ?_ _)<|dI (dvd_mul_left _ _) _;rw[i];exact dvd_mul_left _ _
 refine⟨e,f,by rw[e];exact k,λx d _=>?_⟩;rw[show(x.2:D)-((1:Y):D)+1=(x.2:D)by show(x.2:D)-1+1=_;grind];exact h2 x d
end Rx
namespace Rx
def Q6(l:V D):∀n,jx l n<=n/\(∀i,jx l n<=i->i<n->E l i 0=0)/\(jx l n=0\/E l (jx l n-1) 0≠0)
 |0=>⟨aW _,λi _ a=>absurd a O,.inl J⟩
 |n+1=>by
  rw[jx];split
  .rename_i a;let ⟨f,d,g⟩:=Q6 l n;refine⟨O,λi k m=>?_,g⟩;by_cases e:i=n
   .subst e;exact Rat.num_eq_zero.1 a
   .exact d i k O
  .rename_i a;exact⟨aW _,λi f d=>absurd d O,.inr λe=>a<|by rw[eh]at e;rw[e];rfl⟩
def Dx(a:V D) n i:(h n a).getD i 0=if i<n then E a i 0 else 0:=by
 rw[aM,EW];split
 .rw[aM]
 .rfl
def YA{l}{n}(a:∀i,n<=i->E l i 0=0):lx (h n l)=lx l:=ext λi=>by
 rw[gC,gC,Dx];split
 .rfl
 .exact(a i O).symm
def rU l:lx (eT l)=lx l:=YA λi a=>by
 by_cases e:i<Z l
 .exact(Q6 l<|Z l).2.1 i a e
 .exact iJ l O
def kO l:bF (eT l):=by
 let ⟨f,h2,a⟩:=Q6 l<|Z l;have d:Z (eT l)=jx l (Z l):=QO;rcases a with a|a
 .exact .inl<|fE O
 .by_cases e:jx l (Z l)=0
  .exact .inl<|fE O
  .right;rw[d];unfold eT;rw[Dx,ao O];exact a
def bF.ne{a}(d:bF a)(e:a≠[]):E a (Z a-1) 0≠0:=d.resolve_left e
def yB{a}(d:bF a)(f:a≠[]):lx a≠0:=λe=>f<|ph d wJ<|e.trans nF.symm
def YB d a:lx (qC d a)=K d*lx a:=ext λi=>by rw[fZ];exact Yc d a i
def ajY a:lx (rP a)=bt (lx a):=ext λi=>by
 rw[pn,gC,gC];by_cases h:i<Z a-1
 .rw[Yd h];rfl
 .rw[iJ (rP a) (by rw[QL];omega),iJ a O,fO]
def G7{r b}a{k}(f:k+Z b<=Z r):lx (iX r a b k)=lx r+K a*(X k*lx b):=ext λi=>by
 rw[eI,fZ,mq,gC,gC];by_cases d:i<Z r
 .rw[show E (iX r a b k) i 0=_ from tf d];by_cases e:k<=i/\i<k+Z b
  .rw[ao e,ao e.1];rfl
  .rw[w e];split
   .rw[gC,iJ b O,fO,nD]
   .rw[fO,nD]
 .rw[iJ (iX r a b k) (by rw[iX,mu];omega),iJ r O];split
  .rw[gC,iJ b O,fO,nD]
  .rw[fO,nD]
def ajZ a d e:lx (wF a d e)=lx a+K d*lx e:=by unfold wF;rw[G7 d (by rw[Lf O];omega),ajQ,one_mul];congr 1;exact ext λi=>Ye a _ i
def aj0{l}{k}t(a:k<Z l)(d:E l k 0=0):lx (l.set k t)=lx l+K t*X k:=ext λi=>by
 rw[eI,fZ,Dr,gC,gC,AB i t a];by_cases e:k=i
 .subst e;rw[ao J,ao J,d];grind
 .rw[w e,w<|λa=>e a.symm];grind
def Q7{a b:V D}{n m:Y}(p:Z b=n+1)(s:Z a=n+m)(t:E b n 0≠0):∀d,d<=m->
  lx a=lx (dm (E b n 0)⁻¹ a b n m d).1*lx b+lx (dm (E b n 0)⁻¹ a b n m d).2/\(∀i,i<m-d->(dm (E b n 0)⁻¹ a b n m d).1.getD i 0=0)/\(∀i,n+(m-d)<=i->(dm (E b n 0)⁻¹ a b n m d).2.getD i 0=0)
 |0,_=>by have f:∀i,E (bg m (0:D)) i 0=0:=GO m;refine⟨?_,λi _=>f i,λi g=>iJ a O⟩;show lx a=lx (bg m 0)*lx b+lx a;rw[show lx (bg m (0:D))=0 from ext f,zero_mul,zero_add]
 |d+1,v=>by
  let ⟨l,h2,o⟩:=Q7 p s t d O;let ⟨l1,l2⟩:=wG (E b n 0)⁻¹ a b n m d;rw[dm];generalize dm (E b n 0)⁻¹ a b n m d=x at*;let ⟨q,r⟩:=x;simp only at l h2 o l1 l2⊢;refine⟨?_,λi g=>?_,λi g=>?_⟩
  .rw[aj0 _ O (h2 _ O),G7 _ O,l,add_mul,QR,neg_mul,mul_assoc (K _)<|X _];generalize K (E r (m-1-d+n) 0*(E b n 0)⁻¹)*(X (m-1-d)*lx b)=u;rw[add_assoc,<-add_assoc u,add_comm u,add_assoc<|lx r,add_neg,add_zero]
  .rw[AB i _ O,w O,h2 i O]
  .have:=a6 (λA:Rx=>A i)<|G7 (r:=r) (b:=b) (-(E r (m-1-d+n) 0*(E b n 0)⁻¹)) (k:=m-1-d) O;simp only[eI,fZ,mq,gC]at this;rw[this,ao O];by_cases e:i=m-1-d+n
   .subst e;rw[(O:m-1-d+n-(m-1-d)=n)];grind
   .rw[o i O,iJ b (i:=i-(m-1-d)) O];grind
def dO(a d:V D):V D:=if Z a<Z d then[]else eT (dm (E d (Z d-1) 0)⁻¹ a d (Z d-1) (Z a+1-Z d) (Z a+1-Z d)).1
def Dy a d:bF (dO a d):=by
 unfold dO;split
 .exact wJ
 .exact kO _
def Q8 a d:Z (dO a d)<=Z a+1-Z d:=by
 unfold dO;split
 .exact a8 _
 .refine bQ (AF _) ?_;rw[(wG ..).1];exact aW _
def Lr{a d}(f:bF d)(e:d≠[]):lx a=lx (dO a d)*lx d+lx (cN a d):=by
 have l:=cv.2 e;unfold dO cN;by_cases h:Z a<Z d
 .rw[ao h,ao h,nF,zero_mul,zero_add]
 .rw[w h,w h,rU,rU];let ⟨g,_,k⟩:=Q7 (a:=a) (b:=d) (n:=Z d-1) (m:=Z a+1-Z d) O O (f.ne e) _<|aW _;rw[YA (λi o=>k i O)];exact g
def rV{a b}(d:bF a):bF (cN a b):=by
 unfold cN;split
 .exact d
 .exact kO _
def yC{a d}(k:bF a)(g:bF d)(e:d≠[])(i:lx d∣lx a):lx a=lx (dO a d)*lx d:=by
 have f:=Lr (a:=a) g e;have l:lx (cN a d)=0:=by
  refine uO (A:=lx d) ?_ ?_
  .rw[f]at i;exact wI i<|dvd_mul_left _ _
  .rw[fj (rV k),fj g];exact o8 e
 rw[l,add_zero]at f;exact f
def po a:bF (da a):=by
 unfold da;split
 .exact wJ
 .exact kO _
def uT{a}(d:a≠[]):lx (da a)=K (E a (Z a-1) 0)⁻¹ *lx a:=by rw[da,w d,rU,YB]
def G8:da []=[]:=ao J
def qG{a:D}(d:a≠0):a⁻¹ ≠0:=λe=>by have:=mA _ d;rw[e,qB]at this;exact absurd this T
def YC{a}(e:bF a)(d:a≠[]):Mo (lx<|da a):=by have g:=cv.2 d;have f:=dK (uM<|qG<|e.ne d)<|yB e d;rw[uQ (qG<|e.ne d),fj e]at f;rw[uT d,Mo,fZ,(O:sz (K (E a (Z a-1) 0)⁻¹ *lx a)-1=Z a-1),gC,mA _<|e.ne d]
def AL{a}(e:bF a):Z (da a)=Z a:=by
 by_cases d:a=[]
 .subst d;rw[G8]
 .have f:=dK (uM<|qG<|e.ne d)<|yB e d;rw[uQ (qG<|e.ne d),fj e,<-uT d,fj<|po a]at f;omega
def YD a:lx a∣lx (da a)/\(bF a->lx (da a)∣lx a):=by
 by_cases d:a=[]
 .subst d;rw[G8];exact⟨dvd_refl _,λ_=>dvd_refl _⟩
 .rw[uT d];refine⟨dvd_mul_left _ _,λh=>⟨K<|E a (Z a-1) 0,?_⟩⟩;rw[<-mul_assoc,mul_comm (K _)<|K _,pa<|h.ne d,one_mul]
def Q9:∀(k:Y)(a d:V D),bF a->bF d->Z d<k->bF (eJ k a d)/\lx (eJ k a d)∣lx a/\lx (eJ k a d)∣lx d/\∃U f,lx (eJ k a d)=U*lx a+f*lx d
 |0,_,_,_,_,n=>by omega
 |k+1,a,d,g,i,n=>by
  rw[eJ];split
  .rename_i e;subst e;exact⟨g,dvd_refl _,by rw[nF];exact dvd_zero _,1,0,by rw[one_mul,zero_mul,add_zero]⟩
  .rename_i e;have p:=o8 (a:=a) e;have l:=rV (b:=d) g;have m:=Lr (a:=a) i e;let ⟨i1,i2,i3,U,f,i4⟩:=Q9 k d (da<|cN a d) i (po _) (by rw[AL l];omega);let ⟨d1,d2⟩:=YD<|cN a d;let ⟨w,hw⟩:=d1;have o:=dvd_trans i3<|d2 l;refine⟨i1,by rw[m];exact dvd_add (dI i2 _) o,i2,f*w,U-f*w*lx (dO a d),?_⟩;rw[i4,hw,m,mul_add,sub_mul];have:f*w*(lx (dO a d)*lx d)+f*w*lx (cN a d)+(U*lx d-f*w*lx (dO a d)*lx d)=(U*lx d-f*w*lx (dO a d)*lx d+f*w*lx (dO a d)*lx d)+f*(w*lx (cN a d)):=fq;rw[this,kM]
def YE{k}{a d}(i:bF a)(l:bF d)(m:Z d<k)(n:a≠[]):eJ k a d≠[]/\bF (da<|eJ k a d)/\G5 (lx<|da<|eJ k a d) (lx a) (lx d):=by
 let ⟨g,h2,o,U,V,p⟩:=Q9 k a d i l m;have f:eJ k a d≠[]:=λe=>by rw[e,nF]at h2;let ⟨w,hw⟩:=h2;rw[mul_zero]at hw;exact yB i n hw
 let ⟨d1,d2⟩:=YD<|eJ k a d;let ⟨w,hw⟩:=d1;refine⟨f,po _,YC g f,dvd_trans (d2 g) h2,dvd_trans (d2 g) o,w*U,w*V,?_⟩;rw[hw,p,mul_add,mul_assoc,mul_assoc]
end Rx
def AM(xs:V D)(i:Z xs<=1000000):r z 62 [N .q xs] (N .q<|eT xs):=by
 refine aJ Tryz.func62 ?_;refine I J<|I J ?_;refine M<|ay<|bf (α:=Y) (λk=>⟨[(0,N .q xs),(3,y k)],[],2,[]⟩) (λk=>k<=Z xs/\jx xs k=jx xs (Z xs)) (λk=>k) (Z xs) ⟨aW _,J⟩ aU ?_;rintro k ⟨l,a⟩;have f:jx xs k=k->bm (N .q<|h k xs) (N .q<|eT xs):=λe=>by refine bm.of_eq ?_;unfold eT;rw[<-a,e]
 refine M<|R ?_;refine rg 8 J J (λd=>?_)<|λd=>?_
 .have d:0<k:=by have d:(k:G)>0:=aT d;omega
  obtain⟨j,rfl⟩:∃j,k=j+1:=⟨k-1,O⟩;have g:af (((j+1:Y):G)-1)=j:=O;refine fX J J J J J (PL<|E xs (af<|((j+1:Y):G)-1) 0) (re J ?_) (hp:=jJ);refine c J (λh2=>?_)<|λh2=>?_
  .have h2:(E xs j 0).num=0:=by have h2:eS (E xs (af<|((j+1:Y):G)-1) 0).num=0:=eq_of_beq h2;rw[g]at h2;exact uH.1 h2
   refine aD<|ay<|rt J (eL<|aS j ⟨O,?_⟩ rK<|wk ⟨sR J,sE J ?_,A⟩ A) (hp:=jJ)
   .rw[<-a,jx,ao h2]
   .exact iz (O:((j+1:Y):G)-1=(j:G))
  .have h2:(E xs j 0).num≠0:=by have h2:eS (E xs (af<|((j+1:Y):G)-1) 0).num≠0:=m5 h2;rw[g]at h2;exact λe=>h2 (uH.2 e)
   exact bh<|aI<|I J (bI<|g7 cj J<|f<|by rw[jx,w h2]) (hp:=aF)
 .have d:k=0:=by have d:¬(k:G)>0:=a4 d;omega
  subst d;exact re J<|c J (λh2=>oZ)<|λ_=>bh<|aI<|I J (bI<|g7 cj J<|f J) (hp:=aF)
def YF(a:V D)(i:Y):r z 89 [N .q a,y i] (aQ<|E a i 0):=by
 refine aJ Tryz.func89 ?_;refine I J<|M<|I J<|c J (λh=>?_)<|λh=>?_
 .have h:i<Z a:=by have h:(i:G)<(Z a:G):=aT h;omega
  refine I J (hp:=aF)<|bI<|cG<|eB J ?_;rfl
 .have h:¬i<Z a:=by have h:¬(i:G)<(Z a:G):=a4 h;omega
  refine aD<|bw J J (CZ 0 T T) J<|bO J ?_;rw[Rx.iJ a O];rfl
def aj1(xs:V D)(l:Z xs<=1000000):Lg z 62 [.c (.X 2002000)] [(2002000,.vec 44 .q xs)] (N .q<|eT xs):=by
 refine ajK 3 Tryz.func62 J J J (λm g=>by rw[iU.1 g];decide) (KI.of J) J T ?_;refine dW (Fb 2002000 J) ?_;refine I J<|I J ?_;refine M<|ay<|bf (α:=Y) (λk=>⟨[(0,N .q xs),(3,y k)],[],5,[]⟩) (λk=>k<=Z xs/\jx xs k=jx xs (Z xs)) (λk=>k) (Z xs) ⟨aW _,J⟩ aU ?_;rintro k ⟨n,a⟩;have f:jx xs k=k->bm (N .q<|h k xs) (N .q<|eT xs):=λe=>by refine bm.of_eq ?_;unfold eT;rw[<-a,e]
 refine M<|R ?_;refine rg 8 J J (λd=>?_)<|λd=>?_
 .have d:0<k:=by have d:(k:G)>0:=aT d;omega
  obtain⟨j,rfl⟩:∃j,k=j+1:=⟨k-1,O⟩;have i:af (((j+1:Y):G)-1)=j:=O;refine fX J J J J J (PL<|E xs (af<|((j+1:Y):G)-1) 0) (re J ?_) (hp:=jJ);refine c J (λh2=>?_)<|λh2=>?_
  .have h2:(E xs j 0).num=0:=by have h2:eS (E xs (af<|((j+1:Y):G)-1) 0).num=0:=eq_of_beq h2;rw[i]at h2;exact uH.1 h2
   refine aD<|ay<|rt J (eL<|aS j ⟨O,?_⟩ rK<|wk ⟨sR J,sE J ?_,A⟩ A) (hp:=jJ)
   .rw[<-a,jx,ao h2]
   .exact iz (O:((j+1:Y):G)-1=(j:G))
  .have h2:(E xs j 0).num≠0:=by have h2:eS (E xs (af<|((j+1:Y):G)-1) 0).num≠0:=m5 h2;rw[i]at h2;exact λe=>h2 (uH.2 e)
   exact bh<|aI<|I J (bI<|Yi cj J<|f<|by rw[jx,w h2]) (hp:=aF)
 .have d:k=0:=by have d:¬(k:G)>0:=a4 d;omega
  subst d;exact re J<|c J (λh2=>oZ)<|λ_=>bh<|aI<|I J (bI<|Yi cj J<|f J) (hp:=aF)
def iC(a:V D):V D:=eT<|0::a
def Q'(a:V D)(d:Z a<=1000):r z 88 [N .q a] (N .q<|iC a):=by
 refine aJ Tryz.func88 ?_;refine I J<|R<|rc J J (CZ 0 T T)<|fM .q [((0:G):D)] J J (j J ?_);refine R<|ra J J J J J J J J J ?_ ?_<|rcc (conc:=[]) (fm:=[(2002000,.vec 44 .q<|((0:G):D)::a)]) J J (aj1 _ Ls) (λe b h=>rfl)<|j J<|cJ J
 .show(1+Z a+(1+Z a)/4+192)*64<=_;omega
 .show(1+Z a)*4<=_;omega
def kQ(a d:V D):V D:=eT<|(cd<|max (Z a)<|Z d).map λi=>E a i 0+E d i 0
def gW(d:D)(a:V D):V D:=eT<|(cd<|Z a).map λi=>d*E a i 0
def Ra(f:Y->D) i:(cd<|i+1).map f=(cd i).map f++[f i]:=by rw[zt,fo];rfl
def Lt{k}d a(o:Z a<=1000)(f:QS k d)(g:∀i,QS k (E a i 0))(l:k<=100000000000):r z 43 [aQ d,N .q a] (N .q<|gW d a):=by
 refine aJ Tryz.func43 ?_;refine I J<|R<|fM .q [] J J (j J<|M<|I J ?_);refine ay<|bf (α:=Y) (λi=>⟨[(1,N .q a),(2,.c<|.P 0 0),(5,.c<|.X 1000000),(6,y i)],[(0,.box 44 0<|av .q d),(1000000,.vec 44 .q<|(cd i).map λi=>d*E a i 0)],10,[]⟩) (λi=>i<=Z a) (λi=>Z a-i) 0 (a8 _) (wk ⟨sR J,sR J,sR J,sE J J,A⟩<|vO J) ?_;intro i p;have m:Z ((cd i).map λi=>d*E a i 0)=i:=ax;refine M<|I J<|c J (λh=>?_)<|λh=>?_
 .have h:i<Z a:=by have h:(i:G)<(Z a:G):=aT h;omega
  have n:af ((i:G))=i:=b6 i;have e:=QG d (E a (af<|(i:G)) 0) f (g _) l;refine aD<|M<|ay<|cA ?_;refine rc J J e ?_ (hp:=aF);refine rl .q [d*E a (af<|(i:G)) 0] J J (ra J J J J J J J J J ?_ ?_<|j J<|eL<|aI<|rt J (hp:=aF)<|aS (i+1) h (O:Z a-(i+1)<Z a-i)<|Wk.trans (wk (st':=⟨[(1,N .q a),(2,.c<|.P 0 0),(5,.c<|.X 11008000),(6,y (i+1:Y))],[(0,.box 44 0<|av .q d),(11008000,.vec 44 .q<|(cd<|i+1).map λi=>d*E a i 0)],13,[]⟩) (bJ J) ⟨bR J,bE J ?_,A⟩)<|Wk.trans (gw 1000000 11008000 J J J) aU)
  .show(Z ((cd i).map λi=>d*E a i 0)+1+(Z ((cd i).map λi=>d*E a i 0)+1)/4+192)*64<=_;omega
  .show(Z ((cd i).map λi=>d*E a i 0)+1)*4<=_;omega
  .rw[Ra,n]
 .have h:i=Z a:=by have h:¬(i:G)<(Z a:G):=a4 h;omega
  subst h;exact mU<|qe<|nv<|mV<|aI<|dW (Fb 1000000 J)<|R<|rc J J (AM _ O)<|j J<|bI<|atR J
def G9{k}a d(p:Z a<=1000)(s:Z d<=1000)(g:∀i,QS k (E a i 0))(l:∀i,QS k (E d i 0))(m:k<=100000000000):r z 36 [N .q a,N .q d] (N .q<|kQ a d):=by
 refine aJ Tryz.func36 ?_;refine I J<|R<|fM .q [] J J (j J<|jg<|I J ?_);obtain⟨M,f⟩:∃M,M=max (Z a) (Z d):=⟨_,J⟩;have n:(if(Z a:G)<(Z d:G)then(Z d:G)else(Z a:G))=(M:G):=by rw[f];split<;>omega
 refine ay<|bf (α:=Y) (λi=>⟨[(0,N .q a),(1,N .q d),(5,.c<|.X 1000000),(6,y i)],[(1000000,.vec 44 .q<|(cd i).map λi=>E a i 0+E d i 0)],10,[]⟩) (λi=>i<=M) (λi=>M-i) 0 (a8 _) (wk ⟨sR J,sR J,sR J,sE J J,A⟩ ⟨bR J,A⟩) ?_;intro i t;have o:Z ((cd i).map λi=>E a i 0+E d i 0)=i:=ax;refine jg<|I J<|c J (λh=>?_)<|λh=>?_
 .have h:i<M:=by have h:(i:G)<_:=aT h;rw[ao J]at h;split at h<;>omega
  have e:=ajo (E a i 0) (E d i 0) (g i) (l i) m;refine aD<|jg<|ay<|cA ?_;refine rc J J (YF a i)<|rc J J (YF d i)<|rc J J e ?_;refine rl .q [E a i 0+E d i 0] J J (ra J J J J J J J J J ?_ ?_<|j J<|eL<|aI<|rt J (hp:=aF)<|aS (i+1) h wc<|Wk.trans (wk (st':=⟨[(0,N .q a),(1,N .q d),(5,.c<|.X 11009000),(6,y (i+1:Y))],[(11009000,.vec 44 .q<|(cd<|i+1).map λi=>E a i 0+E d i 0)],13,[]⟩) (bJ J) ⟨bE J ?_,A⟩)<|Wk.trans (gw 1000000 11009000 J J J) aU)
  .show(Z ((cd i).map λi=>E a i 0+E d i 0)+1+(Z ((cd i).map λi=>E a i 0+E d i 0)+1)/4+192)*64<=_;omega
  .show(Z ((cd i).map λi=>E a i 0+E d i 0)+1)*4<=_;omega
  .rw[Ra]
 .have h:i=M:=by have h:¬(i:G)<_:=a4 h;rw[ao J]at h;split at h<;>omega
  subst h;subst f;exact mU<|qe<|nv<|mV<|aI<|dW (Fb 1000000 J)<|R<|rc J J (AM _ O)<|j J<|bI<|atR J
def AN l i:E (eT l) i 0=E l i 0:=by have:=a6 (λA:Rx=>A i)<|Rx.rU l;exact this
def YG(f:Y->D) n i:E ((cd n).map f) i 0=if i<n then f i else 0:=by
 rw[aM,iV];by_cases h:i<n
 .rw[kK h,ao h];rfl
 .rw[jP bV,w h];rfl
def G' a d i:E (kQ a d) i 0=E a i 0+E d i 0:=by
 rw[kQ,AN,YG];split
 .rfl
 .rw[Rx.iJ a O,Rx.iJ d O,nD]
def yD d a i:E (gW d a) i 0=d*E a i 0:=by
 rw[gW,AN,YG];split
 .rfl
 .rw[Rx.iJ a O,fO]
def Lu a i:E (iC a) i 0=E (0::a) i 0:=AN _ i
def Ha a d:Rx.lx (kQ a d)=Rx.lx a+Rx.lx d:=Rx.ext λi=>G' a d i
def Dz a d:Rx.lx (gW a d)=Rx.K a*Rx.lx d:=Rx.ext λi=>by rw[Rx.fZ];exact yD a d i
def aj2 a:Rx.lx (iC a)=Rx.X 1*Rx.lx a:=by rw[iC,Rx.rU,Rx.Lm,Rx.o4,Rx.zero_add]
def rW l:Z (eT l)<=Z l:=QO
def ji(a d:V D):Y->V D
 |0=>[]
 |e+1=>kQ (iC<|ji a d e)<|gW (E a (Z a-1-e) 0) d
def aj3(a:V D){d}(e:d<Z a):List.drop (Z a-(d+1)) a=E a (Z a-1-d) 0::List.drop (Z a-d) a:=by rw[qk (O:Z a-(d+1)<Z a),(O:Z a-(d+1)+1=Z a-d),aM,cK (O:Z a-1-d<Z a)];simp only[(O:Z a-(d+1)=Z a-1-d)];rfl
def YH(a e:V D):∀d,d<=Z a->Rx.lx (ji a e d)=Rx.lx (List.drop (Z a-d) a)*Rx.lx e
 |0,_=>by rw[ji,C',List.drop_length,Rx.nF,Rx.zero_mul]
 |d+1,f=>by rw[ji,Ha,aj2,Dz,YH a e d O,aj3 a O,Rx.Lm,Rx.add_mul,Rx.mul_assoc,Rx.add_comm]
def aj4 a e d:Rx.bF (ji a e d):=by
 cases d with
 |zero=>exact Rx.wJ
 |succ d=>exact Rx.kO _
def YI(a d:V D):∀e,Z (ji a d e)<=e+Z d
 |0=>by simp[ji]
 |e+1=>by
  have k:=YI a d e;have f:=rW<|0::ji a d e;have l:Z (gW (E a (Z a-1-e) 0) d)<=Z d:=by have:=rW<|(cd<|Z d).map λi=>E a (Z a-1-e) 0*E d i 0;simpa[gW]using this
  have g:=rW<|(cd<|max (Z<|iC<|ji a d e)<|Z<|gW (E a (Z a-1-e) 0) d).map λi=>E (iC<|ji a d e) i 0+E (gW (E a (Z a-1-e) 0) d) i 0;rw[cR,rO]at g;rw[gQ]at f;have m:Z (ji a d<|e+1)<=max (Z<|iC<|ji a d e) (Z<|gW (E a (Z a-1-e) 0) d):=g;have n:Z (iC<|ji a d e)<=Z (ji a d e)+1:=f;omega
def YJ{k}{a}(d:1<=k)(e:∀i,QS k (E a i 0)) i:QS k (E (0::a) i 0):=by
 cases i with
 |zero=>exact QS.zero d
 |succ i=>exact e i
def YK{k:Y}{a e:V D}(f:∀i,QS k (E a i 0))(g:∀i,QS k (E e i 0)):∀d,∀i,QS (2^d*(2*k+2)-1) (E (ji a e d) i 0)
 |0,i=>QS.zero O
 |d+1,i=>by
  have l:1<=2^d:=iA T;have o:2*k+2<=2^d*(2*k+2):=by have:=ef (2*k+2) l;omega
  have m:QS (2^d*(2*k+2)-1) (E (iC<|ji a e d) i 0):=by rw[Lu];exact YJ O (YK f g d) i
  have n:QS (2^d*(2*k+2)-1) (E (gW (E a (Z a-1-d) 0) e) i 0):=by rw[yD];exact((f _).mul<|g i).le O
  rw[ji,G'];exact(m.add n).le (by rw[fp,gO (2^d) 2,uB];omega)
def aj5{k}(F:k<=100000) a e(H:Z a<=12)(L:Z e<=100)(f:∀i,QS k (E a i 0))(g:∀i,QS k (E e i 0)):r z 34 [N .q a,N .q e] (N .q<|ji a e<|Z a):=by
 refine aJ Tryz.func34 ?_;have s:=YK f g;have t:∀d,d<=12->2^d*(2*k+2)-1<=1000000000:=λd o=>by have u:2^d<=2^12:=fh T o;have C:=ef (2*k+2) u;omega
 refine I J<|R<|fM .q [] J J (j J<|M<|I J ?_);refine dW (Fb 1000000 J) ?_;refine ay<|bf (α:=Y) (λd=>⟨[(0,N .q a),(1,N .q e),(5,N .q<|ji a e d),(6,y<|(Z a:G)-1-d)],[],10,[]⟩) (λd=>d<=Z a) (λd=>Z a-d) 0 (a8 _) (wk ⟨sR J,sR J,sE J J,sE J ?_,A⟩ A) ?_
 .exact a6 y O
 intro d o;refine M<|I J<|c J (λh=>?_)<|λh=>?_
 .have h:d<Z a:=by have h:(Z a:G)-1-(d:G)>=0:=aT h;omega
  have v:af ((Z a:G)-1-(d:G))=Z a-1-d:=O;have K:=YI a e d;have x:=t d O;have l:1<=2^d:=iA T;have P:2*k+2<=2^d*(2*k+2):=by have:=ef (2*k+2) l;omega
  have m:=Lt (k:=k) (E a (af<|(Z a:G)-1-(d:G)) 0) e O (f _) g O;have B:Z (gW (E a (af<|(Z a:G)-1-(d:G)) 0) e)<=Z e:=by have:=rW<|(cd<|Z e).map λi=>E a (af<|(Z a:G)-1-(d:G)) 0*E e i 0;simpa[gW]using this
  have p:Z (iC<|ji a e d)<=Z (ji a e d)+1:=by have:=rW<|0::ji a e d;rwa[gQ]at this
  have n:=G9 (k:=2^d*(2*k+2)-1) (iC<|ji a e d) (gW (E a (af<|(Z a:G)-1-(d:G)) 0) e) O O (λi=>by rw[Lu];exact YJ O (s d) i) (λi=>by rw[yD];exact((f _).mul<|g i).le O) O;refine aD<|M<|ay<|cA ?_;refine rc J J (Q' (ji a e d) O) ?_;refine rc J J m ?_ (hp:=aF);refine rc J J n<|j J<|eL<|aI<|rt J (hp:=aF)<|aS (d+1) h (O:Z a-(d+1)<Z a-d)<|wk ⟨sR J,sR J,sE J ?_,sE J ?_,A⟩ A
  .rw[v];rfl
  .exact a6 y O
 .have h:d=Z a:=by have h:¬(Z a:G)-1-(d:G)>=0:=a4 h;omega
  subst h;exact bh<|aI<|I J<|cJ J
namespace Rx
def wO(a:Y)(d:G)(e:Rx):Prop:=∀i,∃z:G,aA z<=a/\(d:D)*e i=(z:D)
def Ht(a:Y)(d:Rx):Prop:=∃D:G,D≠0/\aA D<=a/\wO a D d
def Hb{a:G}(d:a≠0):(a:D)≠0:=λe=>d<|Rat.intCast_eq_zero_iff.1 e
def wO.le{a d}{e}{f}(g:wO a e f)(k:a<=d):wO d e f:=λi=>by let ⟨z,l,h2⟩:=g i;exact⟨z,bQ l k,h2⟩
def Ht.le{a d}{e}(f:Ht a e)(k:a<=d):Ht d e:=by let ⟨D,g,h2,i⟩:=f;exact⟨D,g,bQ h2 k,i.le k⟩
def Ht.zero{a}(d:1<=a):Ht a 0:=⟨1,T,d,λ_=>⟨0,a8 _,fO _⟩⟩
def Ht.qs{g s}{d}(n:Ht g d)(t:g<4294967296^s) i:QS s (d i):=by
 let ⟨a,o,l,p⟩:=n;let ⟨z,m,k⟩:=p i;have f:∀(a z:G),0<a->aA a<=g->aA z<=g->(a:D)*d i=(z:D)->QS s (d i):=by
  intro a z q l m k;have e:iW z a=d i:=by have u:=mA _<|Hb (O:a≠0);rw[Lv,yr,<-k];grind
  rw[<-e];exact GL q (O:aA z<4294967296^s) (O:aA a<4294967296^s)
 rcases Int.lt_trichotomy a 0 with e|e|e
 .exact f (-a) (-z) O O O (by rw[Hc,Hc,<-k];grind)
 .exact absurd e o
 .exact f a z e l m k
def qJ{a d}{e f}(g:aA a<=e)(k:aA d<=f):aA (a*d)<=e*f:=by rw[qv];exact mn g k
def Ht.sub{a d}{e B}(g:Ht a e)(k:Ht d B):Ht (2*(a*d)) (e-B):=by
 let ⟨D,l,h2,m⟩:=g;let ⟨E,n,f,o⟩:=k;refine⟨D*E,yq l n,by have:=qJ h2 f;omega,λi=>?_⟩;let ⟨z,p,q⟩:=m i;let ⟨w,s,t⟩:=o i;refine⟨z*E-D*w,?_,?_⟩
 .have u:=qJ p f;have v:=qJ h2 s;omega
 .rw[uC,fJ,Lw,fJ,fJ,<-q,<-t];grind
def Ht.bt{e n}{a}(f:Ht e a)(o:sz a<=n)(d:1<=n):Ht (n*e) (bt a):=by
 let ⟨D,g,h2,k⟩:=f;refine⟨D,g,by have:=mn d h2;omega,λi=>?_⟩;by_cases p:n<=i+1
 .exact⟨0,a8 _,by rw[pn,lN O,fO,fO];rfl⟩
 .let ⟨z,l,m⟩:=k<|i+1;refine⟨((i+1:Y):G)*z,qJ O l,?_⟩;rw[pn,fJ,<-m,qK];grind
def Ht.aj6{d k}{a}(l:Ht d a)(m:a k≠0):Ht d (K (a k)⁻¹ *a):=by
 let ⟨D,n,h2,f⟩:=l;let ⟨w,o,g⟩:=f k;have p:w≠0:=λe=>by
  subst e;rcases yw.1 (g.trans Rat.intCast_zero)with e|e
  .exact Hb n e
  .exact m e
 refine⟨w,p,o,λi=>?_⟩;let ⟨z,q,s⟩:=f i;refine⟨z,q,?_⟩;rw[fZ,<-g,<-s];grind
def Ht.smul{a d}{e}{f}(l:Ht a e)(k:Ht d (K f)):Ht (a*d) (K f*e):=by let ⟨D,m,h2,n⟩:=l;let ⟨E,o,p,q⟩:=k;refine⟨D*E,yq m o,qJ h2 p,λi=>?_⟩;let ⟨z,s,t⟩:=n i;let ⟨w,u,g⟩:=q 0;refine⟨z*w,qJ s u,?_⟩;rw[mz,ao J]at g;rw[fZ,fJ,fJ,<-t,<-g];grind
def YL{a b:V D}{n m o g:Y}(L:Z b=n+1)(P:Z a=n+m)(v:E b n 0≠0)(Q:Ht o (lx a))(U:Ht g (lx b)):∀d,d<=m->
  ∃f:G,f≠0/\aA f<=o*(2*g)^d/\wO (o*(2*g)^d) f (lx (dm (E b n 0)⁻¹ a b n m d).1)/\wO (o*(2*g)^d) f (lx (dm (E b n 0)⁻¹ a b n m d).2)
 |0,_=>by let ⟨f,W,h2,h3⟩:=Q;rw[oY,qj];refine⟨f,W,h2,λi=>⟨0,a8 _,?_⟩,h3⟩;show(f:D)*E (bg m (0:D)) i 0=_;rw[GO,fO];rfl
 |d+1,R=>by
  let ⟨f,d1,d2,d3,d4⟩:=YL L P v Q U d O;let ⟨B,c,h,K⟩:=U;let ⟨β,C,s⟩:=K n;let ⟨_,q0,_⟩:=Q7 L P v d O;let ⟨l1,l2⟩:=wG (E b n 0)⁻¹ a b n m d;have F:β≠0:=λe=>by
   subst e;rcases yw.1 (s.trans Rat.intCast_zero)with e|e
   .exact Hb c e
   .exact v e
  have p:(β:D)*(E b n 0)⁻¹ =(B:D):=by have s:(B:D)*E b n 0=(β:D):=s;rw[<-s];grind
  rw[dm,fp,<-uB];generalize dm (E b n 0)⁻¹ a b n m d=x at*;generalize o*(2*g)^d=X at*;let ⟨q,r⟩:=x;simp only at d3 d4 q0 l1 l2⊢;let ⟨t,t1,u⟩:=d4<|m-1-d+n;have u:(f:D)*E r (m-1-d+n) 0=(t:D):=u;have k:X*g<=X*(2*g):=ia X O;have y:X*(2*g)=X*g+X*g:=by rw[Nat.two_mul,uD]
  refine⟨f*β,yq d1 F,bQ (qJ d2 C) k,λi=>?_,λi=>?_⟩
  .rw[gC,AB i _ O];by_cases e:m-1-d=i
   .rw[ao e];refine⟨t*B,bQ (qJ t1 h) k,?_⟩;rw[fJ,fJ,<-u,<-p];grind
   .rw[w e];let ⟨z,H,l⟩:=d3 i;have l:(f:D)*E q i 0=(z:D):=l;refine⟨z*β,bQ (qJ H C) k,?_⟩;rw[fJ,fJ,<-l];grind
  .rw[G7 _ O,eI,fZ,mq];let ⟨z,H,l⟩:=d4 i;have S:=qJ H C;by_cases e:m-1-d<=i
   .rw[ao e];let ⟨A,I,J⟩:=K<|i-(m-1-d);have T:=qJ t1 I;refine⟨z*β-t*A,O,?_⟩;rw[Lw,fJ,fJ,fJ,<-l,<-J,<-u,<-p];grind
   .rw[w e];refine⟨z*β,O,?_⟩;rw[fJ,fJ,<-l];grind
def wO.take{d}{e}{a}(f:wO d e (lx a)) n:wO d e (lx<|h n a):=λi=>by
 rw[gC,Dx];split
 .exact f i
 .exact⟨0,a8 _,fO _⟩
def DA{a d}{t u}(o:bF d)(f:d≠[])(i:Ht (2^t) (lx a))(p:Ht (2^u) (lx d)):Ht (2^(t+(u+1)*(a.length+1-d.length))) (lx<|dO a d)/\Ht (2^(t+(u+1)*(a.length+1-d.length))) (lx<|cN a d)/\
  (d.length<=a.length->∀e,e<=a.length+1-d.length->Ht (2^(t+(u+1)*(a.length+1-d.length))) (lx (dm (d.getD (d.length-1) 0)⁻¹ a d (d.length-1) (a.length+1-d.length) e).2)):=by
 have q:=cv.2 f
 unfold dO cN
 by_cases h:a.length<d.length
 .rw[ao h,ao h];refine⟨Ht.zero<|iA T,i.le<|fh T<|Nat.le_add_right _ _,λs=>absurd h O⟩
 .rw[w h,w h,rU,rU];have g:=YL (a:=a) (b:=d) (n:=d.length-1) (m:=a.length+1-d.length) O O (o.ne f) i p;have k:∀e,2^t*(2*2^u)^e=2^(t+(u+1)*e):=λe=>by rw[show 2*2^u=2^(u+1)by rw[fp,gO],<-Dc,<-lI]
  let ⟨D,d1,d2,d3,d4⟩:=g _<|aW _;rw[k]at d2 d3 d4;refine⟨⟨D,d1,d2,d3⟩,⟨D,d1,d2,d4.take _⟩,λ_ e l=>?_⟩;let ⟨D,d1,d2,d3,d4⟩:=g e l;rw[k]at d2 d3 d4;exact Ht.le ⟨D,d1,d2,d4⟩<|fh T<|Lx (ia _ l) _
def Rb{a}{e}(f:bF a)(k:Ht e (lx a)):Ht e (lx<|da a):=by
 by_cases d:a=[]
 .subst d;rw[G8];exact k
 .rw[uT d];exact k.aj6 (k:=Z a-1)<|f.ne d
def Ly n{k}(a:k<=n):2^k<=2^n:=fh T a
def mB{t s}(a:t<32*s):2^t<4294967296^s:=by rw[(T:(4294967296:Y)=2^32),<-Dc];exact Re T a
def three{d}:1<=d->d+2<=3^d:=by
 intro h;induction d with
 |zero=>omega
 |succ d a=>
  by_cases e:d=0
  .subst e;decide
  .have:=a O;rw[fp];omega
def Lz{a d}(e:d≠[]):Z (da<|cN a d)<Z d\/da (cN a d)=[]:=by
 by_cases h:cN a d=[]
 .right;rw[h,G8]
 .left;have:=o8 (a:=a) e;unfold da;rw[w h];refine uA (AF _) ?_;rw[qC,cR];exact this
def YM{s:Y}:∀(k t:Y)(a f:V D),bF a->bF f->Z f<k->(f=[]\/Z f<Z a)->Z a<=500->Ht (2^t) (lx a)->Ht (2^t) (lx f)->(t+1)*3^Z a<=32*s->
  yu s k a f/\(∀i,QS s (E (eJ k a f) i 0))/\Z (eJ k a f)<=500
 |0,_,_,_,_,_,g,_,_,_,_,_=>by omega
 |k+1,t,a,f,v,n,L,l,la,hA,o,P=>by
  have x:0<3^Z a:=iA T;have p:t<32*s:=by have:=ia (t+1) (show 1<=3^Z a from x);omega
  rw[yu,eJ];split
  .rename_i e;exact⟨.inl e,λi=>hA.qs (mB p) i,la⟩
  .rename_i e;have l:=l.resolve_left e;have K:=cv.2 e;let ⟨q1,q,B⟩:=DA n e hA o;have C:t+(t+1)*(Z a+1-Z f)+1=(t+1)*(Z a-Z f+2):=by rw[(O:Z a+1-Z f=Z a-Z f+1),(O:Z a-Z f+2=Z a-Z f+1+1),uD (t+1) (Z a-Z f+1) 1];omega
   have Q:(t+1)*(Z a-Z f+2)*3^Z f<=(t+1)*3^Z a:=by have:=three (d:=Z a-Z f) O;rw[uB];refine ia _ ?_;refine bQ (ef _ this) ?_;rw[<-lI,(O:Z a-Z f+Z f=Z a)];exact aW _
   have u:=rV (b:=f) v;have F:0<3^Z f:=iA T;have m:t+(t+1)*(Z a+1-Z f)<32*s:=by have:=ia ((t+1)*(Z a-Z f+2)) (show 1<=3^Z f from F);omega
   let ⟨i1,i2,i3⟩:=YM (s:=s) k (t+(t+1)*(Z a+1-Z f)) f (da<|cN a f) n (po _) (by rcases Lz (a:=a) e with g|g;omega;rw[g,rz];omega) ((Lz (a:=a) e).symm) O
    (o.le<|fh T<|Nat.le_add_right _ _) (Rb u q) (by rw[C];omega)
   refine⟨.inr ⟨⟨la,O,n.ne e,λi=>o.qs (mB p) i,λj H i=>(B O j H).qs (mB m) i,λg=>u.ne g,λi=>q.qs (mB m) i⟩,i1⟩,i2,i3⟩
end Rx
open Rx
noncomputable def nb(L:V (Rx×Y)):Y->Y->V (Rx×G)
 |0,_=>[]
 |k+1,n=>(if 1<sz (pF (kP n) L)then[(pF (kP n) L,(n:G))]else[])++nb L k (n+1)
def Rf{L:V (Rx×Y)}:∀(k:Y){n:Y},(∀x∈L,x.2<n)->nb L k n=[]
 |0,_,_=>rfl
 |k+1,n,d=>by
  have e:pF (kP n) L=1:=Lp λx a=>w (by have:=d x a;omega)
  rw[nb,e,qF,w O,Rf k (λx a=>by have:=d x a;omega),g8]
def Rg{a:Rx}(d:2<=sz a):∀n,n+1<=sz (pk a n)
 |0=>by rw[show pk a 0=1 from J,qF];omega
 |n+1=>by
  have f:a≠0:=λe=>by rw[e,kh]at d;omega
  have g:=Rg d n;have i:pk a n≠0:=λe=>by rw[e,kh]at g;omega
  have:=dK i f;rw[pk];omega
def YN{c:Y->Y}:∀{L:V (Rx×Y)}{x:Rx×Y},x∈L->pk x.1 (c x.2)∣pF c L
 |d::L,x,a=>by
  rw[pF];rcases bX.1 a with rfl|a
  .exact dvd_mul_right _ _
  .exact dI (YN a) _
def Rh{L}(a:FL L){x}(d:x∈L):x.2<sz (pF id L):=by have e:=iK (YN (c:=id) d) (uS a.mo).ne;have f:=Rg (a.fI x d).1 x.2;have g:sz (pk x.1 x.2)<=sz (pF id L):=e;omega
end Go.El
namespace Go.El
open Go Go.Proofs Go.RowKit
def om(a:D):V D:=eT [a]
def YO a:r z 44 [aQ a] (N .q<|om a):=by refine aJ Tryz.func44 ?_;exact I J<|R<|rl .q [_] J J (rc J J (AM [a] (by rw[rG];omega))<|j J<|cJ J)
def nG(a d:V D):V D:=kQ a<|gW ((-1:G):D) d
def Ri a d i:E (nG a d) i 0=E a i 0-E d i 0:=by rw[nG,G',yD,show(((-1:G)):D)= -1 from J];grind
def aj7{k}a d(m:Z a<=1000)(f:Z d<=1000)(n:∀i,QS k (E a i 0))(g:∀i,QS k (E d i 0))(l:1<=k)(u:k<=10000000000):r z 117 [N .q a,N .q d] (N .q<|nG a d):=by
 have o:QS k (((-1:G)):D):=⟨(aG.one (a:= -1) T).le l,(aG.one (a:=1) T).le l⟩;have p:=Lt (((-1:G)):D) d f o g O;have s:∀i,QS k (E (gW ((-1:G):D) d) i 0):=λi=>by rw[yD,show(((-1:G)):D)*E d i 0= -(E d i 0)by rw[show(((-1:G)):D)= -1 from J];grind];exact(g i).neg
 have t:Z (gW ((-1:G):D) d)<=1000:=bQ (AF _) (by simp;exact f);have e:=G9 a _ m t n s O;refine aJ Tryz.func117 ?_;exact I J<|R<|rc J J (CZ (-1) T T)<|rc J J p<|rc J J e<|j J<|cJ J
def LA(a:V D)(d:a≠[])(e:Z a<=1000):r z 83 [N .q a] (aQ<|E a (Z a-1) 0):=by have f:=cv.2 d;refine aJ Tryz.func83 ?_;refine I J<|I J (hp:=aF)<|bO J ?_;rw[(O:Z a-1=af ((Z a:G)-1))];rfl
def aj8{k}a(i:a≠0)(f:QS k a)(l:k<=100000000000):r z 82 [aQ a] (.t [(true,av .q a⁻¹),(ah,[.I .i64 0])]):=by have e:iW (a.den:G) a.num=a⁻¹ :=(Rat.inv_def a).symm;have g:=QF (a.den:G) a.num (λe=>i<|uJ e) (f.d.sm O)<|f.n.sm O;rw[e]at g;refine aJ Tryz.func82 ?_;exact I J<|bw J J g J<|cJ J
def YP{a}(d:a≠[]):da a=gW (E a (Z a-1) 0)⁻¹ a:=by refine Rx.ph (Rx.po a) (Rx.kO _) ?_;rw[Rx.uT d,Dz]
def Rj{k}a(g:Z a<=1000)(f:∀i,QS k (E a i 0))(l:a≠[]->E a (Z a-1) 0≠0)(o:k<=10000000000):r z 29 [N .q a] (N .q<|da a):=by
 refine aJ Tryz.func29 ?_;refine I J<|M<|I J<|c J (λh=>?_)<|λh=>aD ?_
 .have h:(Z a:G)=0:=eq_of_beq h;rw[fE (by omega:Z a=0)];exact I J<|bI<|cG<|g7 cj J<|bm.nil _
 .have d:a≠[]:=λe=>by subst e;cases h
  have n:=(f<|Z a-1).inv<|l d;have m:=Lt (E a (Z a-1) 0)⁻¹ a g n f O;rw[<-YP d]at m;exact R<|rc J J (LA a d g)<|rc J J (aj8 _ (l d) (f _) O)<|j J<|bw J J m J<|cJ J
def aj9{k}a(p:Z a<=1000)(l:∀i,QS k (E a i 0))(f:1<=k)(s:k<=10000000000):r z 132 [N .q a] (N .q<|rP a):=by
 refine aJ Tryz.func132 ?_;obtain⟨F,g⟩:∃F:Y->D,F=λi=>(((i+1:Y):G):D)*E a (i+1) 0:=⟨_,J⟩
 have m:rP a=(cd<|Z a-1).map F:=by rw[g];rfl
 rw[m];refine I J<|R<|fM .q [] J J (j J<|M<|I J ?_);refine ay<|bf (α:=Y) (λi=>⟨[(0,N .q a),(3,.c<|.X 1000000),(4,y ((i+1:Y):G))],[(1000000,.vec 44 .q<|(cd i).map F)],3,[]⟩) (λi=>i<=Z a-1) (λi=>Z a-i) 0 (a8 _) aU ?_;intro i t;have n:Z ((cd i).map F)=i:=ax;refine M<|I J<|c J (λh=>?_)<|λh=>?_
 .have h:i+1<Z a:=by have h:((i+1:Y):G)<(Z a:G):=aT h;omega
  have o:QS k ((((i+1:Y):G)):D):=⟨(aG.one (a:=((i+1:Y):G)) O).le f,(aG.one (a:=1) T).le f⟩;have d:=QG ((((i+1:Y):G)):D) (E a (af<|((i+1:Y):G)) 0) o (l _) O;have e:((((i+1:Y):G)):D)*E a (af<|((i+1:Y):G)) 0=F i:=by rw[g,b6]
  rw[e]at d;refine aD<|M<|ay<|cA ?_;refine rc J J (CZ ((i+1:Y):G) O O) ?_;refine rc J J d ?_ (hp:=aF);refine rl .q [F i] J J (ra J J J J J J J J J ?_ ?_<|j J ?_)
  .show(Z ((cd i).map F)+1+(Z ((cd i).map F)+1)/4+192)*64<=_;omega
  .show(Z ((cd i).map F)+1)*4<=_;omega
  refine bH<|rt J (hp:=aF)<|aS (i+1) (O:i+1<=Z a-1) nY<|Wk.trans (wk (st':=⟨[(0,N .q a),(3,.c<|.X 4009000),(4,y ((i+1+1:Y):G))],[(4009000,.vec 44 .q<|(cd<|i+1).map F)],20,[]⟩) (bJ J) ⟨bE J ?_,A⟩)<|Wk.trans (gw 1000000 4009000 J J J) aU;rw[Ra]
 .have h:i=Z a-1:=by have h:¬((i+1:Y):G)<(Z a:G):=a4 h;omega
  subst h;exact mU<|qe<|nv<|mV<|aI<|c8 1000000 J J J<|I J<|bI<|atR J
open Rx
def Rk a i:E (om a) i 0=if i=0 then a else 0:=by
 rw[om,AN];cases i with
 |zero=>rfl
 |succ i=>simp
def LB a:E (iC a) 0 0=0:=by rw[Lu];rfl
def LC a i:E (iC a) (i+1) 0=E a i 0:=by rw[Lu];rfl
structure qL(a b:V D)(n m c:Y)(q r:V D):Prop where
 qc:bF q
 rc:bF r
 qg:∀i,q.getD i 0=if i<c-n then(dm (b.getD n 0)⁻¹ a b n m (c-n)).1.getD (a.length-c+i) 0 else 0
 rg:∀i,r.getD i 0=if i<min c n then(dm (b.getD n 0)⁻¹ a b n m (c-n)).2.getD (a.length-c+i) 0 else 0
def Rl{a}{n}(d:bF a)(f:∀i,n<=i->E a i 0=0):Z a<=n:=eX λe=>by
 rcases d with d|d
 .rw[d]at e;exact e<|a8 _
 .exact d<|f _ O
def aj'{a:V D}{n}(d:E a n 0≠0):n<Z a:=eX λe=>d<|iJ a O
def YQ a d:bF (kQ a d):=kO _
def YR{inv:D}{a e:V D}{n m:Y}(f:Z a=n+m)(g:Z e=n+1):∀d,d<=m->∀i,i<m-d->(dm inv a e n m d).2.getD i 0=E a i 0
 |0,_,_,_=>rfl
 |d+1,k,i,l=>by rw[dm];show E (iX _ _ e<|m-1-d) i 0=_;rw[iX,tf (by rw[(wG inv a e n m d).2];omega),w O];exact YR f g d O i O
def Rm(a:V D)(x:D):∀i,E (kQ (iC a)<|om x) i 0=if i=0 then x else E a (i-1) 0
 |0=>by rw[G',LB,Rk,ao J,ao J,GP]
 |i+1=>by rw[G',LC,Rk,w O,w O,nD];rfl
def qL.start a d n m:qL a d n m 0 [] []:=
 ⟨wJ,wJ,λi=>by rw[w O];rfl,λi=>by rw[w O];rfl⟩
section
variable{a b q r:V D}{n m c:Y}
def qL.r1(e:qL a b n m c q r)(f:Z b=n+1)(l:m=Z a-n)(o:c<Z a) i:
  E (kQ (iC r)<|om<|E a (Z a-1-c) 0) i 0=if i<min (c+1) (n+1)then(dm (E b n 0)⁻¹ a b n m (c-n)).2.getD (Z a-(c+1)+i) 0 else 0:=by
 rw[Rm]
 have g:(dm (E b n 0)⁻¹ a b n m (c-n)).2.getD (Z a-(c+1)) 0=E a (Z a-1-c) 0:=by
  rw[(O:Z a-(c+1)=Z a-1-c)];by_cases k:c<n
  .rw[(O:c-n=0)];rfl
  .exact YR O f _ O _ O
 cases i with
 |zero=>rw[ao J,ao O,iR,g]
 |succ i=>
  rw[w O,eh,e.rg]
  by_cases d:i<min c n
  .rw[ao d,ao O,(O:Z a-(c+1)+(i+1)=Z a-c+i)]
  .rw[w d,w O]
def qL.step(u:qL a b n m c q r)(L:Z b=n+1)(P:m=Z a-n)(Q:E b n 0≠0)(U:c<Z a){s}(F:s=kQ (iC r) (om<|E a (Z a-1-c) 0)):
  (Z s=n+1->qL a b n m (c+1) (kQ (iC q)<|om<|E s n 0/E b n 0) (nG s<|gW (E s n 0/E b n 0) b))/\(Z s≠n+1->qL a b n m (c+1) (iC q) s)/\Z s<=n+1:=by
 have f:=u.r1 L P U
 rw[<-F]at f
 have g:bF s:=by rw[F];exact YQ _ _
 have W:Z s<=min (c+1) (n+1):=Rl g λi k=>by rw[f,w O]
 by_cases X:c<n
 .refine⟨λe=>O,λ_=>⟨kO _,g,λi=>?_,λi=>?_⟩,O⟩
  .rw[w O];cases i with
   |zero=>exact LB q
   |succ i=>rw[LC,u.qg,w O]
  .rw[f,(O:c+1-n=c-n)];by_cases k:i<c+1
   .rw[ao O,ao O]
   .rw[w O,w O]
 obtain⟨j,A⟩:∃j,c=n+j:=⟨c-n,O⟩
 have y:c-n=j:=O
 have l:c+1-n=j+1:=O
 have o:=u.qg
 rw[y]at f o
 have d:=wG (E b n 0)⁻¹ a b n m j
 have v:dm (E b n 0)⁻¹ a b n m (j+1)=((dm (E b n 0)⁻¹ a b n m j).1.set (m-1-j)<|(dm (E b n 0)⁻¹ a b n m j).2.getD (m-1-j+n) 0*(E b n 0)⁻¹,iX (dm (E b n 0)⁻¹ a b n m j).2 (-((dm (E b n 0)⁻¹ a b n m j).2.getD (m-1-j+n) 0*(E b n 0)⁻¹)) b<|m-1-j):=rfl
 have p:E s n 0=(dm (E b n 0)⁻¹ a b n m j).2.getD (m-1-j+n) 0:=by rw[f,ao O,(O:Z a-(c+1)+n=m-1-j+n)]
 rw[<-p,<-yr]at v
 generalize ht:E s n 0/E b n 0=t at*
 have x:t*E b n 0=E s n 0:=by rw[<-ht,Rat.div_mul_cancel Q]
 have C:∀i,E (kQ (iC q)<|om t) i 0=if i<c+1-n then(dm (E b n 0)⁻¹ a b n m (c+1-n)).1.getD (Z a-(c+1)+i) 0 else 0:=λi=>by
  rw[Rm,l,v];show _=if i<j+1 then E ((dm (E b n 0)⁻¹ a b n m j).1.set (m-1-j) t) (Z a-(c+1)+i) 0 else 0
  rw[AB _ _ (by rw[d.1];omega)];cases i with
  |zero=>rw[ao J,ao O,ao O]
  |succ i=>
   rw[w O,eh,o]
   by_cases k:i<j
   .rw[ao k,ao O,w O,(O:Z a-(c+1)+(i+1)=Z a-c+i)]
   .rw[w k,w O]
 have H:∀i,E (nG s<|gW t b) i 0=if i<min (c+1) n then(dm (E b n 0)⁻¹ a b n m (c+1-n)).2.getD (Z a-(c+1)+i) 0 else 0:=λi=>by
  rw[Ri,yD,l,v,f];show _=if i<min (c+1) n then E (iX (dm (E b n 0)⁻¹ a b n m j).2 (-t) b<|m-1-j) (Z a-(c+1)+i) 0 else 0
  by_cases k:i<n
  .rw[ao O,ao O,iX,tf (by rw[d.2];omega),ao O,(O:Z a-(c+1)+i-(m-1-j)=i)];grind
  .rw[w (by omega:¬i<min (c+1) n)];by_cases e:i=n
   .subst e;rw[ao O,x,f,ao O];grind
   .rw[w O,iJ b O];grind
 refine⟨λ_=>⟨YQ _ _,kO _,C,H⟩,λz=>?_,O⟩
 have B:E s n 0=0:=eX λB=>by have:=aj' B;omega
 have K:t=0:=by rw[<-ht,B,yr,qB]
 refine⟨kO _,g,λi=>?_,λi=>?_⟩
 .rw[<-C,Rm,K];cases i with
  |zero=>rw[LB,ao J]
  |succ i=>rw[LC,w O];rfl
 .rw[<-H,Ri,yD,K];grind
end
section
variable{a b q r:V D}{n m c:Y}
def aka(f:qL a b n m (Z a) q r)(l:Z b=n+1)(k:m=Z a-n):q=dO a b:=by
 have d:Z b-1=n:=O;have e:Z a+1-Z b=m:=O;refine ph f.qc (Dy a b)<|ext λi=>?_;rw[gC,gC,f.qg,dO,d,e,<-k];by_cases g:i<m
 .rw[ao g,w O,AN,ma,eH]
 .rw[w g];split
  .rfl
  .rw[AN,iJ _<|by rw[(wG ..).1];omega]
def akb(g:qL a b n m (Z a) q r)(o:Z b=n+1)(k:m=Z a-n)(l:bF a):r=cN a b:=by
 have d:Z b-1=n:=O;have e:Z a+1-Z b=m:=O;refine ph g.rc (rV l)<|ext λi=>?_;rw[gC,gC,g.rg,cN,d,e,<-k,ma,eH];by_cases hl:Z a<Z b
 .rw[ao hl];by_cases f:i<Z a
  .rw[ao O,(O:m=0)];rfl
  .rw[w O,iJ a O]
 .rw[w hl,AN,Dx];by_cases f:i<n
  .rw[ao O,ao f]
  .rw[w O,w f]
def YS{s:Y}(k:1<=s){inv:D}(e:QS s inv)(f:∀d,d<=m->∀i,QS s ((dm inv a b n m d).2.getD i 0)):∀d,d<=m->∀i,QS (2*s) ((dm inv a b n m d).1.getD i 0)
 |0,_,i=>by
  rw[dm,aM,ll];have:QS (2*s) 0:=QS.zero O;by_cases g:i<m
  .rw[ao g];exact this
  .rw[w g];exact this
 |d+1,l,i=>by
  rw[dm];show QS _ (E ((dm inv a b n m d).1.set _ _) i 0);rw[AB _ _ (by rw[(wG ..).1];omega)];split
  .exact(f d O _).mul e
  .exact YS k e f d O i
def akc(d:bF a)(e:a≠[]):E a (Z a-1) 0≠0:=d.resolve_left e
end
def YT{s}(Q:1<=s)(hs:s<=100000000){a f}(hac:bF a)(U:f≠[])(L:wH s a f):r z 121 [N .q a,N .q f] (.t [(ah,[.S .q (dO a f)]),(ah,[.S .q (cN a f)]),(ah,[.I .i64 0])]):=by
 have OK:=cv.2 U;obtain⟨n,K⟩:∃n,Z f=n+1:=⟨Z f-1,O⟩;obtain⟨m,hm⟩:∃m,m=Z a-n:=⟨_,J⟩;have v:=L.bn;have P:=L.qS;rw[(O:Z f-1=n)]at v P;rw[(O:Z a+1-Z f=m)]at P;have la:=L.la;have lb:=L.lb;have qb:=L.qb;have qa:∀i,QS s (E a i 0):=P 0<|a8 _;have W:QS s (E f n 0)⁻¹ :=(qb n).inv v;have hQ:=YS Q W P;have X:∀{k:Y},1<=k->QS k (0:D):=λh=>QS.zero h
 have key:∀{d:Y}{q p:V D},d<=Z a->qL a f n m d q p->(∀i,QS (2*s) (E q i 0))/\(∀i,QS s (E p i 0))/\Z q<=500/\Z p<=500:=λ{d q p} hc g=>by
  refine⟨λi=>?_,λi=>?_,?_,?_⟩
  .rw[g.qg];split
   .exact hQ _ O _
   .exact X O
  .rw[g.rg];split
   .exact P _ O _
   .exact X Q
  .have:=Rl (n:=d-n) g.qc λi hi=>by rw[g.qg,w O]
   omega
  .have:=Rl (n:=min d n) g.rc λi hi=>by rw[g.rg,w O]
   omega
 have T:∀{k:Y}{l:V D},1<=k->(∀i,QS k (E l i 0))->∀i,QS k (E (iC l) i 0):=λ{k l} hk h i=>by
  cases i with
  |zero=>rw[LB];exact X hk
  |succ i=>rw[LC];exact h i
 have Cx:∀{k:Y}{x:D},1<=k->QS k x->∀i,QS k (E (om x) i 0):=λ{k x} hk h i=>by
  rw[Rk];split
  .exact h
  .exact X hk
 have pq:∀l:V D,Z (iC l)<=Z l+1:=λl=>bQ (AF _) Ls
 have q9:∀x:D,Z (om x)<=1:=λx=>bQ (AF _) (by rw[rG];omega)
 refine aJ Tryz.func121 ?_;refine I J<|M<|I J<|c J (λh=>?_)<|λh=>aD ?_
 .have h:(Z f:G)=0:=eq_of_beq h;exact absurd h O
 refine R<|rl .q [] J J (j J<|R<|rl .q [] J J (j J<|M<|I J ?_));refine ay<|bf (α:=Y×V D×V D) (λu=>⟨[(0,N .q a),(1,N .q f),(7,N .q u.2.1),(8,N .q u.2.2),(9,y<|(Z a:G)-1-u.1)],[],20,[]⟩) (λu=>u.1<=Z a/\qL a f n m u.1 u.2.1 u.2.2) (λu=>Z a-u.1) (0,[],[]) ⟨a8 _,qL.start a f n m⟩ (wk ⟨sR J,sR J,sR J,sR J,sE J ?_,A⟩ A) ?_
 .exact a6 y (O:(Z a:G)-1=(Z a:G)-1-(0:Y))
 rintro⟨d,q,p⟩ ⟨c1,g⟩;simp only at c1 g;let ⟨q1,r1,q2,r2⟩:=key c1 g;refine M<|I J<|c J (λh=>?_)<|λh=>?_
 .have h:d<Z a:=by have h:(Z a:G)-1-d>=0:=aT h;omega
  have ei:af ((Z a:G)-1-d)=Z a-1-d:=O;let ⟨S1,S2,S3⟩:=g.step K hm v h J;have B:∀i,QS s (E (kQ (iC p)<|om<|E a (Z a-1-d) 0) i 0):=λi=>by
   rw[g.r1 K hm h];split
   .exact P _ O _
   .exact X Q
  have C:=YO<|E a (af<|(Z a:G)-1-d) 0;have F:=G9 (iC p) (om<|E a (af<|(Z a:G)-1-d) 0) (by have:=pq p;omega) (by have:=q9<|E a (af<|(Z a:G)-1-d) 0;omega) (T Q r1) (Cx Q<|qa _) O;rw[ei]at C F;generalize hsE:kQ (iC p) (om<|E a (Z a-1-d) 0)=S at*;rw[<-ei]at C F;refine aD<|M<|ay<|R<|rc J J (Q' p O)<|rc J J C (rc J J F<|j J ?_) (hp:=aF);refine bw J J (Q' q O) J<|I J<|c J (λH=>?_)<|λH=>c7 ?_
  .have H:(Z S:G)=(Z f:G):=eq_of_beq H;have o:Z S=n+1:=O;have hS0:S≠[]:=λe=>by rw[e]at o;cases o
   have YU:=ajq (E S (Z S-1) 0) (E f (Z f-1) 0) (λe=>L.bn<|uJ e) (B _) (qb _) O;rw[o,K,eh]at YU;have Rn:=LA S hS0 O;have Ro:=LA f U O;rw[o,eh]at Rn;rw[K,eh]at Ro;have hD:=S1 o;have ht:QS (2*s) (E S n 0/E f n 0):=by rw[yr];exact(B n).mul W
   generalize E S n 0/E f n 0=t at*;have AO:=Lt t f O ht (λi=>(qb i).le O) O;have FV:=aj7 (k:=4*s) S (gW t f) O (bQ (AF _) bV) (λi=>(B i).le O) (λi=>by rw[yD];exact(ht.mul<|(qb i).le O).le O) O O;have LD:=G9 (iC q) (om t) (by have:=pq q;omega) (by have:=q9 t;omega) (T O q1) (Cx O ht) O;refine R<|rc J J Rn<|rc J J Ro<|rc J J YU<|j J ?_;refine R<|rc J J AO<|rc J J FV<|j J ?_;refine cA<|rc J J (YO t)<|rc J J LD<|j J ?_;refine bH<|rt J (hp:=aF)<|aS (d+1,kQ (iC q)<|om t,nG S<|gW t f) ⟨h,hD⟩ (O:Z a-(d+1)<Z a-d)<|wk ⟨sR J,sR J,sR J,sR J,sE J ?_,A⟩ A;exact a6 y (O:(Z a:G)-1-d-1=(Z a:G)-1-(d+1:Y))
  .have H:Z S≠n+1:=λe=>by have H:(Z S:G)≠(Z f:G):=m5 H;omega
   refine bH<|rt J (hp:=aF)<|aS (d+1,iC q,S) ⟨h,S2 H⟩ (O:Z a-(d+1)<Z a-d)<|wk ⟨sR J,sR J,sR J,sR J,sE J ?_,A⟩ A;exact a6 y (O:(Z a:G)-1-d-1=(Z a:G)-1-(d+1:Y))
 .have h:d=Z a:=by have h:¬(Z a:G)-1-d>=0:=a4 h;omega
  subst h;rw[aka g K hm,akb g K hm hac];exact bh<|aI<|I J<|cJ J
def akf{s}(g:1<=s)(i:s<=100000000){a d}(e:bF a)(f:d≠[])(k:wH s a d):r z 116 [N .q a,N .q d] (N .q<|dO a d):=by refine aJ Tryz.func116 ?_;exact I J<|bw J J (YT g i e f k) J<|I J<|cJ J
def akg{s}(g:1<=s)(i:s<=100000000){a d}(e:bF a)(f:d≠[])(k:wH s a d):r z 66 [N .q a,N .q d] (N .q<|cN a d):=by refine aJ Tryz.func66 ?_;exact I J<|bw J J (YT g i e f k) J<|I J<|cJ J
def akh{s}(B:1<=s)(F:s<=100000000) k a d(H:bF a)(L:bF d)(P:yu s k a d)(Q:Z (eJ k a d)<=1000)(U:∀i,QS s (E (eJ k a d) i 0)):r z 131 [N .q a,N .q d] (N .q<|da<|eJ k a d):=by
 refine aJ Tryz.func131 ?_;refine I J<|M<|ay<|bf (α:=Y×V D×V D) (λx=>⟨[(0,N .q x.2.1),(1,N .q x.2.2)],[],2,[]⟩) (λx=>yu s x.1 x.2.1 x.2.2/\eJ x.1 x.2.1 x.2.2=eJ k a d/\bF x.2.1/\bF x.2.2) (λx=>x.1) (k,a,d) ⟨P,J,H,L⟩ aU ?_;rintro⟨n,f,g⟩ ⟨h2,l,t,o⟩;simp only at h2 l t o;refine M<|I J<|c J (λm=>?_)<|λm=>?_
 .have p:g≠[]:=λe=>by subst e;cases m
  clear m;cases n with
  |zero=>exact absurd h2 p
  |succ n=>
   rw[yu]at h2
   rcases h2 with h2|⟨h2,C⟩
   .exact absurd h2 p
   rw[eJ,w p]at l
   have u:=akg B F t p h2
   have K:=o8 (a:=f) p
   have X:=h2.lb
   have v:=Rj (cN f g) O h2.qr h2.rn O
   refine c7<|aI<|ay<|R<|rc J J u<|rc J J v<|j J<|I J<|rt J<|eL<|aS (n,g,da<|cN f g) ⟨C,l,o,po _⟩ (dJ n) aU
 .have m:g=[]:=by have m:¬(Z g:G)>0:=a4 m;exact fE O
  subst m;have l:f=eJ k a d:=by
   cases n with
   |zero=>exact l
   |succ n=>rwa[eJ,ao J]at l
  rw[l]at t⊢;exact mU<|qe<|nv<|mV<|aI<|R<|rc J J (Rj _ Q U (λW=>akc t W) O)<|j J<|bI<|atR J
def Rx.Ht.mul{d e n}{a B}(o:Ht d a)(k:Ht e B)(P:sz a<=n)(p:1<=n):Ht (n*(d*e)) (a*B):=by
 let ⟨l,f,h2,q⟩:=o;let ⟨E,s,x,C⟩:=k;refine⟨l*E,yq f s,bQ (qJ h2 x)<|KZ _ p,λi=>?_⟩;rw[e9];have g:∀t,∃z:G,aA z<=min t n*(d*e)/\((l*E:G):D)*sq (λj=>a j*B (i-j)) t=(z:D):=by
  intro t;induction t with
  |zero=>exact⟨0,a8 _,by rw[sq];exact fO _⟩
  |succ t F=>
   let ⟨y,H,m⟩:=F
   by_cases c:t<n
   .let ⟨u,u1,u2⟩:=q t;let ⟨v,v1,v2⟩:=C<|i-t;refine⟨y+u*v,?_,?_⟩
    .have Q:=qJ u1 v1;rw[(O:min (t+1) n=min t n+1),gk,iT];omega
    .rw[sq,Yr,m,Rat.intCast_add,fJ,fJ,<-u2,<-v2];grind
   .refine⟨y,by rw[(O:min (t+1) n=min t n)];exact H,?_⟩;have:a t=0:=lN O;rw[sq,this,qB,nD];exact m
 let ⟨z,K,L⟩:=g<|i+1;exact⟨z,bQ K<|ef _<|Nat.min_le_right _ _,L⟩
def Rx.Ht.neg{a}{d}(e:Ht a d):Ht a (-d):=by let ⟨D,f,h2,g⟩:=e;refine⟨D,f,h2,λi=>?_⟩;let ⟨z,l,k⟩:=g i;exact⟨-z,O,by rw[Gk,Hc,<-k];grind⟩
def Rx.Ht.add{a d}{e B}(f:Ht a e)(k:Ht d B):Ht (2*(a*d)) (e+B):=by have:=Ht.sub f k.neg;rwa[sub_def,Rx.neg_neg]at this
structure Pz(n t:Y)(a:V D):Prop where
 can:bF a
 len:a.length<=n
 ht:Ht (2^t) (lx a)
def Pz.le{n m t u}{a}(d:Pz n t a)(e:n<=m)(f:t<=u):Pz m u a:=⟨d.can,bQ d.len e,d.ht.le<|fh T f⟩
def Pz.qs{n t s}{a}(d:Pz n t a)(e:t<32*s) i:QS s (E a i 0):=d.ht.qs (mB e) i
def Pz.nil n t:Pz n t []:=⟨wJ,a8 _,by rw[nF];exact Ht.zero<|iA T⟩
def Hd t u v:2^v*(2^t*2^u)=2^(t+u+v):=by rw[<-lI,<-lI];congr 1;omega
def Pz.add{n m t u}{a d}(e:Pz n t a)(k:Pz m u d):Pz (max n m) (t+u+1) (kQ a d):=by
 refine⟨kO _,?_,?_⟩
 .have:=e.len;have:=k.len;refine bQ (rW _) ?_;rw[cR,rO];omega
 .rw[Ha,<-Hd];exact e.ht.add k.ht
def Rp a d:lx (nG a d)=lx a-lx d:=ext λi=>by rw[uC];exact Ri a d i
def Pz.sub{n m t u}{a d}(f:Pz n t a)(k:Pz m u d):Pz (max n m) (t+u+1) (nG a d):=by
 refine⟨kO _,?_,?_⟩
 .have:=f.len;have:=k.len;refine bQ (rW _) ?_;rw[cR,rO];have e:=rW<|(cd<|Z d).map λi=>((-1:G):D)*E d i 0;rw[cR,rO]at e;show max (Z a) (Z<|gW _ d)<=_;have:Z (gW ((-1:G):D) d)<=Z d:=e;omega
 .rw[Rp,<-Hd];exact f.ht.sub k.ht
def Pz.YV{n t u}{a}{d}(e:Pz n t a)(k:Ht (2^u) (K d)):Pz n (t+u) (gW d a):=by
 refine⟨kO _,?_,?_⟩
 .have:=e.len;refine bQ (rW _) ?_;rw[cR,rO];omega
 .rw[Dz,lI];exact e.ht.smul k
def ml(a d:V D):V D:=ji a d<|Z a
def px a d:lx (ml a d)=lx a*lx d:=by rw[ml,YH a _ _<|aW _,ma,oQ]
def tr a d:bF (ml a d):=aj4 a d<|Z a
def YW a:ml [] a=[]:=rfl
def YX a:ml a []=[]:=ph (tr _ _) wJ (by rw[px,nF,Rx.mul_zero])
def aki{a d}(e:bF a)(f:bF d)(g:a≠[])(i:d≠[]):Z (ml a d)+1=Z a+Z d:=by have:=dK (yB e g)<|yB f i;rwa[<-px,fj<|tr a d,fj e,fj f]at this
def Rq{a d}(f:bF a)(g:bF d):Z (ml a d)<=Z a+Z d-1:=by
 by_cases a0:a=[]
 .subst a0;rw[YW];exact a8 _
 .by_cases e:d=[]
  .subst e;rw[YX];exact a8 _
  .have:=aki f g a0 e;omega
def Pz.mul{n m t u}{a e}(d:Pz n t a)(k:Pz m u e)(f:n<=16):Pz (n+m-1) (t+u+4) (ml a e):=by
 refine⟨tr a e,?_,?_⟩
 .have:=Rq d.can k.can;have:=d.len;have:=k.len;omega
 .rw[px,<-Hd];refine(d.ht.mul k.ht (n:=2^4) ?_ T);rw[fj d.can];have:=d.len;omega
def akj a d:ml a d=ml d a:=ph (tr _ _) (tr _ _) (by rw[px,px,Rx.mul_comm])
def Pz.rem{n m t u d}{a e}(f:Pz n t a)(k:Pz m u e)(g:e≠[])(i:Z a+1-Z e<=d):Pz m (t+(u+1)*d) (cN a e):=
 ⟨rV f.can,bQ (xw<|o8 g) k.len,(DA k.can g f.ht k.ht).2.1.le<|fh T<|Lx (ia _ i) _⟩
def Pz.quo{n m t u d}{a e}(g:Pz n t a)(k:Pz m u e)(i:e≠[])(f:Z a+1-Z e<=d):Pz d (t+(u+1)*d) (dO a e):=
 ⟨Dy _ _,bQ (Q8 a e) f,(DA k.can i g.ht k.ht).1.le<|fh T<|Lx (ia _ f) _⟩
def Pz.aH{n t}{a}(d:Pz n t a):Pz n t (da a):=⟨po _,by rw[AL d.can];exact d.len,Rb d.can d.ht⟩
def Pz.YY{n m t u d s}{a e}(f:Pz n t a)(k:Pz m u e)(g:e≠[])(o:Z a+1-Z e<=d)(p:n<=500)(v:m<=500)(F:t+u+(u+1)*d<32*s):wH s a e:=by
 have q:=DA k.can g f.ht k.ht;have le:2^(t+(u+1)*(Z a+1-Z e))<=2^(t+(u+1)*d):=fh T<|Lx (ia _ o) _;have l:t+(u+1)*d<32*s:=O;refine⟨bQ f.len p,bQ k.len v,k.can.ne g,λi=>k.qs O i,λj x i=>?_,λB=>(rV f.can).ne B,λi=>(q.2.1.le le).qs (mB l) i⟩;by_cases hl:Z e<=Z a
 .exact((q.2.2 hl j x).le le).qs (mB l) i
 .have:j=0:=by omega
  subst this;exact f.qs O i
def akk{a d m}(e:bF a)(f:bF d)(g:bF m)(k:m≠[])(l:Z a<Z m)(n:Z d<Z m)(i:lx m∣lx a-lx d):a=d:=by refine ph e f<|Dq<|uO i ?_;rw[fj g];have:=GU (lx a)<|lx d;rw[fj e,fj f]at this;omega
def LF{a m:V D}(d:bF m)(e:m≠[]):lx m∣lx (cN a m)-lx a:=by have h:=Lr (a:=a) d e;refine m9 ?_;rw[h,Rx.uK];exact dvd_mul_left _ _
def He{a d m}(g:bF a)(i:bF d)(f:bF m)(e:m≠[])(k:Z d<Z m)(l:lx m∣lx a-lx d):cN a m=d:=
 akk (rV g) i f e (o8 e) k (og (LF f e) l)
def akl{a d m}(g:bF a)(i:bF d)(f:bF m)(e:m≠[])(k:lx m∣lx a-lx d):cN a m=cN d m:=
 He g (rV i) f e (o8 e) (og k<|m9<|LF f e)
abbrev U8:ET:= .int .u8
abbrev RW:ET:= .pr I8<|.pr I8 U8
def kj(k:G):G:=4611686018427387904+k
def yE(x:G×G×G):G:=if x.2.2%8=7 then x.1*kj x.2.2*kj x.2.2+x.2.2 else x.1
def nH(d:G):G:=if d=0 then 1 else d
def uU(x:G×G×G):G:=if x.2.2%8=6 then nH x.2.1*kj x.2.2*kj x.2.2 else nH x.2.1
def py(x:G×G×G):D:=iW (yE x)<|uU x
def lO(x:G×G×G):Prop:=(-128<=x.1/\x.1<=127)/\(-128<=x.2.1/\x.2.1<=127)/\0<=x.2.2/\x.2.2<=255
def YZ d:nH d≠0:=by unfold nH;split<;>omega
def Y0{x}(a:lO x):0<kj x.2.2/\kj x.2.2<4611686018427388160:=by unfold kj;have:=a.2.2;omega
def Rr{x}(a:lO x):uU x≠0:=by
 unfold uU;split
 .have:=(Y0 a).1;exact yq (yq (YZ _) O) O
 .exact YZ _
def Hf{x}(a:lO x):aG 2 (kj x.2.2):=by have:=Y0 a;unfold aG;omega
def Rt{x}(a:lO x):aG 1 (nH x.2.1):=aG.one (by unfold nH;have:=a.2.1;split<;>omega)
def Y1{x}(h:lO x):aG 6 (yE x):=by
 unfold yE;have d:aG 1 x.1:=aG.one Av;split
 .have e:=(d.mul<|Hf h).mul<|Hf h;have f:aG (1+2+2) x.2.2:=(aG.one (a:=x.2.2)<|by have:=h.2.2;omega).le T;exact e.add f
 .exact d.le T
def Y2{x}(a:lO x):aG 6 (uU x):=by
 unfold uU;split
 .exact((Rt a).mul<|Hf a).mul (Hf a)|>.le T
 .exact(Rt a).le T
def akm x(m:lO x):r z 38 [.a [.I .i8 x.1,.I .i8 x.2.1,.I .u8 x.2.2]] (aQ<|py x):=by
 refine aJ Tryz.func38 ?_;have v:(if x.2.2%8=7 then x.1*kj x.2.2*kj x.2.2+x.2.2 else x.1)=yE x:=rfl;have C:(if x.2.2%8=6 then nH x.2.1*kj x.2.2*kj x.2.2 else nH x.2.1)=uU x:=rfl;have i:=Hf m;have o:=Rt m;have l:=La (yE x) (uU x) (Rr m) ((Y1 m).sm T)<|(Y2 m).sm T;rw[show iW (yE x) (uU x)=py x from J]at l;generalize yE x=n at*;generalize uU x=d at*;generalize py x=q at*;obtain⟨N,D,k⟩:=x;let ⟨⟨b,A⟩,⟨d1,d2⟩,F,E⟩:=m;simp only at*;have p:=iI N O O;have s:=iI D O O;have t:r z 84 [y (4611686018427387904+k)] (aZ<|kj k):=iI _ O O;have u:=iI k O O;have H:aG 1 N:=aG.one O;have K:aG 5 k:=(aG.one (a:=k) O).le T;have L:=kd N (kj k) (H.sm T)<|i.sm T;have Q:=kd (N*kj k) (kj k) ((H.mul i).sm T)<|i.sm T;have U:=we (N*kj k*kj k) k (((H.mul i).mul i).sm T)<|K.sm T;have W:=kd (nH D) (kj k) (o.sm T)<|i.sm T;have X:=kd (nH D*kj k) (kj k) ((o.mul i).sm T)<|i.sm T;refine I J<|R<|rc J J p (rc J J s (j J ?_) (hp:=aF)) (hp:=aF);refine m0 ⟨[(1,.c<|.P 0 0),(2,.c<|.P 1000 0),(3,.c<|.P 1008000 0),(4,.c<|.P 1009000 0)],[(0,.box 57 0 [.I .i8 N,.I .i8 D,.I .u8 k]),(1000,.box 44 0 [.B ah,.V<|.slice none 0 0,.B ah,.V<|.slice none 0 0]),(1008000,.box 42 0<|av .z N),(1009000,.box 42 0<|av .z<|nH D)],10,[]⟩ ?_<|λg=>I J<|c J (λf=>?_)<|λf=>c7 ?_;rotate_left
 .have f:D=0:=eq_of_beq f;have e:nH D=1:=by rw[f];rfl
  rw[e]at g;exact cA<|rc J J (iI 1 T T)<|j J<|eZ g aU
 .have f:D≠0:=by have f:(D==0)=ah:=f;exact ne_of_beq_false f
  have e:nH D=D:=w f;rw[e]at g;exact eZ g aU
 refine R<|rc J J t (j J ?_) (hp:=aF);refine m0 ⟨[(1,.c<|.P 0 0),(2,.c<|.P 1000 0),(3,.c<|.P 1008000 0),(4,.c<|.P 1009000 0),(5,.c<|.P 10005000 0)],[(0,.box 57 0 [.I .i8 N,.I .i8 D,.I .u8 k]),(1000,.box 44 0 [.B ah,.V<|.slice none 0 0,.B ah,.V<|.slice none 0 0]),(1008000,.box 42 0<|av .z n),(1009000,.box 42 0<|av .z<|nH D),(10005000,.box 42 0<|av .z<|kj k)],20,[]⟩ ?_<|λg=>I J<|c J (λf=>?_)<|λf=>c7 ?_;rotate_left
 .have f:k%8=7:=by have f:(k.tmod 8==7)=true:=f;rw[lj F]at f;exact eq_of_beq f
  rw[ao f]at v;subst v;exact cA<|rc J J L<|rc J J Q<|rc J J u (rc J J U<|j J<|eZ g aU) (hp:=aF)
 .have f:¬k%8=7:=by have f:(k.tmod 8==7)=ah:=f;rw[lj F]at f;exact ne_of_beq_false f
  rw[w f]at v;subst v;exact eZ g aU
 refine m0 ⟨[(2,.c<|.P 1000 0),(3,.c<|.P 1008000 0),(4,.c<|.P 1009000 0)],[(1000,.box 44 0 [.B ah,.V<|.slice none 0 0,.B ah,.V<|.slice none 0 0]),(1008000,.box 42 0<|av .z n),(1009000,.box 42 0<|av .z d)],30,[]⟩ ?_<|λg=>I J<|c J (λf=>?_)<|λf=>c7 ?_;rotate_left
 .have f:k%8=6:=by have f:(k.tmod 8==6)=true:=f;rw[lj F]at f;exact eq_of_beq f
  rw[ao f]at C;subst C;exact cA<|rc J J W<|rc J J X<|j J<|eZ g aU
 .have f:¬k%8=6:=by have f:(k.tmod 8==6)=ah:=f;rw[lj F]at f;exact ne_of_beq_false f
  rw[w f]at C;subst C;exact eZ g aU
 exact R<|rc J J l<|j J<|cJ J
def iQ(x:G):D:=(x:D)
def uV(l:V G)(a:Y):V D:=eT<|(h (a+1) l).map iQ
def uW(x:V (G×G×G))(a:Y):V D:=eT<|(h (a+1) x).map py
def wP(x:G×G×G):G×G×G:=(x.1,x.2.1,0)
def wQ(x:V (G×G×G))(a:Y):V D:=uW (x.map wP) a
def LG{a e:Type}(f:a->e) d l i(g:i<Z l):((h (i+1) l).map f)=((h i l).map f)++[f (E l i d)]:=by rw[q6,fo];simp[cK g,aM]
def Y3(l:V G)(a:Y)(f:a<=1000)(k:∀x∈l,-128<=x/\x<=127):r z 61 [N I8 l,y a] (N .q<|uV l a):=by
 refine aJ Tryz.func61<|ui 0 J λg=>?_;have g:Z l*1<=140737488355328:=g;refine I J<|R<|fM .q [] J J (j J<|M<|I J ?_);refine ay<|bf (α:=Y) (λi=>⟨[(0,N I8 l),(1,y a),(5,.c<|.X 1000000),(6,y i)],[(1000000,.vec 44 .q<|(List.take i l).map iQ)],3,[]⟩) (λi=>i<=Z l/\i<=a+1) (λi=>Z l-i) 0 ⟨a8 _,a8 _⟩ aU ?_;rintro i ⟨o,m⟩;refine M<|R<|rg 12 J J (λh=>?_)<|λh=>?_
 .have h:i<Z l:=by have h:(i:G)<(Z l:G):=aT h;omega
  refine j J<|c J (λh2=>?_)<|λh2=>?_
  .have h2:i<=a:=by have h2:(i:G)<=a:=aT h2;omega
   have d:=LG iQ 0 l i h;have p:=k (E l i 0) Ru;have n:r z 30 [y (E l (af (i:G)) 0)] (aQ<|iQ<|E l i 0):=by rw[b6];exact CZ _ O O
   have s: -9223372036854775808<=E l (af (i:G)) I8.dA/\E l (af (i:G)) I8.dA<=9223372036854775807:=by rw[b6];show-9223372036854775808<=E l i 0/\E l i 0<=9223372036854775807;omega
   refine aD<|M<|ay<|cA<|rc J J n (rl .q [iQ (E l i 0)] J J (ra J J J J J J J J J ?_ ?_<|j J<|bH<|rt J<|aS (i+1) ⟨O,O⟩ wR<|Wk.trans (wk (st':=⟨[(0,N I8 l),(1,y a),(5,.c<|.X 4008000),(6,y ((i+1:Y):G))],[(4008000,.vec 44 .q<|(List.take (i+1) l).map iQ)],6,[]⟩) ⟨sR J,sR J,sR J,sE J ?_,A⟩ ⟨bE J ?_,A⟩)<|Wk.trans (gw 1000000 4008000 J J J) aU)) (hp:=?_)
   .show(_+1+(_+1)/4+192)*64<=_;simp only[cR,fQ];omega
   .show(_+1)*4<=_;simp only[cR,fQ];omega
   .rfl
   .rw[d]
   .simp only[Pr.an,Pr.h,num,gf,true_and,and_true];first|done|omega
  .have h2:¬i<=a:=by have h2:¬(i:G)<=a:=a4 h2;omega
   have e:=AM ((List.take i l).map iQ) DB;rw[show eT ((List.take i l).map iQ)=uV l a by rw[uV,(O:i=a+1)]]at e;exact bh<|aI<|c8 1000000 J J J<|bw J J e J<|cJ J
 .have h:i=Z l:=by have h:¬(i:G)<(Z l:G):=a4 h;omega
  have e:=AM ((List.take i l).map iQ) DB;rw[show eT ((List.take i l).map iQ)=uV l a by rw[uV,iO O,iO O]]at e;refine j J<|c J (λh2=>oZ)<|λ_=>?_;exact bh<|aI<|c8 1000000 J J J<|bw J J e J<|cJ J
end Go.El
namespace Go.El
open Go Go.Proofs Go.RowKit
def Y4(a:V G){X:Y}(d:∀i,aA (E a i 0)<=X):∀i,ln a i<=i*X
 |0=>by simp[ln]
 |i+1=>by have:=Y4 a d i;have:=d i;rw[ln,gk];omega
def Y5 a{d}(e:∀i,aG d (E a i 0)){i}(f:i<=13):aG (d+1) ((ln a i:Y):G):=by unfold aG at*;have g:=Y4 a (λi=>xw<|e i) i;have k:=ef (4294967296^d) f;have l:=iA (n:=d) (T:0<4294967296);rw[ob,fp];omega
end Go.El
