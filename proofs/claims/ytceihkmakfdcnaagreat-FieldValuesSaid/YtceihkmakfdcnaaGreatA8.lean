/- The engine, part 47: a box is frozen; contracts that use up the blocks that they are handed; a slice of slices that a call reads in place. Own work; no condition. -/
import Derived.Test.YtceihkmakfdcnaaGreatA7
import Derived.Test.YtceihkmakfdcnaaGreatA4
import Derived.Test.YtceihkmakfdcnaaGreatA6
set_option linter.all false
set_option maxHeartbeats 16000000
set_option maxRecDepth 100000
open Bool renaming false->ah
open Go.El renaming cS->I,rr->N,asM->R,Pb->U,iO->o,re->s,cI->j,rb->w,Cy->y
open Go.Proofs.Tryz renaming prog->z
open Int renaming toNat->ae,natAbs->aC
open List renaming length->Z,getD->E,range->cc,take->h,replicate->bp
open Option renaming some->ad
open Rat renaming sub_eq_add_neg->akl,mul_add->Y1,add_neg_cancel->akm,divInt->iU
open _root_ renaming List->V,Nat->Y,Rat->D,Int->O
namespace Go.El
open Go Go.Proofs Go.RowKit
def Hg(g:Gh)(fm:V (Y×aN))(c:Y):Prop:=∃a d,o a fm=ad d/\cy (g.γ a)=ad c
def akh(g:Gh)(W:World)(fm:V (Y×aN))(r:AV)(d:Ending)(c:World):Prop:=
 ∃v a,d= .returned v/\bG ⟨a,jv⟩ r v/\cK g.H a/\(∀b o,b<W.heap.size->¬Hg g fm b->a b o=g.H b o)/\Sub a c/\BW (Hg g fm) W c
structure LS(P:Program)(f:FuncId)(args:V AV)(fm:V (Y×aN))(r:AV):Prop where
 call:ob P f=true
 iC:r.ak=[]
 spec:∀g W vs,Sub g.H W->ff g args vs->(∀c b,o c fm=ad b->ik (λ_=>True) g W c b)->(∀c a b d k,o c fm=ad b->o a fm=ad d->cy (g.γ c)=ad k->cy (g.γ a)=ad k->c=a)->Calls P f vs.toArray W (akh g W fm r)
def YS(P:Program)(f:Func)(r:AV):lH:=λF e a W=>bodyPost P f (λe d=>∃v c,e= .returned v/\bG ⟨c,jv⟩ r v/\cK F.H0 c/\(∀b o,b<F.w0.heap.size->¬F.own b->c b o=F.H0 b o)/\Sub c d/\BW F.own F.w0 d) e a W
section
variable{P:Program}{tt:TT}{n:Y}{st:St}
def YT(d:cd P tt=true){k}{l}{m r}(p:lI tt st l=ad m)(f:bf m r)(i:k.results=l.toArray:=by rfl)(t:r.ak=[]:=by rfl):e9 n .ret st (YS P k r):=by intro F v g W a h;let ⟨u,hu,c⟩:=CB d h i p;exact⟨h.defers.trans v.ds,u,hu,u,g.H,J,(f.1 _ _ c).iC t (cK.refl _) jv,h.le,h.fresh,h.sub,h.below⟩
def aki{f}{A}{c}{args}{fm}{r}p(hf:P.funcs[f]? =ad A)(hb:A.body=ad c)(hN:A.ntmps=n)(B:Nat.ble args.length n=true)(Gg:∀d∈cY args,d<1000000*p)(L:Lh (1000000*p) fm)(Gi:r.ak=[])(uf:(A.name != "runtime.NumGoroutine")=true)
  (cF:TR P n c ⟨dv 0 args,fm,p,[]⟩ (YS P A r)):LS P f args fm r:=by
 refine⟨CE,Gi,?_⟩
 intro g W vs C l K M
 refine calls_of_wp hf hb ?_
 have w:=xL l
 have B:=dc B
 have i:∀d b,St.kn ⟨dv 0 args,fm,p,[]⟩ (.m d)=ad (.b b)->o d fm=ad b:=by intro d b e;simp only[St.kn,cL]at e;let ⟨x,hx,he⟩:=e;cases he;exact hx
 let F:eP:={w0:=W,H0:=g.H,n:=n,own:=Hg g fm,k0:=0}
 refine wp_mono (cF F ⟨J,be _,J,J⟩ g W _ ⟨?_,J,?_,?_,?_,?_,?_,C,⟨J,J,J,a7 _,λ_ _ _=>rfl⟩,cK.refl _,λ_ _ _ _=>rfl,λ_ cF=>absurd cF<|CF _⟩)<|λe a U E=>E
 .simp[hN,F];omega
 .intro t v z;simp only[St.kn,cL]at z;let ⟨x,hx,he⟩:=z;cases he;let ⟨_,u,hu,G,_⟩:=nL args vs 0 l t v hx;have Q:vs[t]? =ad u:=xM;have iN:t<Z vs:=(sB.1 Q).1;have:(vs.toArray++Array.replicate (A.ntmps-vs.toArray.size) undef).getD t undef=u:=by rw[nI,zZ CG];simp[Q]
  rw[this];exact G
 .intro d b e;have q:=i d b e;exact(K d b q).CW (λk I=> .inr ⟨d,b,q,I⟩) J J ⟨cK.refl _,λ_ _=>rfl⟩
 .intro d S b D k e q N O;exact M d S b D k (i d b e) (i S D q) N O
 .intro k x e d X;cases k with
  |m j=>
   cases x with
   |v y=>simp only[St.kn,cL]at e;let ⟨_,_,he⟩:=e;cases he
   |b b=>exact(L j b<|i j b e).2 d X
  |s t=>
   simp only[St.kn,cL]at e
   let ⟨y,R,he⟩:=e
   subst he
   let ⟨_,u,_,_,T⟩:=nL args vs 0 l t y R
   exact Gg d<|T d X
 .intro d x e;cases x with
  |v y=>simp only[St.kn,cL]at e;let ⟨_,_,he⟩:=e;cases he
  |b b=>exact(L d b<|i d b e).1
def LU{c:Type}{d:Y}{f:c}:∀{l:V (Y×c)},o d l=ad f->d∈l.map (·.1)
 |[],a=>by simp[o]at a
 | (i,x)::l,a=>by
  simp only[o]at a;split at a
  .rename_i g;simp[g]
  .exact jT _<|LU a
def YU{d:Type}{c:Y}:∀{l:V (Y×d)},c∈l.map (·.1)->∃f,o c l=ad f
 |[],a=>by cases a
 | (i,x)::l,a=>by
  simp only[o];split
  .exact⟨x,J⟩
  .rename_i g;rcases bY.1 a with a|a
   .exact absurd a.symm g
   .exact YU a
def AK(l:V Y):∀k,aE (l.map λa=>((.m a:Key),(none:Option Info))) k=(match k with| .m a=>if a∈l then ad none else none| .s _=>none):=by
 induction l with
 |nil=>intro k;cases k<;>simp[aE]
 |cons x l c=>
  intro k
  simp only[hJ,aE]
  cases k with
  |s t=>simp[c]
  |m a=>
   by_cases e:x=a
   .subst e;simp
   .simp only[Key.m.injEq,e,bN,c,bY];have:¬a=x:=λh=>e h.symm
    simp[this]
def akj{n new}{ops}{i}{aI:Oper}(ho:ops[i]? =ad aI)(hg:aI.guard=none){d:Y}(hd:aI.dst=ad d)(di:d<n){f}{args}{jZ}(bV:aI.op= .call ⟨.value<|.func f,args,jZ⟩)
 {sl}{p fm}{nx:Y} {gd:V (Y×Bool)} {vs:V AV} {r:AV} (hv:jw ⟨sl,p++fm,nx,gd⟩ args.toList=ad vs) (hf:LS P f vs fm r) (YV:∀c l,o c fm=ad l->o c p=none):
  kI P n ops i ⟨sl,p++fm,nx,gd⟩ ⟨(d,r)::sl,p,nx,gd⟩ new (bF args.toList++cX (fm.map (·.1)),.s d::(fm.map (·.1)).map .m):=by
 have I:∀c l,o c fm=ad l->o c (p++fm)=ad l:=λc l B=>by rw[QL,YV c l B,B];rfl
 refine⟨args.toList.flatMap (cE ⟨sl,p++fm,nx,gd⟩)++fC ⟨sl,p++fm,nx,gd⟩ (fm.map (·.1)),(.s d,ad<|.v r)::(fm.map (·.1)).map (λc=>(.m c,none)),?_,?_,?_,?_,?_⟩
 .intro F kE Q known σ g W a K vk aW U hK;have O:=Cw aW _ _ _ hv<|λT C=>U T<|eh _ C;have oh:=vW (st:=⟨sl,p++fm,nx,gd⟩) (ids:=fm.map (·.1)) (σ:=σ)<|λT C=>U T<|fZ _ C;have z:∀c l,o c fm=ad l->σ (.m c)=ad (.b l):=λc l B=>oh c (LU B) l (I c l B)
  have hc:=hf.spec g W _ aW.sub O (λc l B=>(aW.c8 c l<|z c l B).CW (λ_ _=>trivial) J J ⟨cK.refl _,λ_ _=>rfl⟩)<|λc Z l b' k H y h3 h4=>aW.inj c Z l b' k (z c l H) (z Z b' y) h3 h4;unfold wpOp;simp only[ho,Region.wanted,hg,b9];refine .inl ?_;unfold Oper.wp;have Gg:args.map a.eval=(args.toList.map a.eval).toArray:=zS;have hex:(execOp a.eval aI).run P W= .ok (.enter f (args.toList.map a.eval).toArray) W:=by
   have L:=hf.call;unfold ob at L;rw[execOp,bV];cases R:P.funcs[f]? with
   |none=>rw[R]at L;simp at L
   |some fn=>
    rw[R]at L
    simp only[cr,bne_iff_ne,ne_eq]at L
    have y:fn.body≠none:=by intro B;rw[B]at L;simp at L
    simp[resolve,Act.eval,Deferred.ofValue,invoke,callFunc,R,L.1,y]
    exact Gg
  rw[hex];simp only[Oper.upon];refine hc.mono ?_;rintro A W' ⟨v,H',rfl,Hh,hle,xP,vM,X⟩;simp only[hd];have jU:d<a.tmps.size:=mj;have E:fY (λ_=>True) g ⟨H',g.γ⟩:=⟨hle,λ_ _=>rfl⟩;have hN:∀l,Hg g fm l->F.N l:=by rintro l ⟨c,bb,H,y⟩;exact((aW.c8 c bb<|z c bb H).block y).1
  have hM:∀j l,bH σ ((.s d,ad<|.v r)::(fm.map (·.1)).map (λc=>(.m c,none))) (.m j)=ad (.b l)->σ (.m j)=ad (.b l)/\∀k,cy (g.γ j)=ad k->¬Hg g fm k:=by
   intro j l B;simp only[bH,aE,reduceCtorEq,bN,AK]at B;by_cases A:j∈fm.map (·.1)
   .rw[aq A]at B;cases B
   .rw[b A]at B;refine⟨B,λk M=>?_⟩;rintro⟨c,bb,H,y⟩;have:=aW.inj j c l bb k B (z c bb H) M y;subst this;exact A<|LU H
  refine hK ⟨H',g.γ⟩ W' _ ⟨by simp[Act.put,aW.size],aW.defers,?_,?_,?_,?_,?_,vM,?_,aW.le.trans hle,?_,λc q=>⟨.inl (aW.gW c q).1,(aW.gW c q).2⟩⟩
  .intro t u ht;simp only[bH,aE,AK]at ht;by_cases A:d=t
   .subst A;simp only[b9,ar,Info.v.injEq]at ht;subst ht;have:=Hh.iC hf.iC (cK.refl _) g.γ;simpa[Act.put,jU]using this
   .have e':¬(Key.s d=Key.s t):=λh=>A dH
    simp only[e',bN]at ht;have hv:(a.put (ad d) v).tmps.getD t undef=a.tmps.getD t undef:=by simp[Act.put,k7 A]
    rw[hv];exact bG.mono E (λ_ _=>trivial)<|aW.eC t u ht
  .intro j l B;let ⟨H,y⟩:=hM j l B;have G:=aW.c8 j l H;refine G.v5 E e (λ_ _=>trivial)<|λk M=>?_;have w:=(G.block M).2;exact⟨X.block k w<|y k M,λaI=>xP k aI w<|y k M⟩
  .intro j j' l b' k B nE H y;exact aW.inj j j' l b' k (hM j l B).1 (hM j' b' nE).1 H y
  .intro k x S c q;cases k with
   |s t=>
    simp only[bH,aE,AK]at S
    by_cases A:d=t
    .subst A;simp only[b9,ar]at S;subst S;have:c∈r.ak:=q;rw[hf.iC]at this;cases this
    .have e':¬(Key.s d=Key.s t):=λh=>A dH
     simp only[e',bN]at S;exact .inl<|aW.ak _ _ S c q
   |m j=>
    simp only[bH,aE,reduceCtorEq,bN,AK]at S
    by_cases A:j∈fm.map (·.1)
    .rw[aq A]at S;cases S
    .rw[b A]at S;exact .inl<|aW.ak _ _ S c q
  .intro j x S;simp only[bH,aE,reduceCtorEq,bN,AK]at S;by_cases A:j∈fm.map (·.1)
   .rw[aq A]at S;cases S
   .rw[b A]at S;exact .inl<|aW.dO _ _ S
  .refine⟨X.os.trans aW.below.os,X.tape.trans aW.below.tape,X.output.trans aW.below.output,cj aW.below.size X.size,λk M D=>?_⟩;have w:k<W.heap.size:=iz M aW.below.size;rw[<-aW.below.block k M D];refine X.block k w<|λho=>?_;rcases hN k ho with H|H
   .omega
   .exact D H
  .intro k aI M D;have w:k<W.heap.size:=iz M aW.below.size;show H' k aI=_;rw[xP k aI w (λho=>?_)]
   .exact aW.fresh k aI M D
   .rcases hN k ho with H|H
    .omega
    .exact D H
 .intro T C;rcases bg.1 C with C|C
  .let ⟨x,_,h⟩:=iP.1 C;exact eG _ x T h
  .exact k9 _ _ T C
 .funext k;cases k with
  |s t=>
   simp only[bH,aE,AK,St.kn,o]
   by_cases A:d=t
   .simp[A]
   .have e':¬(Key.s d=Key.s t):=λh=>A dH
    simp[A,e']
  |m j=>
   simp only[bH,aE,reduceCtorEq,bN,AK,St.kn]
   by_cases A:j∈fm.map (·.1)
   .rw[aq A];let ⟨l,B⟩:=YU A;simp[YV j l B]
   .rw[b A];show _=Option.map Info.b (o j<|p++fm);rw[QL];cases H:o j fm with
    |some l=>exact absurd (LU H) A
    |none=>rw[Option.or_none]
 .intro k M;simp only[dx,fe,bg]at M;rcases M with h|h
  .exact eh _<|eo _ _ k h
  .exact fZ _<|jY _ _ k h
 .intro k M;simp only[fJ,hJ,bY,LA]at M;rcases M with h|h
  .exact bY.2<|.inl h
  .refine bY.2<|.inr ?_;simpa[Function.comp]using h
end
section
variable{n:Y}{Q:lH}{sl cu:V (Y×AV)}{mem cv:V (Y×aN)}{nx:Y}{gd cJ:V (Y×Bool)}{ops:Array Oper}{draw:Bool}{p:Pr}{ks dJ:V Ks}{i i' n0 cM:Y}{os dX:V Oper}{d:Y}{ty:TypeId}{pos:String}{iS:Array Edge}{R:St->Prop}
def rcc{f}{args}{c}{conc fm}{vs}{r}(l:runs dK n nx draw ops.toList os i ⟨sl,mem,n0,gd⟩ .t ks=(⟨ad d,.call ⟨.value<|.func f,args,c⟩,ty,pos,iS,none⟩::dX,i',⟨cu,conc++fm,cM,cJ⟩,p,dJ))(u:jw ⟨cu,conc++fm,cM,cJ⟩ args.toList=ad vs)(v:LS z f vs fm r)(a:∀k x,o k fm=ad x->o k conc=none)
  (A:RG z n ops draw nx (i'+1) dX ⟨(d,r)::cu,conc,cM,cJ⟩ (gJ draw dJ (bF args.toList++cX (fm.map (·.1)),.s d::(fm.map (·.1)).map .m)) R)
  (B:p:=by exact agJ) (g:Nat.blt d n=true:=by rfl):RG z n ops draw nx i os ⟨sl,mem,n0,gd⟩ ks R:=
 lj cq l B (mu (λC=>akj C J J (dc g) J u v a)<|mz A)
end
def eY(a c:V D):V D:=if Z a<Z c then a else eV ((dm (E c (Z c-1) 0)⁻¹ a c (Z c-1) (Z a+1-Z c) (Z a+1-Z c)).2.take<|Z c-1)
def dZ(r:V D):V D:=if r=[]then[]else eV (tf (E r (Z r-1) 0)⁻¹ r)
def jl:Y->V D->V D->V D
 |0,a,_=>a
 |k+1,a,c=>if c=[]then a else jl k c (dZ<|eY a c)
structure AL(s:Y)(a b:V D):Prop where
 la:a.length<=500
 lb:b.length<=500
 bn:b.getD (b.length-1) 0≠0
 qb:∀i,QS s (b.getD i 0)
 qS:∀c,c<=a.length+1-b.length->∀i,QS s ((dm (b.getD (b.length-1) 0)⁻¹ a b (b.length-1) (a.length+1-b.length) c).2.getD i 0)
 rn:eY a b≠[]->(eY a b).getD ((eY a b).length-1) 0≠0
 qr:∀i,QS s ((eY a b).getD i 0)
def yq(d:Y):Y->V D->V D->Prop
 |0,_,c=>c=[]
 |k+1,a,c=>c=[]\/(AL d a c/\yq d k c (dZ<|eY a c))
def DL l:Z (eV l)<=Z l:=Ro
def yr{a c}(d:c≠[]):Z (eY a c)<Z c:=by
 have f:=cQ.2 d;unfold eY;split
 .assumption
 .exact uv (DL _) GJ
abbrev UT:ET:= .pr (.sl .q) mC
def sq(f:Y->D):Y->D
 |0=>0
 |k+1=>sq f k+f k
def th{f g:Y->D}:∀{k:Y},(∀i,i<k->f i=g i)->sq f k=sq g k
 |0,_=>rfl
 |k+1,a=>by rw[sq,sq,th<|λi c=>a i G,a k G]
def LV{f:Y->D}{k}(a:∀i,i<k->f i=0):sq f k=0:=by
 induction k with
 |zero=>rfl
 |succ k c=>rw[sq,c<|λi d=>a i G,a k G,nQ]
def Rp(f g:Y->D):∀k,sq (λi=>f i+g i) k=sq f k+sq g k
 |0=>(nQ 0).symm
 |k+1=>by simp only[sq,Rp f g k];grind
def LW(c:D)(f:Y->D):∀k,sq (λi=>c*f i) k=c*sq f k
 |0=>by simp only[sq];grind
 |k+1=>by simp only[sq,LW c f k];grind
def akk c(f:Y->D) k:sq (λi=>f i*c) k=sq f k*c:=by rw[DM,<-LW];exact th<|λi _=>DM _ _
def YW(f:Y->D):∀k,sq f (k+1)=f 0+sq (λi=>f<|i+1) k
 |0=>by simp only[sq];grind
 |k+1=>by rw[sq,YW f k,sq];grind
def YX(f:Y->D):∀k,sq f k=sq (λi=>f<|k-1-i) k
 |0=>rfl
 |k+1=>by rw[sq,YX f k,YW<|λi=>f<|k+1-1-i];have:sq (λi=>f<|k+1-1-(i+1)) k=sq (λi=>f<|k-1-i) k:=th (λi _=>by congr 1;omega);rw[this,(G:k+1-1-0=k)];grind
def YY(F:Y->Y->D):∀n,sq (λi=>sq (λa=>F i a)<|i+1) n=sq (λa=>sq (λk=>F (a+k) a)<|n-a) n
 |0=>rfl
 |n+1=>by
  rw[sq,YY F n];have c:sq (λa=>sq (λk=>F (a+k) a)<|n+1-a) n=sq (λa=>sq (λk=>F (a+k) a) (n-a)+F n a) n:=by refine th<|λa d=>?_;rw[(G:n+1-a=(n-a)+1),sq,(G:a+(n-a)=n)]
  rw[show sq (λa=>sq (λk=>F (a+k) a)<|n+1-a) (n+1)=sq (λa=>sq (λk=>F (a+k) a)<|n+1-a) n+sq (λk=>F (n+k) n) (n+1-n)from J,c,Rp];rw[(G:n+1-n=1),show sq (λa=>F n a) (n+1)=sq (λa=>F n a) n+F n n from J,show sq (λk=>F (n+k) n) 1=0+F (n+0) n from J,jd];grind
def LX{f:Y->D}{a:Y}:∀{n:Y},a<n->(∀i,i<n->i≠a->f i=0)->sq f n=f a
 |0,d,_=>by omega
 |n+1,d,c=>by
  rw[sq];by_cases g:a=n
  .subst g;rw[LV (λi k=>c i G G),Hf]
  .rw[LX (n:=n) G (λi k=>c i G),c n G G,nQ]
def YZ(A B:Y->D)(n:Y):D:=sq (λi=>A i*B (n-i))<|n+1
structure Rx where
 v:Y->D
 fin:∃n,∀i,n<=i->v i=0
namespace Rx
instance:CoeFun Rx (λ_=>Y->D):=⟨λA=>A.v⟩
def ext{A B:Rx}(a:∀i,A i=B i):A=B:=by cases A;cases B;have e:=funext a;simp only at e;subst e;rfl
def Y0{A B:Y->D}{m n}(a:∀i,m<=i->A i=0)(c:∀i,n<=i->B i=0):∀i,m+n<=i+1->YZ A B i=0:=λi d=>LV λj f=>by
 by_cases e:m<=j
 .rw[a j e,qO]
 .rw[c (i-j) G,fN]
instance:Add Rx:=⟨λA B=>⟨λi=>A i+B i,by obtain⟨m,a⟩:=A.2;obtain⟨n,c⟩:=B.2;exact⟨m+n,λi d=>by show A.v i+B.v i=0;rw[a i G,c i G,nQ]⟩⟩⟩
instance:Mul Rx:=⟨λA B=>⟨YZ A.v B.v,by obtain⟨m,a⟩:=A.2;obtain⟨n,c⟩:=B.2;exact⟨m+n,λi d=>Y0 a c i G⟩⟩⟩
instance:Neg Rx:=⟨λA=>⟨λi=> -A i,by obtain⟨m,a⟩:=A.2;exact⟨m,λi c=>by show-A.v i=0;rw[a i c,Rat.neg_zero]⟩⟩⟩
def K(c:D):Rx:=⟨λi=>if i=0 then c else 0,1,λi a=>b G⟩
instance:_root_.Sub Rx:=⟨λx y=>x+ -y⟩
instance:OfNat Rx 0:=⟨⟨λ_=>0,0,λ_ _=>rfl⟩⟩
instance:OfNat Rx 1:=⟨K 1⟩
def eI(A B:Rx) i:(A+B) i=A i+B i:=rfl
def GP(A:Rx) i:(-A) i= -A i:=rfl
def yg(A B:Rx) i:(A-B) i=A i-B i:=(akl _ _).symm
def lP i:(0:Rx) i=0:=rfl
def eW(A B:Rx) n:(A*B) n=sq (λi=>A i*B (n-i)) (n+1):=rfl
def nk c i:K c i=if i=0 then c else 0:=rfl
def fV c A i:(K c*A) i=c*A i:=by rw[eW,LX (a:=0) G<|λj _ d=>by rw[nk,b d,qO]];rfl
def add_comm(x a:Rx):x+a=a+x:=ext λi=>Rat.add_comm _ _
def add_assoc(x a c:Rx):x+a+c=x+(a+c):=ext λi=>Rat.add_assoc _ _ _
def mul_comm(A B:Rx):A*B=B*A:=by
 refine ext λn=>?_
 rw[eW,eW,YX];refine th<|λi a=>?_;rw[DM,(G:n-(n+1-1-i)=i)];rfl
def mul_assoc(A B C:Rx):A*B*C=A*(B*C):=by
 refine ext λn=>?_
 rw[eW,eW];have a:sq (λi=>(A*B) i*C (n-i)) (n+1)=sq (λi=>sq (λj=>A j*B (i-j)*C (n-i))<|i+1) (n+1):=th (λi _=>by rw[eW,akk]);rw[a,YY<|λi j=>A j*B (i-j)*C (n-i)];refine th<|λj c=>?_;rw[eW,<-LW,(G:n+1-j=n-j+1)];refine th<|λk d=>?_;rw[oD,(G:j+k-j=k),(G:n-(j+k)=n-j-k)]
def mul_add(A B C:Rx):A*(B+C)=A*B+A*C:=by
 refine ext λn=>?_
 rw[eI,eW,eW,eW,<-Rp];exact th (λi _=>by rw[eI,Y1])
def add_mul(x c a:Rx):(x+c)*a=x*a+c*a:=by rw[mul_comm,mul_add,mul_comm a x,mul_comm a c]
def zero_add(x:Rx):0+x=x:=ext λi=>Hf _
def add_zero(x:Rx):x+0=x:=by rw[add_comm,zero_add]
def one_mul(x:Rx):1*x=x:=ext λi=>(fV 1 x i).trans<|qP _
def mul_one(x:Rx):x*1=x:=by rw[mul_comm,one_mul]
def zero_mul(x:Rx):0*x=0:=ext λn=>by rw[eW];exact LV λi _=>by rw[lP,qO]
def mul_zero(x:Rx):x*0=0:=by rw[mul_comm,zero_mul]
def add_neg(x:Rx):x+ -x=0:=ext λi=>akm _
def neg_add(x:Rx): -x+x=0:=by rw[add_comm,add_neg]
def sub_def(x a:Rx):x-a=x+ -a:=rfl
instance:Std.Associative (α:=Rx) (·+·):=⟨add_assoc⟩
instance:Std.Commutative (α:=Rx) (·+·):=⟨add_comm⟩
instance:Std.Associative (α:=Rx) (·*·):=⟨mul_assoc⟩
instance:Std.Commutative (α:=Rx) (·*·):=⟨mul_comm⟩
def add_left_cancel{x a c:Rx}(d:x+a=x+c):a=c:=by have:=a8 (-x+·) d;simpa only[<-add_assoc,neg_add,zero_add]using this
def kU(x a:Rx):x-a+a=x:=by rw[sub_def,add_assoc,neg_add,add_zero]
def wI(x a:Rx):x+a-a=x:=by rw[sub_def,add_assoc,add_neg,add_zero]
def Hi{x a c:Rx}(d:x+a=c):x=c-a:=by rw[<-d,wI]
def sub_eq{x a c:Rx}(d:x=c+a):x-a=c:=by rw[d,wI]
def sub_self(x:Rx):x-x=0:=add_neg x
def sub_zero(x:Rx):x-0=x:=sub_eq (add_zero x).symm
def DN{x a:Rx}(c:x-a=0):x=a:=by rw[<-kU x a,c,zero_add]
def sub_mul(x c a:Rx):(x-c)*a=x*a-c*a:=Hi (by rw[<-add_mul,kU])
def mul_sub(x a c:Rx):x*(a-c)=x*a-x*c:=by rw[mul_comm,sub_mul,mul_comm a,mul_comm c]
def neg_mul(x a:Rx): -x*a= -(x*a):=add_left_cancel (x:=x*a) (by rw[<-add_mul,add_neg,add_neg,zero_mul])
def neg_neg(x:Rx): - -x=x:=add_left_cancel (x:= -x) (by rw[add_neg,neg_add])
def neg_sub(x a:Rx): -(x-a)=a-x:=add_left_cancel (x:=x-a) (by rw[add_neg,sub_def,sub_def];have:x+ -a+(a+ -x)=(x+ -x)+(-a+a):=fc;rw[this,add_neg,neg_add,add_zero])
def Hj(x a c:Rx):(x-a)+(a-c)=x-c:=by rw[sub_def,sub_def,sub_def];have:x+ -a+(a+ -c)=x+ -c+(-a+a):=fc;rw[this,neg_add,add_zero]
def LY(x d a c:Rx):(x+d)-(a+c)=(x-a)+(d-c):=sub_eq (by have:x-a+(d-c)+(a+c)=(x-a+a)+(d-c+c):=fc;rw[this,kU,kU])
instance:Dvd (Rx):=⟨λa b=>∃w,b=w*a⟩
def dvd_refl(a:Rx):a∣a:=⟨1,(one_mul a).symm⟩
def dvd_zero(a:Rx):a∣0:=⟨0,(zero_mul a).symm⟩
def dvd_trans{a d c:Rx}(f:a∣d)(k:d∣c):a∣c:=by obtain⟨w,rfl⟩:=f;obtain⟨v,rfl⟩:=k;exact⟨v*w,(mul_assoc v w a).symm⟩
def dvd_mul_left(a c:Rx):a∣c*a:=⟨c,J⟩
def dvd_mul_right(a c:Rx):a∣a*c:=⟨c,mul_comm a c⟩
def dV{a d}(f:a∣d)(c:Rx):a∣c*d:=dvd_trans f<|dvd_mul_left d c
def lv{a d}(f:a∣d)(c:Rx):a∣d*c:=dvd_trans f<|dvd_mul_right d c
def dvd_add{a d c:Rx}(f:a∣d)(k:a∣c):a∣d+c:=by obtain⟨w,rfl⟩:=f;obtain⟨v,rfl⟩:=k;exact⟨w+v,(add_mul w v a).symm⟩
def dvd_neg{a c:Rx}(d:a∣c):a∣-c:=by obtain⟨w,rfl⟩:=d;exact⟨-w,(neg_mul w a).symm⟩
def dvd_sub{a d c:Rx}(f:a∣d)(k:a∣c):a∣d-c:=dvd_add f<|dvd_neg k
def wJ{a d c:Rx}(f:a∣d+c)(k:a∣d):a∣c:=by have:=dvd_sub f k;rwa[add_comm d c,wI]at this
def akn{a d c:Rx}(f:a∣d-c)(k:a∣c):a∣d:=by have:=dvd_add f k;rwa[kU]at this
def nl{a d c:Rx}(f:a∣d-c):a∣c-d:=by rw[<-neg_sub];exact dvd_neg f
def nR{a f c d:Rx}(g:a∣f-c)(k:a∣c-d):a∣f-d:=by rw[<-Hj f c d];exact dvd_add g k
def LZ{a f c d g:Rx}(i:a∣f-c)(k:a∣d-g):a∣(f+d)-(c+g):=by rw[LY];exact dvd_add i k
def pH{a f c d g:Rx}(i:a∣f-c)(k:a∣d-g):a∣f*d-c*g:=by
 have:f*d-c*g=(f-c)*d+c*(d-g):=by rw[sub_mul,mul_sub,Hj]
 rw[this];exact dvd_add (lv i d)<|dV k c
def mJ(a c:Rx):a∣c-c:=by rw[sub_self];exact dvd_zero a
def pk(a:Rx):Y->Rx
 |0=>1
 |n+1=>pk a n*a
def qQ a:pk a 1=a:=one_mul a
def wK(a:Rx)(m:Y):∀n,pk a (m+n)=pk a m*pk a n
 |0=>(mul_one _).symm
 |n+1=>by rw[<-qk,pk,pk,wK a m n,mul_assoc]
def tj(a:Rx)(m:Y):∀n,pk a (m*n)=pk (pk a m) n
 |0=>rfl
 |n+1=>by rw[Nat.mul_succ,wK,pk,tj a m n]
def tk(a c:Rx):∀n,pk (a*c) n=pk a n*pk c n
 |0=>(one_mul 1).symm
 |n+1=>by rw[pk,pk,pk,tk a c n];ac_rfl
def AM:∀n,pk (1:Rx) n=1
 |0=>rfl
 |n+1=>by rw[pk,AM n,one_mul]
def X(k:Y):Rx:=⟨λi=>if i=k then 1 else 0,k+1,λi a=>b G⟩
def DO k i:X k i=if i=k then 1 else 0:=rfl
def mG k A i:(X k*A) i=if k<=i then A (i-k)else 0:=by
 rw[eW];by_cases h:k<=i
 .rw[aq h,LX (a:=k) G (λj _ c=>by rw[DO,b c,qO]),DO,aq J,qP]
 .rw[b h];exact LV (λj c=>by rw[DO,b G,qO])
def ako:X 0=1:=rfl
def Az a c:K (a+c)=K a+K c:=ext λi=>by rw[eI,nk,nk,nk];split<;>grind
def eX a c:K (a*c)=K a*K c:=ext λi=>by rw[fV,nk,nk];split<;>grind
def nP:K 0=0:=ext λi=>by rw[nk,lP];split<;>rfl
def nS:K 1=1:=rfl
def Y2 a:K (-a)= -K a:=add_left_cancel (x:=K a) (by rw[<-Az,akm,nP,add_neg])
def akp a c:K (a-c)=K a-K c:=by rw[akl,Az,Y2,sub_def]
def Rq{a c}(d:K a=K c):a=c:=a8 (λA:Rx=>A 0) d
def pI{c}(a:c≠0):K c⁻¹ *K c=1:=by rw[<-eX,nT c a,nS]
def lx(a:V D):Rx:=⟨λi=>E a i 0,Z a,λi c=>by rw[aV,jQ c];rfl⟩
def gx a i:lx a i=E a i 0:=rfl
def pJ:lx []=0:=ext λi=>rfl
def Hk c:lx [c]=K c:=ext λi=>by
 cases i with
 |zero=>rfl
 |succ i=>rfl
def L0 c a:lx (c::a)=K c+X 1*lx a:=ext λi=>by
 rw[eI,mG];cases i with
 |zero=>rw[b G];show c=K c 0+0;rw[nk,aq J,nQ]
 |succ i=>rw[aq G];show E a i 0=K c (i+1)+E a i 0;rw[nk,b G,Hf]
def bS(a:V D):Prop:=a=[]\/E a (Z a-1) 0≠0
def uB:bS []:= .inl J
def iE(a:V D){i}(c:Z a<=i):E a i 0=0:=by rw[aV,jQ c];rfl
def bS.top{a}(c:bS a){n}(d:Z a=n+1):E a n 0≠0:=by
 rcases c with c|c
 .subst c;simp at d
 .rwa[d,dE]at c
def Y3{a c:V D}(d:Z a=Z c)(f:∀i,E a i 0=E c i 0):a=c:=by refine sL d<|λi g k=>?_;have:=f i;rwa[aV,aV,cH g,cH k]at this
def tm{a c}(f:bS a)(g:bS c)(k:lx a=lx c):a=c:=by
 have d:∀i,E a i 0=E c i 0:=λi=>a8 (λA:Rx=>A i) k
 refine Y3 ?_ d;rcases OA (Z a) (Z c)with e|e|e
 .exact absurd ((d<|Z c-1).symm.trans<|iE a G)<|g.top G
 .exact e
 .exact absurd ((d<|Z a-1).trans<|iE c G)<|f.top G
def Rr(A:Y->D):∀n,(∀i,n<=i->A i=0)->∃a:V D,bS a/\Z a<=n/\∀i,E a i 0=A i
 |0,c=>⟨[],uB,a7 _,λi=>(c i<|be _).symm⟩
 |n+1,c=>by
  by_cases d:A n=0
  .let ⟨a,g,h2,k⟩:=Rr A n (λi m=>by
    by_cases l:i=n
    .rw[l,d]
    .exact c i G)
   exact⟨a,g,G,k⟩
  .have f:∀i,E ((cc<|n+1).map A) i 0=A i:=λi=>by
    rw[aV,iT];by_cases d:i<n+1
    .rw[kS d];rfl
    .rw[jQ bX];exact(c i G).symm
   refine⟨(cc<|n+1).map A,.inr ?_,ay,f⟩;rw[f];simpa using d
def iW A:∃a,bS a/\lx a=A:=by let ⟨n,c⟩:=A.2;let ⟨a,d,_,f⟩:=Rr A.v n c;exact⟨a,d,ext f⟩
open Classical in
noncomputable def sz(A:Rx):Y:=Z<|Classical.choose<|iW A
def gQ{a}(d:bS a):sz (lx a)=Z a:=by have c:=uC<|iW<|lx a;rw[sz,tm c.1 d c.2]
def tn{n}{A}(c:∀i,n<=i->A i=0):sz A<=n:=by let ⟨a,d,h2,f⟩:=Rr A.v n c;rw[<-(ext f:lx a=A),gQ d];exact h2
def lU{A}{i}(c:sz A<=i):A i=0:=by obtain⟨a,d,rfl⟩:=iW A;rw[gQ d]at c;exact iE a c
def Hl{A}{n}(c:sz A=n+1):A n≠0:=by obtain⟨a,d,rfl⟩:=iW A;rw[gQ d]at c;exact d.top c
def akq{A}{n}(a:A n≠0):n<sz A:=Nat.lt_of_not_le λe=>a<|lU e
def L1 a:sz (lx a)<=Z a:=tn λ_ c=>iE a c
def ko:sz (0:Rx)=0:=Nat.le_zero.1<|tn λ_ _=>rfl
def Rt c:sz (K c)<=1:=tn λi a=>by rw[nk,b G]
def Ru{A}(a:sz A=0):A=0:=ext λi=>lU G
def eL{A}(a:A≠0):0<sz A:=by
 rcases pq (sz A)with e|e
 .exact absurd (Ru e) a
 .exact e
def Rv A B:sz (A+B)<=max (sz A) (sz B):=tn λi a=>by rw[eI,lU (A:=A) G,lU (A:=B) G,nQ]
def Rw A:sz (-A)<=sz A:=tn λi a=>by rw[GP,lU a];rfl
def Hm A B:sz (A-B)<=max (sz A) (sz B):=by have a:=Rv A<| -B;have c:=Rw B;rw[sub_def];omega
def AH{A B:Rx}{m n}(c:∀i,m<i->A i=0)(d:∀i,n<i->B i=0):(A*B) (m+n)=A m*B n:=by
 rw[eW,LX (a:=m) G<|λj f g=>?_]
 .rw[(G:m+n-m=n)]
 .by_cases e:m<j
  .rw[c j e,qO]
  .rw[d (m+n-j) G,fN]
def pK:(1:Rx)≠0:=λe=>by have:(1:Rx) 0=(0:Rx) 0:=uA;exact absurd this T
def dG{A B}(c:A≠0)(d:B≠0):sz (A*B)+1=sz A+sz B:=by
 have p:=eL c;have r:=eL d;obtain⟨m,f⟩:∃m,sz A=m+1:=⟨sz A-1,G⟩;obtain⟨n,g⟩:∃n,sz B=n+1:=⟨sz B-1,G⟩;have k:(A*B) (m+n)≠0:=by
  rw[AH (λi a=>lU G) (λi a=>lU G)];intro e;rcases AN.1 e with e|e
  .exact Hl f e
  .exact Hl g e
 have t:=akq k;have u:sz (A*B)<=m+n+1:=tn λi a=>Y0 (A:=A.v) (B:=B.v) (m:=m+1) (n:=n+1) (λj l=>lU (A:=A) G) (λj l=>lU (A:=B) G) i G
 omega
def uD{c}(a:c≠0):K c≠0:=λe=>a<|Rq<|e.trans nP.symm
def pE{A B:Rx}(a:A≠0)(c:B≠0):A*B≠0:=λe=>by have h:=dG a c;rw[e,ko]at h;have d:=eL a;have f:=eL c;omega
def yt{A B C:Rx}(a:A≠0)(c:B*A=C*A):B=C:=by
 refine DN ?_;refine eQ λd=>?_
 exact pE d a (by rw[sub_mul,c,sub_self])
def qR:sz (1:Rx)=1:=by have a:=Rt 1;have c:=eL pK;rw[nS]at a;omega
def DP{A}(f:sz A=1):∃c:D,c≠0/\A=K c:=by
 obtain⟨a,d,rfl⟩:=iW A;rw[gQ d]at f;match a,f,d with
 |[c],_,d=>exact⟨c,d.top (n:=0) J,Hk c⟩
def uE{A}(a:sz A=1):∃B:Rx,B*A=1:=by obtain⟨c,d,rfl⟩:=DP a;exact⟨_,pI d⟩
def wL{A B}(a:B*A=1):sz A=1:=by
 have c:A≠0:=λe=>pK (by rw[<-a,e,mul_zero])
 have d:B≠0:=λe=>pK (by rw[<-a,e,zero_mul])
 have f:=dG d c;rw[a,qR]at f;have g:=eL c;have i:=eL d;omega
def dvd_one{A}(a:A∣1):sz A=1:=by let ⟨w,hw⟩:=a;exact wL hw.symm
def jy{A B}(d:A∣B)(a:B≠0):sz A<=sz B:=by
 obtain⟨w,rfl⟩:=d;have c:w≠0:=λe=>a Hn
 have f:A≠0:=λe=>a (by rw[e,mul_zero])
 have g:=dG c f;have pw:=eL c;omega
def uF{A B}(a:A∣B)(c:sz B<sz A):B=0:=
 eQ λd=>by have:=jy a d;omega
def Y4{B:Rx}(c:B≠0):∀(n:Y)(A:Rx),sz A<n->∃Q a,A=Q*B+a/\sz a<sz B
 |0,_,d=>by omega
 |n+1,A,d=>by
  by_cases f:sz A<sz B
  .exact⟨0,A,by rw[zero_mul,zero_add],f⟩
  .have t:=eL c;obtain⟨k,g⟩:∃k,sz B=k+1:=⟨sz B-1,G⟩;obtain⟨m,u⟩:∃m,sz A=m+k+1:=⟨sz A-k-1,G⟩;have l:sz (A-K (A (m+k)*(B k)⁻¹)*(X m*B))<n:=by
    have:sz (A-K (A (m+k)*(B k)⁻¹)*(X m*B))<=m+k:=tn λi v=>by
     rw[yg,fV,mG,aq (G:m<=i)];by_cases p:i=m+k
     .rw[p,(G:m+k-m=k),oD,nT _<|Hl g,tq];grind
     .rw[lU (A:=A) (i:=i) G,lU (A:=B) (i:=i-m) G];grind
    omega
   let ⟨Q,a,h2,r⟩:=Y4 c n _ l;refine⟨K (A (m+k)*(B k)⁻¹)*X m+Q,a,?_,r⟩;rw[add_mul,add_assoc,<-h2,mul_assoc,add_comm,kU]
def Ry A{B}(c:B≠0):∃Q a,A=Q*B+a/\sz a<sz B:=Y4 c _ A<|dL _
def AO:∀(n:Y)(A B:Rx),sz B<n->∃c d a,c∣A/\c∣B/\c=d*A+a*B
 |0,_,_,l=>by omega
 |n+1,A,B,l=>by
  by_cases g:B=0
  .subst g;exact⟨A,1,0,dvd_refl A,dvd_zero A,by rw[one_mul,mul_zero,add_zero]⟩
  .let ⟨Q,f,i,h2⟩:=Ry A g;let ⟨c,d,a,k,m,p⟩:=AO n B f G;refine⟨c,a,d-a*Q,?_,k,?_⟩
   .rw[i];exact dvd_add (dV k Q) m
   .rw[p,i,mul_add,sub_mul];have:a*(Q*B)+a*f+(d*B-a*Q*B)=(d*B-a*Q*B+a*Q*B)+a*f:=fc;rw[this,kU]
def Co(A B:Rx):Prop:=∃U V,U*A+V*B=1
def Co.dvd{A B C}(a:Co A B)(k:A∣B*C):A∣C:=by
 let ⟨U,V,a⟩:=a;have:C=C*U*A+V*(B*C):=by have c:C*(U*A)+C*(V*B)=C*U*A+V*(B*C):=fc;rw[<-c,<-mul_add,a,mul_one]
 rw[this];exact dvd_add (dvd_mul_left A _)<|dV k V
def br(Q:Rx):Prop:=2<=sz Q/\∀A B,Q=A*B->sz A=1\/sz B=1
def br.ne{Q}(a:br Q):Q≠0:=λe=>by have:=a.1;rw[e,ko]at this;omega
def br.or{Q}(c:br Q) A:Q∣A\/Co Q A:=by
 let ⟨D,U,V,d,h2,f⟩:=AO _ Q A<|dL _;let ⟨w,hw⟩:=d;rcases c.2 _ _ hw with e|e
 .let ⟨B,a⟩:=uE e;left;refine dvd_trans ⟨B,?_⟩ h2;rw[hw,<-mul_assoc,a,one_mul]
 .let ⟨B,a⟩:=uE e;right;refine⟨B*U,B*V,?_⟩;rw[<-a,f,mul_add,mul_assoc,mul_assoc]
def br.AP{Q}(a:br Q):¬Q∣1:=λe=>by have:=dvd_one e;have:=a.1;omega
def br.nU{Q}(a:br Q){A B}(k:Q∣A*B):Q∣A\/Q∣B:=by
 rcases a.or A with e|e
 .exact .inl e
 .exact .inr<|e.dvd k
def rY:∀(n:Y)(A:Rx),sz A<n->2<=sz A->∃Q,br Q/\Q∣A
 |0,_,k,_=>by omega
 |n+1,A,k,h2=>by
  by_cases c:br A
  .exact⟨A,c,dvd_refl A⟩
  .have:∃B C,A=B*C/\¬(sz B=1\/sz C=1):=eQ λl=>c ⟨h2,λB C e=>eQ λd=>l ⟨B,C,e,d⟩⟩
   let ⟨B,C,e,d⟩:=this;have f:A≠0:=λe=>by rw[e,ko]at h2;omega
   have g:B≠0:=λa=>f (by rw[e,a,zero_mul])
   have i:C≠0:=λa=>f (by rw[e,a,mul_zero])
   have m:=dG g i;rw[<-e]at m;have t:=eL g;have u:=eL i;let ⟨Q,p,r⟩:=rY n B G G;exact⟨Q,p,by rw[e];exact lv r C⟩
def DQ{A B}(d:A≠0)(f:∀Q,br Q->Q∣A->Q∣B->False):Co A B:=by
 let ⟨D,U,V,a,h2,g⟩:=AO _ A B<|dL _;have i:D≠0:=λe=>by let ⟨w,hw⟩:=a;rw[e,mul_zero]at hw;exact d hw
 have m:=eL i;by_cases e:sz D=1
 .let ⟨C,k⟩:=uE e;refine⟨C*U,C*V,?_⟩;rw[<-k,g,mul_add,mul_assoc,mul_assoc]
 .let ⟨Q,l,c⟩:=rY _ D (dL _) G;exact(f Q l (dvd_trans c a)<|dvd_trans c h2).elim
end Rx
namespace Rx
def wM{A B C a:Rx}(c:A∣B)(k:C∣a):A*C∣B*a:=by obtain⟨w,rfl⟩:=c;obtain⟨v,rfl⟩:=k;exact⟨w*v,fc⟩
def uG{c}(a:c≠0):sz (K c)=1:=wL<|pI a
def akr{A B}{c}(a:c≠0)(d:A∣K c*B):A∣B:=by
 have e:B=K c⁻¹ *(K c*B):=by rw[<-mul_assoc,pI a,one_mul]
 rw[e];exact dV d _
def bt(A:Rx):Rx:=⟨λi=>((i+1:Y):D)*A (i+1),by let ⟨n,h⟩:=A.2;exact⟨n,λi a=>by rw[h (i+1) G,fN]⟩⟩
def pM A i:bt A i=((i+1:Y):D)*A (i+1):=rfl
def Ho x a:bt (x+a)=bt x+bt a:=ext λi=>by rw[pM,eI,eI,Y1];rfl
def DR c:bt (K c)=0:=ext λi=>by rw[pM,nk,b G,fN];rfl
def Rz:bt 0=0:=by rw[<-nP,DR,nP]
def aks:bt 1=0:=DR 1
def Hp c x:bt (K c*x)=K c*bt x:=ext λi=>by rw[pM,fV,fV,pM];grind
def Hq x:bt (X 1*x)=x+X 1*bt x:=ext λi=>by
 rw[pM,mG,eI,mG,aq G,dE];cases i with
 |zero=>rw[b G,nQ];exact qP _
 |succ i=>
  rw[aq G,dE,pM,Rat.natCast_add (i+1) 1]
  grind
def Hr(B:Rx):∀a:V D,bt (lx a*B)=bt (lx a)*B+lx a*bt B
 |[]=>by rw[pJ,zero_mul,Rz,zero_mul,zero_mul,zero_add]
 |c::a=>by have d:=Hr B a;rw[L0,add_mul,Ho,Hp,mul_assoc,Hq,d,Ho,DR,zero_add,Hq];simp only[add_mul,mul_add];ac_rfl
def uH A B:bt (A*B)=bt A*B+A*bt B:=by obtain⟨a,_,rfl⟩:=iW A;exact Hr B a
def Hs(Q:Rx):∀a,bt (pk Q<|a+1)=pk Q a*(K ((a+1:Y):D)*bt Q)
 |0=>by rw[qQ];show bt Q=1*(K 1*bt Q);rw[nS,one_mul,one_mul]
 |a+1=>by rw[show pk Q (a+1+1)=pk Q (a+1)*Q from J,uH,Hs Q a,Rat.natCast_add (a+1) 1,Az,add_mul,mul_add];rw[show(K ((1:Y):D):Rx)=1 from J,one_mul,show pk Q (a+1)=pk Q a*Q from J];ac_rfl
def akt{Q}(f:2<=sz Q):bt Q≠0:=λe=>by
 obtain⟨n,c⟩:∃n,sz Q=n+1+1:=⟨sz Q-2,G⟩;have d:=Hl c;have a:bt Q n=(0:Rx) n:=uA;rw[pM,lP]at a;rcases AN.1 a with a|a
 .have:n+1=0:=by exact_mod_cast a
  omega
 .exact d a
def L2{Q}:sz (bt Q)<=sz Q-1:=tn λi a=>by rw[pM,lU G,fN]
def br.Hu{Q}(a:br Q):¬Q∣bt Q:=λc=>by have d:=a.1;have f:=L2 (Q:=Q);exact akt d<|uF c G
def Mo(A:Rx):Prop:=A (sz A-1)=1
def Mo.ne{A}(a:Mo A):A≠0:=λe=>by subst e;have c:(0:D)=1:=a;exact absurd c T
def Mo.at{A}(a:Mo A){n}(c:sz A=n+1):A n=1:=by have:=a;rwa[Mo,c,dE]at this
def Y5{A B}{m n}(c:sz A=m+1)(d:sz B=n+1):(A*B) (m+n)=A m*B n:=AH (λi a=>lU G)<|λi a=>lU G
def DS{A}(a:A≠0):∃n,sz A=n+1:=⟨sz A-1,by have:=eL a;omega⟩
def Mo.mul{A B}(a:Mo A)(k:Mo B):Mo (A*B):=by let ⟨m,hm⟩:=DS a.ne;let ⟨n,c⟩:=DS k.ne;have d:=dG a.ne k.ne;rw[Mo,(G:sz (A*B)-1=m+n),Y5 hm c,a.at hm,k.at c,qP]
def Mo.yu{A B}(a:Mo (A*B))(k:Mo B):Mo A:=by
 have c:A≠0:=λe=>a.ne Hn
 let ⟨m,hm⟩:=DS c;let ⟨n,d⟩:=DS k.ne;have g:=dG c k.ne;have f:=a.at (n:=m+n) G;rw[Y5 hm d,k.at d,tq]at f;rw[Mo,hm];exact f
def Y6:Mo 1:=by have:sz (1:Rx)=1:=qR;rw[Mo,this];rfl
def Mo.pk{A:Rx}(a:Mo A):∀n,Mo (pk A n)
 |0=>Y6
 |n+1=>(Mo.pk a n).mul a
def Mo.unit{A}(d:Mo A)(a:sz A=1):A=1:=by obtain⟨c,g,rfl⟩:=DP a;have f:=d.at a;rw[show c=1 from f];rfl
def Mo.eq{A B}(a:Mo A)(k:Mo B)(c:A∣B)(f:B∣A):A=B:=by have i:=jy c k.ne;have l:=jy f a.ne;obtain⟨w,rfl⟩:=c;have d:Mo w:=k.yu a;have m:=dG d.ne a.ne;have g:w=1:=d.unit G;rw[g,one_mul]
def Y7{A}(d:A≠0):∃c:D,c≠0/\Mo (K c*A):=by
 let ⟨n,g⟩:=DS d;have f:=Hl g;have a:(A n)⁻¹ ≠0:=λe=>by have:=nT _ f;rw[e,qO]at this;exact absurd this T
 refine⟨(A n)⁻¹,a,?_⟩;have i:=dG (uD a) d;rw[uG a]at i;rw[Mo,(G:sz (K (A n)⁻¹ *A)-1=n),fV,nT _ f]
def br.smul{Q}(h:br Q){c}(d:c≠0):br (K c*Q):=by
 have g:=dG (uD d) h.ne;rw[uG d]at g;refine⟨AD,λA B e=>?_⟩;have i:Q=(K c⁻¹ *A)*B:=by rw[mul_assoc,<-e,<-mul_assoc,pI d,one_mul]
 rcases h.2 _ _ i with f|f
 .left;have a:c⁻¹ ≠0:=λe=>by have:=nT _ d;rw[e,qO]at this;exact absurd this T
  have k:A≠0:=λl=>by rw[l,mul_zero,ko]at f;omega
  have:=dG (uD a) k;rw[uG a]at this;omega
 .exact .inr f
def br.assoc{Q a}(c:br Q)(k:br a)(d:Q∣a):a∣Q:=by
 let ⟨w,hw⟩:=d;rcases k.2 _ _ hw with e|e
 .let ⟨C,f⟩:=uE e;exact⟨C,by rw[hw,<-mul_assoc,f,one_mul]⟩
 .have:=c.1;omega
def br.eq{Q a}(d:br Q)(k:br a)(f:Mo Q)(g:Mo a)(c:Q∣a):Q=a:=f.eq g c<|d.assoc k c
def mult{Q:Rx}(c:br Q):∀(n:Y)(F:Rx),sz F<n->F≠0->∃e a,F=pk Q e*a/\¬Q∣a
 |0,_,a,_=>by omega
 |n+1,F,a,k=>by
  by_cases d:Q∣F
  .obtain⟨f,rfl⟩:=d;have i:f≠0:=λe=>k Hn
   have m:=dG i c.ne;have p:=c.1;obtain⟨e,g,rfl,l⟩:=mult c n f G i;exact⟨e+1,g,by rw[pk];ac_rfl,l⟩
  .exact⟨0,F,(one_mul F).symm,d⟩
def br.pk{Q A:Rx}(a:br Q):∀{n:Y},Q∣pk A n->0<n/\Q∣A
 |0,c=>absurd c a.AP
 |n+1,c=>by
  rcases a.nU c with d|d
  .exact⟨G,(br.pk a d).2⟩
  .exact⟨G,d⟩
structure FL(L:V (Rx×Y)):Prop where
 fW:∀x∈L,br x.1
 mo:∀x∈L,Mo x.1
 pos:∀x∈L,1<=x.2
 AQ:L.Pairwise (λx a=>x.1≠a.1)
def FL.tail{x}{L}(a:FL (x::L)):FL L:=⟨λy hy=>a.fW y nV,λy hy=>a.mo y nV,λy hy=>a.pos y nV,(ju.1 a.AQ).2⟩
def FL.RA:∀{L:V (Rx×Y)},L.Pairwise (λx i=>x.1≠i.1)->∀{x c:Rx×Y},x∈L->c∈L->x≠c->x.1≠c.1
 |i::L,n,x,c,hx,k,d=>by
  let ⟨l,h2⟩:=ju.1 n;rcases bY.1 hx with m|f
  .rcases bY.1 k with g|a
   .exact absurd (m.trans g.symm) d
   .rw[m];exact l c a
  .rcases bY.1 k with g|a
   .rw[g];exact(l x f).symm
   .exact FL.RA h2 f a d
def pF(c:Y->Y):V (Rx×Y)->Rx
 |[]=>1
 |x::L=>pk x.1 (c x.2)*pF c L
def AR(c d:Y->Y):∀L,pF (λm=>c m+d m) L=pF c L*pF d L
 |[]=>(one_mul 1).symm
 |x::L=>by rw[pF,pF,pF,AR c d L,wK];ac_rfl
def wN{c d:Y->Y}:∀{L:V (Rx×Y)},(∀x∈L,c x.2=d x.2)->pF c L=pF d L
 |[],_=>rfl
 |x::L,a=>by rw[pF,pF,a x ay,wN<|λf hy=>a f nV]
def uI{c:Y->Y}:∀{L:V (Rx×Y)},(∀x∈L,Mo x.1)->Mo (pF c L)
 |[],_=>Y6
 |x::L,a=>((a x ay).pk _).mul<|uI λd hy=>a d nV
def L3{c:Y->Y}:∀{L:V (Rx×Y)},(∀x∈L,c x.2=0)->pF c L=1
 |[],_=>rfl
 |x::L,a=>by rw[pF,a x ay,L3<|λd hy=>a d nV];exact one_mul 1
def Hv{c:Y->Y}:∀{L:V (Rx×Y)}{x:Rx×Y},x∈L->0<c x.2->x.1∣pF c L
 |g::L,x,a,hc=>by
  rw[pF];rcases bY.1 a with rfl|a
  .obtain⟨d,f⟩:∃d,c x.2=d+1:=⟨c x.2-1,G⟩;rw[f,pk];exact lv (dvd_mul_left _ _) _
  .exact dV (Hv a hc) _
def yv{c:Y->Y}{Q:Rx}(a:br Q):∀{L:V (Rx×Y)},Q∣pF c L->∃x∈L,0<c x.2/\Q∣x.1
 |[],d=>absurd d a.AP
 |g::L,d=>by
  rcases a.nU d with f|f
  .exact⟨g,ay,a.pk f⟩
  .let ⟨x,h1,h2⟩:=yv a f;exact⟨x,yw,h2⟩
def FL.aku{x}{L}(a:FL (x::L)){c:Y->Y}:¬x.1∣pF c L:=λd=>by let ⟨y,h1,h2,f⟩:=yv (a.fW x ay) d;exact(ju.1 a.AQ).1 y h1<|(a.fW x ay).eq (a.fW y yw) (a.mo x ay) (a.mo y yw) f
def FL.Hu{c:Y->Y}(k:∀m,c m<=1):∀{L:V (Rx×Y)},FL L->∀{x:Rx×Y},x∈L->c x.2=1->¬x.1∣bt (pF c L)
 |f::L,a,x,hx,l,g=>by
  have i:=a.fW f ay;rcases bY.1 hx with rfl|d
  .rw[pF,l,qQ,uH]at g;rcases i.nU (wJ ((add_comm _ _).symm▸g)<|dvd_mul_right _ _)with e|e
   .exact i.Hu e
   .exact a.aku e
  .have n:=FL.Hu k a.tail d l;have p:=a.fW x hx;by_cases r:c f.2=0
   .rw[pF,r]at g;exact n (by rwa[show pk f.1 0=1 from J,one_mul]at g)
   .have t:c f.2=1:=by have:=k f.2;omega
    rw[pF,t,qQ,uH]at g;rcases p.nU (wJ g<|dV (Hv d G) _)with e|e
    .exact(ju.1 a.AQ).1 x d (p.eq i (a.mo x hx) (a.mo f ay) e).symm
    .exact n e
def Y8:∀(n:Y)(F:Rx),sz F<n->Mo F->∃L,FL L/\pF id L=F
 |0,_,H,_=>by omega
 |n+1,F,H,k=>by
  have P:=eL k.ne;by_cases e:sz F=1
  .exact⟨[],⟨ay,ay,ay,.nil⟩,(k.unit e).symm⟩
  .let ⟨Q,p,C⟩:=rY _ F (dL _) G;let ⟨c,hc,hm⟩:=Y7 p.ne;have m:=p.smul hc;have r:K c*Q∣F:=dvd_trans (p.assoc m<|dvd_mul_left _ _) C;generalize K c*Q=q at*;let ⟨e,g,l,u⟩:=mult m _ F (dL _) k.ne;have M:1<=e:=by
    rcases pq e with d|d
    .subst d;rw[show pk q 0=1 from J,one_mul]at l;exact absurd (l▸r) u
    .exact d
   have v:Mo g:=by rw[l,mul_comm]at k;exact k.yu<|hm.pk e
   have S:sz g<sz F:=by have A:=dG (hm.pk e).ne v.ne;rw[<-l]at A;obtain⟨f,rfl⟩:∃f,e=f+1:=⟨e-1,G⟩;have i:=dG (hm.pk f).ne hm.ne;have t:=eL (hm.pk f).ne;have W:=m.1;rw[show pk q (f+1)=pk q f*q from J]at A;omega
   let ⟨L,i,t⟩:=Y8 n g G v;refine⟨(q,e)::L,⟨?_,?_,?_,ju.2 ⟨λy B d=>?_,i.AQ⟩⟩,?_⟩
   .intro x a;rcases bY.1 a with rfl|a
    .exact m
    .exact i.fW x a
   .intro x a;rcases bY.1 a with rfl|a
    .exact hm
    .exact i.mo x a
   .intro x a;rcases bY.1 a with rfl|a
    .exact M
    .exact i.pos x a
   .refine u ?_;rw[<-t];have d:q=y.1:=d;rw[d];exact Hv B<|i.pos y B
   .rw[pF,t];exact l.symm
structure Hw(D A B:Rx):Prop where
 mo:Mo D
 l:D∣A
 r:D∣B
 ex:∃a V,D=a*A+V*B
def kW(n:Y):Y->Y:=λm=>if n<=m then 1 else 0
def kP(n:Y):Y->Y:=λm=>if m=n then 1 else 0
def kG:Y->Y:=λm=>m-1
def Y9 n:∀m,kW n m<=1:=λm=>by unfold kW;split<;>omega
def Hx n:∀m,kP n m<=1:=λm=>by unfold kP;split<;>omega
def L4{n m}:kW n m=1↔n<=m:=by unfold kW;split<;>omega
def RB{n m}:kP n m=1↔m=n:=by unfold kP;split<;>omega
def RC n L:pF (kW n) L=pF (kP n) L*pF (kW<|n+1) L:=by rw[<-AR];exact wN λx _=>by unfold kW kP;split<;>split<;>split<;>omega
def RD{L}(a:FL L):pF id L=pF (kW 1) L*pF kG L:=by rw[<-AR];exact wN λx c=>by have:=a.pos x c;show x.2=kW 1 x.2+kG x.2;unfold kW kG;split<;>omega
def Yp(L:V (Rx×Y))(n:Y)(a:Rx):Prop:=∀x∈L,n<=x.2->x.1∣a-K ((x.2:D)-(n:D)+1)*bt (pF (kW n) L)
def Y':∀{L:V (Rx×Y)},FL L->∃c,bt (pF id L)=c*pF kG L/\∀x∈L,x.1∣c-K (x.2:D)*bt (pF (kW 1) L)
 |[],_=>⟨0,by rw[zero_mul];exact aks,λx hx=>by simp at hx⟩
 | (a,m)::L,d=>by
  let ⟨c,i,h2⟩:=Y' d.tail;have r:1<=m:=d.pos (a,m) ay;obtain⟨e,rfl⟩:∃e,m=e+1:=⟨m-1,G⟩;have k:pF (kW 1) ((a,e+1)::L)=a*pF (kW 1) L:=by rw[pF,L4.2 G,qQ]
  have l:pF kG ((a,e+1)::L)=pk a e*pF kG L:=rfl;have n:pF id ((a,e+1)::L)=pk a e*a*pF id L:=rfl;refine⟨K ((e+1:Y):D)*bt a*pF (kW 1) L+a*c,?_,?_⟩
  .rw[n,l,uH,i,show pk a e*a=pk a (e+1)from J,Hs,RD d.tail,show pk a (e+1)=pk a e*a from J,add_mul];ac_rfl
  .intro x hx;rw[k,uH];rcases bY.1 hx with rfl|hx
   .refine⟨c-K ((e+1:Y):D)*bt (pF (kW 1) L),?_⟩;show K ((e+1:Y):D)*bt a*pF (kW 1) L+a*c-K ((e+1:Y):D)*(bt a*pF (kW 1) L+a*bt (pF (kW 1) L))=_;rw[sub_mul];refine sub_eq ?_;rw[mul_add];have f:c*a-K ((e+1:Y):D)*bt (pF (kW 1) L)*a+(K ((e+1:Y):D)*(bt a*pF (kW 1) L)+K ((e+1:Y):D)*(a*bt (pF (kW 1) L)))=(c*a-K ((e+1:Y):D)*bt (pF (kW 1) L)*a+K ((e+1:Y):D)*bt (pF (kW 1) L)*a)+K ((e+1:Y):D)*(bt a*pF (kW 1) L):=fc;rw[f,kU];ac_rfl
   .have p:=h2 x hx;have g:x.1∣pF (kW 1) L:=Hv hx (by rw[L4.2 (d.pos x lF)];omega);rw[mul_add,LY];refine dvd_add (dvd_sub (dV g _)<|dV (dV g _) _) ?_;have f:a*c-K (x.2:D)*(a*bt (pF (kW 1) L))=a*(c-K (x.2:D)*bt (pF (kW 1) L)):=by rw[mul_sub];congr 1;ac_rfl
    rw[f];exact dV p a
def wO{m:Y}(a:m≠0):(m:D)≠0:=λe=>a (by exact_mod_cast e)
def akv{L}(a:FL L){f}(n:Hw f (pF id L) (bt<|pF id L)):f=pF kG L/\∃d,bt (pF id L)=d*f/\Yp L 1 d:=by
 let ⟨d,i,h2⟩:=Y' a;have g:=RD a;have k:Co (pF (kW 1) L) d:=DQ (uI a.mo).ne λQ m q1 p=>by let ⟨x,c,B,r⟩:=yv m q1;have t:=dvd_trans (m.assoc (a.fW x c) r) p;have u:=akn (nl<|h2 x c) t;exact FL.Hu (Y9 1) a c (L4.2<|a.pos x c)<|akr (wO<|by have:=a.pos x c;omega) u
 let ⟨v,A,l⟩:=k;let ⟨d1,d2,d3,U,V,d4⟩:=n;have e:f=pF kG L:=by
  refine d1.eq (uI a.mo) ?_ ?_
  .have:pF kG L=v*pF id L+A*bt (pF id L):=by rw[g,<-g,i,<-mul_assoc,g,<-mul_assoc,<-add_mul,l,one_mul]
   rw[this];exact dvd_add (dV d2 _)<|dV d3 _
  .rw[d4,i];refine dvd_add (dV ?_ _)<|dV (dvd_mul_left _ _) _;rw[g];exact dvd_mul_left _ _
 refine⟨e,d,by rw[e];exact i,λx c _=>?_⟩;rw[show(x.2:D)-((1:Y):D)+1=(x.2:D)by show(x.2:D)-1+1=_;grind];exact h2 x c
end Rx
namespace Rx
def RE(l:V D):∀n,jx l n<=n/\(∀i,jx l n<=i->i<n->E l i 0=0)/\(jx l n=0\/E l (jx l n-1) 0≠0)
 |0=>⟨a7 _,λi _ a=>absurd a G,.inl J⟩
 |n+1=>by
  rw[jx];split
  .rename_i a;let ⟨d,c,f⟩:=RE l n;refine⟨G,λi g k=>?_,f⟩;by_cases e:i=n
   .subst e;exact DK.1 a
   .exact c i g G
  .rename_i a;exact⟨a7 _,λi d c=>absurd c G,.inr λe=>a<|by rw[dE]at e;rw[e];rfl⟩
def DT(a:V D) n i:(h n a).getD i 0=if i<n then E a i 0 else 0:=by
 rw[aV,Fl];split
 .rw[aV]
 .rfl
def Za{l}{n}(a:∀i,n<=i->E l i 0=0):lx (h n l)=lx l:=ext λi=>by
 rw[gx,gx,DT];split
 .rfl
 .exact(a i G).symm
def rZ l:lx (eV l)=lx l:=Za λi a=>by
 by_cases e:i<Z l
 .exact(RE l<|Z l).2.1 i a e
 .exact iE l G
def lV l:bS (eV l):=by
 let ⟨d,h2,a⟩:=RE l<|Z l;have c:Z (eV l)=jx l (Z l):=Ro;rcases a with a|a
 .exact .inl<|fB G
 .by_cases e:jx l (Z l)=0
  .exact .inl<|fB G
  .right;rw[c];unfold eV;rw[DT,aq G];exact a
def bS.ne{a}(c:bS a)(d:a≠[]):E a (Z a-1) 0≠0:=c.resolve_left d
def Hy{a}(c:bS a)(d:a≠[]):lx a≠0:=λe=>d<|tm c uB<|e.trans pJ.symm
def Zb c a:lx (tf c a)=K c*lx a:=ext λi=>by rw[fV];exact YN c a i
def akw a:lx (rX a)=bt (lx a):=ext λi=>by
 rw[pM,gx,gx];by_cases h:i<Z a-1
 .rw[YO h];rfl
 .rw[iE (rX a) (by rw[Rl];omega),iE a G,fN]
def Hz{r b}c{k}(d:k+Z b<=Z r):lx (iV r c b k)=lx r+K c*(X k*lx b):=ext λi=>by
 rw[eI,fV,mG,gx,gx];by_cases a:i<Z r
 .rw[show E (iV r c b k) i 0=_ from te a];by_cases e:k<=i/\i<k+Z b
  .rw[aq e,aq e.1];rfl
  .rw[hY e];split
   .rw[gx,iE b G,fN,nQ]
   .rw[fN,nQ]
 .rw[iE (iV r c b k) (by rw[iV,mI];omega),iE r G];split
  .rw[gx,iE b G,fN,nQ]
  .rw[fN,nQ]
def akx a c d:lx (yo a c d)=lx a+K c*lx d:=by unfold yo;rw[Hz c (by rw[LR G];omega),ako,one_mul];congr 1;exact ext λi=>YP a _ i
def aky{l}{k}t(a:k<Z l)(c:E l k 0=0):lx (l.set k t)=lx l+K t*X k:=ext λi=>by
 rw[eI,fV,DO,gx,gx,AI i t a];by_cases e:k=i
 .subst e;rw[aq J,aq J,c];grind
 .rw[b e,b<|λa=>e a.symm];grind
def RF{a b:V D}{n m:Y}(p:Z b=n+1)(t:Z a=n+m)(v:E b n 0≠0):∀c,c<=m->
  lx a=lx (dm (E b n 0)⁻¹ a b n m c).1*lx b+lx (dm (E b n 0)⁻¹ a b n m c).2/\(∀i,i<m-c->(dm (E b n 0)⁻¹ a b n m c).1.getD i 0=0)/\(∀i,n+(m-c)<=i->(dm (E b n 0)⁻¹ a b n m c).2.getD i 0=0)
 |0,_=>by have d:∀i,E (bp m (0:D)) i 0=0:=He m;refine⟨?_,λi _=>d i,λi f=>iE a G⟩;show lx a=lx (bp m 0)*lx b+lx a;rw[show lx (bp m (0:D))=0 from ext d,zero_mul,zero_add]
 |c+1,B=>by
  let ⟨g,h2,l⟩:=RF p t v c G;let ⟨l1,l2⟩:=yp (E b n 0)⁻¹ a b n m c;rw[dm];generalize dm (E b n 0)⁻¹ a b n m c=x at*;let ⟨q,r⟩:=x;simp only at g h2 l l1 l2⊢;refine⟨?_,λi f=>?_,λi f=>?_⟩
  .rw[aky _ G (h2 _ G),Hz _ G,g,add_mul,Y2,neg_mul,mul_assoc (K _)<|X _];generalize K (E r (m-1-c+n) 0*(E b n 0)⁻¹)*(X (m-1-c)*lx b)=u;rw[add_assoc,<-add_assoc u,add_comm u,add_assoc<|lx r,add_neg,add_zero]
  .rw[AI i _ G,hY G,h2 i G]
  .have:=a8 (λA:Rx=>A i)<|Hz (r:=r) (b:=b) (-(E r (m-1-c+n) 0*(E b n 0)⁻¹)) (k:=m-1-c) G;simp only[eI,fV,mG,gx]at this;rw[this,aq G];by_cases e:i=m-1-c+n
   .subst e;rw[(G:m-1-c+n-(m-1-c)=n)];grind
   .rw[l i G,iE b (i:=i-(m-1-c)) G];grind
def iF(a c:V D):V D:=if Z a<Z c then[]else eV (dm (E c (Z c-1) 0)⁻¹ a c (Z c-1) (Z a+1-Z c) (Z a+1-Z c)).1
def L5 a c:bS (iF a c):=by
 unfold iF;split
 .exact uB
 .exact lV _
def RH{a c}(f:bS c)(d:c≠[]):lx a=lx (iF a c)*lx c+lx (eY a c):=by
 have l:=cQ.2 d;unfold iF eY;by_cases h:Z a<Z c
 .rw[aq h,aq h,pJ,zero_mul,zero_add]
 .rw[b h,b h,rZ,rZ];let ⟨g,_,k⟩:=RF (a:=a) (b:=c) (n:=Z c-1) (m:=Z a+1-Z c) G G (f.ne d) _<|a7 _;rw[Za (λi p=>k i G)];exact g
def uJ{a b}(c:bS a):bS (eY a b):=by
 unfold eY;split
 .exact c
 .exact lV _
def AS{a c}(k:bS a)(g:bS c)(d:c≠[])(i:lx c∣lx a):lx a=lx (iF a c)*lx c:=by
 have f:=RH (a:=a) g d;have l:lx (eY a c)=0:=by
  refine uF (A:=lx c) ?_ ?_
  .rw[f]at i;exact wJ i<|dvd_mul_left _ _
  .rw[gQ (uJ k),gQ g];exact yr d
 rw[l,add_zero]at f;exact f
def tr r:bS (dZ r):=by
 unfold dZ;split
 .exact uB
 .exact lV _
def yx{r}(a:r≠[]):lx (dZ r)=K (E r (Z r-1) 0)⁻¹ *lx r:=by rw[dZ,b a,rZ,Zb]
def L6:dZ []=[]:=aq J
def qT{c:D}(a:c≠0):c⁻¹ ≠0:=λe=>by have:=nT _ a;rw[e,qO]at this;exact absurd this T
def Zc{r}(c:bS r)(a:r≠[]):Mo (lx<|dZ r):=by have f:=cQ.2 a;have d:=dG (uD<|qT<|c.ne a)<|Hy c a;rw[uG (qT<|c.ne a),gQ c]at d;rw[yx a,Mo,fV,(G:sz (K (E r (Z r-1) 0)⁻¹ *lx r)-1=Z r-1),gx,nT _<|c.ne a]
def RI{r}(c:bS r):Z (dZ r)=Z r:=by
 by_cases a:r=[]
 .subst a;rw[L6]
 .have d:=dG (uD<|qT<|c.ne a)<|Hy c a;rw[uG (qT<|c.ne a),gQ c,<-yx a,gQ<|tr r]at d;omega
def Zd r:lx r∣lx (dZ r)/\(bS r->lx (dZ r)∣lx r):=by
 by_cases a:r=[]
 .subst a;rw[L6];exact⟨dvd_refl _,λ_=>dvd_refl _⟩
 .rw[yx a];refine⟨dvd_mul_left _ _,λh=>⟨K<|E r (Z r-1) 0,?_⟩⟩;rw[<-mul_assoc,mul_comm (K _)<|K _,pI<|h.ne a,one_mul]
def Ze:∀(k:Y)(a c:V D),bS a->bS c->Z c<k->bS (jl k a c)/\lx (jl k a c)∣lx a/\lx (jl k a c)∣lx c/\∃f d,lx (jl k a c)=f*lx a+d*lx c
 |0,_,_,_,_,p=>by omega
 |k+1,a,c,i,l,p=>by
  rw[jl];split
  .rename_i g;subst g;exact⟨i,dvd_refl _,by rw[pJ];exact dvd_zero _,1,0,by rw[one_mul,zero_mul,add_zero]⟩
  .rename_i g;have t:=yr (a:=a) g;have m:=uJ (b:=c) i;have n:=RH (a:=a) l g;let ⟨i1,i2,i3,f,d,i4⟩:=Ze k c (dZ<|eY a c) l (tr _) (by rw[RI m];omega);let ⟨d1,d2⟩:=Zd<|eY a c;let ⟨w,hw⟩:=d1;have r:=dvd_trans i3<|d2 m;refine⟨i1,by rw[n];exact dvd_add (dV i2 _) r,i2,d*w,f-d*w*lx (iF a c),?_⟩;rw[i4,hw,n,mul_add,sub_mul];have:d*w*(lx (iF a c)*lx c)+d*w*lx (eY a c)+(f*lx c-d*w*lx (iF a c)*lx c)=(f*lx c-d*w*lx (iF a c)*lx c+d*w*lx (iF a c)*lx c)+d*(w*lx (eY a c)):=fc;rw[this,kU]
def akz{k}{a c}(g:bS a)(i:bS c)(l:Z c<k)(m:a≠[]):jl k a c≠[]/\bS (dZ<|jl k a c)/\Hw (lx<|dZ<|jl k a c) (lx a) (lx c):=by
 let ⟨f,h2,n,U,V,p⟩:=Ze k a c g i l;have d:jl k a c≠[]:=λe=>by rw[e,pJ]at h2;let ⟨w,hw⟩:=h2;rw[mul_zero]at hw;exact Hy g m hw
 let ⟨d1,d2⟩:=Zd<|jl k a c;let ⟨w,hw⟩:=d1;refine⟨d,tr _,Zc f d,dvd_trans (d2 f) h2,dvd_trans (d2 f) n,w*U,w*V,?_⟩;rw[hw,p,mul_add,mul_assoc,mul_assoc]
end Rx
def AT(xs:V D)(i:Z xs<=1000000):al z 62 [I .q xs] (I .q<|eV xs):=by
 refine aR Tryz.func62 ?_;refine N J<|N J ?_;refine U<|R<|aY (α:=Y) (λk=>⟨[(0,I .q xs),(3,cI k)],[],2,[]⟩) (λk=>k<=Z xs/\jx xs k=jx xs (Z xs)) (λk=>k) (Z xs) ⟨a7 _,J⟩ aH ?_;rintro k ⟨l,a⟩;have d:jx xs k=k->bf (I .q<|h k xs) (I .q<|eV xs):=λf=>by refine bf.of_eq ?_;unfold eV;rw[<-a,f]
 refine U<|w ?_;refine rg 8 J J (λc=>?_)<|λc=>?_
 .have c:0<k:=by have c:(k:O)>0:=aK c;omega
  obtain⟨j,rfl⟩:∃j,k=j+1:=⟨k-1,G⟩;have g:ae (((j+1:Y):O)-1)=j:=G;refine gK J J J J J (Gz<|E xs (ae<|((j+1:Y):O)-1) 0) (s J ?_) (hp:=jK);refine y J (λh2=>?_)<|λh2=>?_
  .have h2:(E xs j 0).num=0:=by have h2:dY (E xs (ae<|((j+1:Y):O)-1) 0).num=0:=eq_of_beq h2;rw[g]at h2;exact uz.1 h2
   refine aA<|R<|rt J (eH<|aG j ⟨G,?_⟩ rQ<|wk ⟨sR J,sE J ?_,e⟩ e) (hp:=jK)
   .rw[<-a,jx,aq h2]
   .exact im (G:((j+1:Y):O)-1=(j:O))
  .have h2:(E xs j 0).num≠0:=by have h2:dY (E xs (ae<|((j+1:Y):O)-1) 0).num≠0:=nf h2;rw[g]at h2;exact λf=>h2 (uz.2 f)
   exact a6<|aO<|N J (bI<|gZ cq J<|d<|by rw[jx,b h2]) (hp:=aF)
 .have c:k=0:=by have c:¬(k:O)>0:=aT c;omega
  subst c;exact s J<|y J (λh2=>oz)<|λ_=>a6<|aO<|N J (bI<|gZ cq J<|d J) (hp:=aF)
def Zf(a:V D)(i:Y):al z 89 [I .q a,j i] (aQ<|E a i 0):=by
 refine aR Tryz.func89 ?_;refine N J<|U<|N J<|y J (λh=>?_)<|λh=>?_
 .have h:i<Z a:=by have h:(i:O)<(Z a:O):=aK h;omega
  refine N J (hp:=aF)<|bI<|cA<|dR J ?_;rfl
 .have h:¬i<Z a:=by have h:¬(i:O)<(Z a:O):=aT h;omega
  refine aA<|bD J J (x8 0 T T) J<|bQ J ?_;rw[Rx.iE a G];rfl
def akA(xs:V D)(m:Z xs<=1000000):LS z 62 [.c (.X 2002000)] [(2002000,.vec 44 .q xs)] (I .q<|eV xs):=by
 refine aki 3 Tryz.func62 J J J (λn g=>by rw[gI.1 g];decide) (Lh.of J) J T ?_;refine dU (FA 2002000 J) ?_;refine N J<|N J ?_;refine U<|R<|aY (α:=Y) (λk=>⟨[(0,I .q xs),(3,cI k)],[],5,[]⟩) (λk=>k<=Z xs/\jx xs k=jx xs (Z xs)) (λk=>k) (Z xs) ⟨a7 _,J⟩ aH ?_;rintro k ⟨p,a⟩;have f:jx xs k=k->bf (I .q<|h k xs) (I .q<|eV xs):=λi=>by refine bf.of_eq ?_;unfold eV;rw[<-a,i]
 refine U<|w ?_;refine rg 8 J J (λd=>?_)<|λd=>?_
 .have d:0<k:=by have d:(k:O)>0:=aK d;omega
  obtain⟨j,rfl⟩:∃j,k=j+1:=⟨k-1,G⟩;have l:ae (((j+1:Y):O)-1)=j:=G;refine gK J J J J J (Gz<|E xs (ae<|((j+1:Y):O)-1) 0) (s J ?_) (hp:=jK);refine y J (λh2=>?_)<|λh2=>?_
  .have h2:(E xs j 0).num=0:=by have h2:dY (E xs (ae<|((j+1:Y):O)-1) 0).num=0:=eq_of_beq h2;rw[l]at h2;exact uz.1 h2
   refine aA<|R<|rt J (eH<|aG j ⟨G,?_⟩ rQ<|wk ⟨sR J,sE J ?_,e⟩ e) (hp:=jK)
   .rw[<-a,jx,aq h2]
   .exact im (G:((j+1:Y):O)-1=(j:O))
  .have h2:(E xs j 0).num≠0:=by have h2:dY (E xs (ae<|((j+1:Y):O)-1) 0).num≠0:=nf h2;rw[l]at h2;exact λi=>h2 (uz.2 i)
   exact a6<|aO<|N J (bI<|YT cq J<|f<|by rw[jx,b h2]) (hp:=aF)
 .have d:k=0:=by have d:¬(k:O)>0:=aT d;omega
  subst d;exact s J<|y J (λh2=>oz)<|λ_=>a6<|aO<|N J (bI<|YT cq J<|f J) (hp:=aF)
def iu(a:V D):V D:=eV<|0::a
def RJ(a:V D)(c:Z a<=1000):al z 88 [I .q a] (I .q<|iu a):=by
 refine aR Tryz.func88 ?_;refine N J<|w<|rc J J (x8 0 T T)<|fg .q [((0:O):D)] J J (s J ?_);refine w<|ra J J J J J J J J J ?_ ?_<|rcc (conc:=[]) (fm:=[(2002000,.vec 44 .q<|((0:O):D)::a)]) J J (akA _ HA) (λd b h=>rfl)<|s J<|cx J
 .show(1+Z a+(1+Z a)/4+192)*64<=_;omega
 .show(1+Z a)*4<=_;omega
def jz(a c:V D):V D:=eV<|(cc<|max (Z a)<|Z c).map λi=>E a i 0+E c i 0
def iX(c:D)(a:V D):V D:=eV<|(cc<|Z a).map λi=>c*E a i 0
def RK(f:Y->D) i:(cc<|i+1).map f=(cc i).map f++[f i]:=by rw[zz,fe];rfl
def L7{k}c a(p:Z a<=1000)(f:QS k c)(g:∀i,QS k (E a i 0))(l:k<=100000000000):al z 43 [aQ c,I .q a] (I .q<|iX c a):=by
 refine aR Tryz.func43 ?_;refine N J<|w<|fg .q [] J J (s J<|U<|N J ?_);refine R<|aY (α:=Y) (λi=>⟨[(1,I .q a),(2,.c<|.P 0 0),(5,.c<|.X 1000000),(6,j i)],[(0,.box 44 0<|av .q c),(1000000,.vec 44 .q<|(cc i).map λi=>c*E a i 0)],10,[]⟩) (λi=>i<=Z a) (λi=>Z a-i) 0 (be _) (wk ⟨sR J,sR J,sR J,sE J J,e⟩<|vG J) ?_;intro i r;have m:Z ((cc i).map λi=>c*E a i 0)=i:=ay;refine U<|N J<|y J (λh=>?_)<|λh=>?_
 .have h:i<Z a:=by have h:(i:O)<(Z a:O):=aK h;omega
  have n:ae ((i:O))=i:=bW i;have d:=LM c (E a (ae<|(i:O)) 0) f (g _) l;refine aA<|U<|R<|bT ?_;refine rc J J d ?_ (hp:=aF);refine rl .q [c*E a (ae<|(i:O)) 0] J J (ra J J J J J J J J J ?_ ?_<|s J<|eH<|aO<|rt J (hp:=aF)<|aG (i+1) h (G:Z a-(i+1)<Z a-i)<|Wk.trans (wk (st':=⟨[(1,I .q a),(2,.c<|.P 0 0),(5,.c<|.X 11008000),(6,j (i+1:Y))],[(0,.box 44 0<|av .q c),(11008000,.vec 44 .q<|(cc<|i+1).map λi=>c*E a i 0)],13,[]⟩) (bJ J) ⟨bR J,bE J ?_,e⟩)<|Wk.trans (fa 1000000 11008000 J J J) aH)
  .show(Z ((cc i).map λi=>c*E a i 0)+1+(Z ((cc i).map λi=>c*E a i 0)+1)/4+192)*64<=_;omega
  .show(Z ((cc i).map λi=>c*E a i 0)+1)*4<=_;omega
  .rw[RK,n]
 .have h:i=Z a:=by have h:¬(i:O)<(Z a:O):=aT h;omega
  subst h;exact kJ<|m8<|nK<|kK<|aO<|dU (FA 1000000 J)<|w<|rc J J (AT _ G)<|s J<|bI<|atR J
def HB{k}a d(t:Z a<=1000)(u:Z d<=1000)(l:∀i,QS k (E a i 0))(m:∀i,QS k (E d i 0))(n:k<=100000000000):al z 36 [I .q a,I .q d] (I .q<|jz a d):=by
 refine aR Tryz.func36 ?_;refine N J<|w<|fg .q [] J J (s J<|U<|N J ?_);obtain⟨M,g⟩:∃M,M=max (Z a) (Z d):=⟨_,J⟩;have p:(if(Z a:O)<(Z d:O)then(Z d:O)else(Z a:O))=(M:O):=by rw[g];split<;>omega
 refine R<|aY (α:=Y) (λi=>⟨[(0,I .q a),(1,I .q d),(5,.c<|.X 1000000),(6,j i)],[(1000000,.vec 44 .q<|(cc i).map λi=>E a i 0+E d i 0)],10,[]⟩) (λi=>i<=M) (λi=>M-i) 0 (be _) (wk ⟨sR J,sR J,sR J,sE J J,e⟩ ⟨bR J,e⟩) ?_;intro i v;have r:Z ((cc i).map λi=>E a i 0+E d i 0)=i:=ay;refine U<|N J<|y J (λh=>?_)<|λh=>?_
 .have h:i<M:=by have h:(i:O)<_:=aK h;rw[aq J]at h;split at h<;>omega
  have f:=YF (E a i 0) (E d i 0) (l i) (m i) n;refine aA<|U<|R<|bT ?_;refine rc J J (Zf a i)<|rc J J (Zf d i)<|rc J J f ?_;refine rl .q [E a i 0+E d i 0] J J (ra J J J J J J J J J ?_ ?_<|s J<|eH<|aO<|rt J (hp:=aF)<|aG (i+1) h wc<|Wk.trans (wk (st':=⟨[(0,I .q a),(1,I .q d),(5,.c<|.X 11009000),(6,j (i+1:Y))],[(11009000,.vec 44 .q<|(cc<|i+1).map λi=>E a i 0+E d i 0)],13,[]⟩) (bJ J) ⟨bE J ?_,e⟩)<|Wk.trans (fa 1000000 11009000 J J J) aH)
  .show(Z ((cc i).map λi=>E a i 0+E d i 0)+1+(Z ((cc i).map λi=>E a i 0+E d i 0)+1)/4+192)*64<=_;omega
  .show(Z ((cc i).map λi=>E a i 0+E d i 0)+1)*4<=_;omega
  .rw[RK]
 .have h:i=M:=by have h:¬(i:O)<_:=aT h;rw[aq J]at h;split at h<;>omega
  subst h;subst g;exact kJ<|m8<|nK<|kK<|aO<|dU (FA 1000000 J)<|w<|rc J J (AT _ G)<|s J<|bI<|atR J
def AU l i:E (eV l) i 0=E l i 0:=by have:=a8 (λA:Rx=>A i)<|Rx.rZ l;exact this
def Zg(f:Y->D) n i:E ((cc n).map f) i 0=if i<n then f i else 0:=by
 rw[aV,iT];by_cases h:i<n
 .rw[kS h,aq h];rfl
 .rw[jQ bX,b h];rfl
def HC a c i:E (jz a c) i 0=E a i 0+E c i 0:=by
 rw[jz,AU,Zg];split
 .rfl
 .rw[Rx.iE a G,Rx.iE c G,nQ]
def yy c a i:E (iX c a) i 0=c*E a i 0:=by
 rw[iX,AU,Zg];split
 .rfl
 .rw[Rx.iE a G,fN]
def L8 a i:E (iu a) i 0=E (0::a) i 0:=AU _ i
def HD a c:Rx.lx (jz a c)=Rx.lx a+Rx.lx c:=Rx.ext λi=>HC a c i
def HE c a:Rx.lx (iX c a)=Rx.K c*Rx.lx a:=Rx.ext λi=>by rw[Rx.fV];exact yy c a i
def akB a:Rx.lx (iu a)=Rx.X 1*Rx.lx a:=by rw[iu,Rx.rZ,Rx.L0,Rx.nP,Rx.zero_add]
def uK l:Z (eV l)<=Z l:=Ro
def jm(a c:V D):Y->V D
 |0=>[]
 |d+1=>jz (iu<|jm a c d)<|iX (E a (Z a-1-d) 0) c
def akC(a:V D){c}(d:c<Z a):List.drop (Z a-(c+1)) a=E a (Z a-1-c) 0::List.drop (Z a-c) a:=by rw[pn (G:Z a-(c+1)<Z a),(G:Z a-(c+1)+1=Z a-c),aV,cH (G:Z a-1-c<Z a)];simp only[(G:Z a-(c+1)=Z a-1-c)];rfl
def Zh(a d:V D):∀c,c<=Z a->Rx.lx (jm a d c)=Rx.lx (List.drop (Z a-c) a)*Rx.lx d
 |0,_=>by rw[jm,Dy,AW,Rx.pJ,Rx.zero_mul]
 |c+1,f=>by rw[jm,HD,akB,HE,Zh a d c G,akC a G,Rx.L0,Rx.add_mul,Rx.mul_assoc,Rx.add_comm]
def akD a d c:Rx.bS (jm a d c):=by
 cases c with
 |zero=>exact Rx.uB
 |succ c=>exact Rx.lV _
def Zi(a c:V D):∀d,Z (jm a c d)<=d+Z c
 |0=>by simp[jm]
 |d+1=>by
  have k:=Zi a c d;have f:=uK<|0::jm a c d;have l:Z (iX (E a (Z a-1-d) 0) c)<=Z c:=by have:=uK<|(cc<|Z c).map λi=>E a (Z a-1-d) 0*E c i 0;simpa[iX]using this
  have g:=uK<|(cc<|max (Z<|iu<|jm a c d)<|Z<|iX (E a (Z a-1-d) 0) c).map λi=>E (iu<|jm a c d) i 0+E (iX (E a (Z a-1-d) 0) c) i 0;rw[cR,wG]at g;rw[eB]at f;have m:Z (jm a c<|d+1)<=max (Z<|iu<|jm a c d) (Z<|iX (E a (Z a-1-d) 0) c):=g;have n:Z (iu<|jm a c d)<=Z (jm a c d)+1:=f;omega
def Zj{k}{a}(c:1<=k)(d:∀i,QS k (E a i 0)) i:QS k (E (0::a) i 0):=by
 cases i with
 |zero=>exact QS.zero c
 |succ i=>exact d i
def Zk{k:Y}{a d:V D}(f:∀i,QS k (E a i 0))(g:∀i,QS k (E d i 0)):∀c,∀i,QS (2^c*(2*k+2)-1) (E (jm a d c) i 0)
 |0,i=>QS.zero G
 |c+1,i=>by
  have l:1<=2^c:=kh T;have p:2*k+2<=2^c*(2*k+2):=by have:=dT (2*k+2) l;omega
  have m:QS (2^c*(2*k+2)-1) (E (iu<|jm a d c) i 0):=by rw[L8];exact Zj G (Zk f g c) i
  have n:QS (2^c*(2*k+2)-1) (E (iX (E a (Z a-1-c) 0) d) i 0):=by rw[yy];exact((f _).mul<|g i).le G
  rw[jm,HC];exact(m.add n).le (by rw[fF,gN (2^c) 2,yd];omega)
def akE{k}(F:k<=100000) a d(H:Z a<=12)(L:Z d<=100)(f:∀i,QS k (E a i 0))(g:∀i,QS k (E d i 0)):al z 34 [I .q a,I .q d] (I .q<|jm a d<|Z a):=by
 refine aR Tryz.func34 ?_;have t:=Zk f g;have u:∀c,c<=12->2^c*(2*k+2)-1<=1000000000:=λc p=>by have v:2^c<=2^12:=fT T p;have C:=dT (2*k+2) v;omega
 refine N J<|w<|fg .q [] J J (s J<|U<|N J ?_);refine dU (FA 1000000 J) ?_;refine R<|aY (α:=Y) (λc=>⟨[(0,I .q a),(1,I .q d),(5,I .q<|jm a d c),(6,j<|(Z a:O)-1-c)],[],10,[]⟩) (λc=>c<=Z a) (λc=>Z a-c) 0 (be _) (wk ⟨sR J,sR J,sE J J,sE J ?_,e⟩ e) ?_
 .exact a8 j G
 intro c p;refine U<|N J<|y J (λh=>?_)<|λh=>?_
 .have h:c<Z a:=by have h:(Z a:O)-1-(c:O)>=0:=aK h;omega
  have x:ae ((Z a:O)-1-(c:O))=Z a-1-c:=G;have K:=Zi a d c;have A:=u c G;have l:1<=2^c:=kh T;have M:2*k+2<=2^c*(2*k+2):=by have:=dT (2*k+2) l;omega
  have m:=L7 (k:=k) (E a (ae<|(Z a:O)-1-(c:O)) 0) d G (f _) g G;have B:Z (iX (E a (ae<|(Z a:O)-1-(c:O)) 0) d)<=Z d:=by have:=uK<|(cc<|Z d).map λi=>E a (ae<|(Z a:O)-1-(c:O)) 0*E d i 0;simpa[iX]using this
  have r:Z (iu<|jm a d c)<=Z (jm a d c)+1:=by have:=uK<|0::jm a d c;rwa[eB]at this
  have n:=HB (k:=2^c*(2*k+2)-1) (iu<|jm a d c) (iX (E a (ae<|(Z a:O)-1-(c:O)) 0) d) G G (λi=>by rw[L8];exact Zj G (t c) i) (λi=>by rw[yy];exact((f _).mul<|g i).le G) G;refine aA<|U<|R<|bT ?_;refine rc J J (RJ (jm a d c) G) ?_;refine rc J J m ?_ (hp:=aF);refine rc J J n<|s J<|eH<|aO<|rt J (hp:=aF)<|aG (c+1) h (G:Z a-(c+1)<Z a-c)<|wk ⟨sR J,sR J,sE J ?_,sE J ?_,e⟩ e
  .rw[x];rfl
  .exact a8 j G
 .have h:c=Z a:=by have h:¬(Z a:O)-1-(c:O)>=0:=aT h;omega
  subst h;exact a6<|aO<|N J<|cx J
namespace Rx
def wP(M:Y)(a:O)(A:Rx):Prop:=∀i,∃z:O,aC z<=M/\(a:D)*A i=(z:D)
def Ht(M:Y)(A:Rx):Prop:=∃D:O,D≠0/\aC D<=M/\wP M D A
def L9{a:O}(c:a≠0):(a:D)≠0:=λe=>c<|Rat.intCast_eq_zero_iff.1 e
def wP.le{M a}{c}{A}(d:wP M c A)(k:M<=a):wP a c A:=λi=>by let ⟨z,f,h2⟩:=d i;exact⟨z,cj f k,h2⟩
def Ht.le{M a}{A}(c:Ht M A)(k:M<=a):Ht a A:=by let ⟨D,d,h2,f⟩:=c;exact⟨D,d,cj h2 k,f.le k⟩
def Ht.zero{M}(a:1<=M):Ht M 0:=⟨1,T,a,λ_=>⟨0,be _,fN _⟩⟩
def Ht.qs{M c}{A}(l:Ht M A)(r:M<4294967296^c) i:QS c (A i):=by
 let ⟨a,m,g,n⟩:=l;let ⟨z,k,f⟩:=n i;have d:∀(a z:O),0<a->aC a<=M->aC z<=M->(a:D)*A i=(z:D)->QS c (A i):=by
  intro a z p g k f;have e:iU z a=A i:=by have t:=nT _<|L9 (G:a≠0);rw[L',ym,<-f];grind
  rw[<-e];exact Hb p (G:aC z<4294967296^c) (G:aC a<4294967296^c)
 rcases Int.lt_trichotomy a 0 with e|e|e
 .exact d (-a) (-z) G G G (by rw[HG,HG,<-f];grind)
 .exact absurd e m
 .exact d a z e g k f
def qU{a c}{M d}(f:aC a<=M)(k:aC c<=d):aC (a*c)<=M*d:=by rw[pD];exact ls f k
def Ht.sub{M a}{A B}(d:Ht M A)(k:Ht a B):Ht (2*(M*a)) (A-B):=by
 let ⟨D,f,h2,g⟩:=d;let ⟨E,l,c,m⟩:=k;refine⟨D*E,yl f l,by have:=qU h2 c;omega,λi=>?_⟩;let ⟨z,n,p⟩:=g i;let ⟨w,r,t⟩:=m i;refine⟨z*E-D*w,?_,?_⟩
 .have u:=qU n c;have v:=qU h2 r;omega
 .rw[yg,fh,Ma,fh,fh,<-p,<-t];grind
def Ht.bt{M n}{A}(c:Ht M A)(l:sz A<=n)(a:1<=n):Ht (n*M) (bt A):=by
 let ⟨D,d,h2,f⟩:=c;refine⟨D,d,by have:=ls a h2;omega,λi=>?_⟩;by_cases m:n<=i+1
 .exact⟨0,be _,by rw[pM,lU G,fN,fN];rfl⟩
 .let ⟨z,g,k⟩:=f<|i+1;refine⟨((i+1:Y):O)*z,qU G g,?_⟩;rw[pM,fh,<-k,qV];grind
def Ht.akF{M k}{A}(d:Ht M A)(f:A k≠0):Ht M (K (A k)⁻¹ *A):=by
 let ⟨D,g,h2,a⟩:=d;let ⟨w,l,c⟩:=a k;have m:w≠0:=λe=>by
  subst e;rcases AN.1 (c.trans Rat.intCast_zero)with e|e
  .exact L9 g e
  .exact f e
 refine⟨w,m,l,λi=>?_⟩;let ⟨z,n,p⟩:=a i;refine⟨z,n,?_⟩;rw[fV,<-c,<-p];grind
def Ht.smul{M a}{A}{c}(f:Ht M A)(k:Ht a (K c)):Ht (M*a) (K c*A):=by let ⟨D,g,h2,l⟩:=f;let ⟨E,m,n,p⟩:=k;refine⟨D*E,yl g m,qU h2 n,λi=>?_⟩;let ⟨z,r,t⟩:=l i;let ⟨w,u,d⟩:=p 0;refine⟨z*w,qU r u,?_⟩;rw[nk,aq J]at d;rw[fV,fh,fh,<-t,<-d];grind
def Zl{a b:V D}{n m M f:Y}(H:Z b=n+1)(L:Z a=n+m)(v:E b n 0≠0)(P:Ht M (lx a))(Q:Ht f (lx b)):∀c,c<=m->
  ∃d:O,d≠0/\aC d<=M*(2*f)^c/\wP (M*(2*f)^c) d (lx (dm (E b n 0)⁻¹ a b n m c).1)/\wP (M*(2*f)^c) d (lx (dm (E b n 0)⁻¹ a b n m c).2)
 |0,_=>by let ⟨d,S,h2,W⟩:=P;rw[py,qD];refine⟨d,S,h2,λi=>⟨0,be _,?_⟩,W⟩;show(d:D)*E (bp m (0:D)) i 0=_;rw[He,fN];rfl
 |c+1,J=>by
  let ⟨d,d1,d2,d3,d4⟩:=Zl H L v P Q c G;let ⟨A,h,o,K⟩:=Q;let ⟨β,B,p⟩:=K n;let ⟨_,q0,_⟩:=RF H L v c G;let ⟨l1,l2⟩:=yp (E b n 0)⁻¹ a b n m c;have C:β≠0:=λe=>by
   subst e;rcases AN.1 (p.trans Rat.intCast_zero)with e|e
   .exact L9 h e
   .exact v e
  have l:(β:D)*(E b n 0)⁻¹ =(A:D):=by have p:(A:D)*E b n 0=(β:D):=p;rw[<-p];grind
  rw[dm,fF,<-yd];generalize dm (E b n 0)⁻¹ a b n m c=x at*;generalize M*(2*f)^c=X at*;let ⟨q,r⟩:=x;simp only at d3 d4 q0 l1 l2⊢;let ⟨t,t1,u⟩:=d4<|m-1-c+n;have u:(d:D)*E r (m-1-c+n) 0=(t:D):=u;have g:X*f<=X*(2*f):=jh X G;have s:X*(2*f)=X*f+X*f:=by rw[Nat.two_mul,yj]
  refine⟨d*β,yl d1 C,cj (qU d2 B) g,λi=>?_,λi=>?_⟩
  .rw[gx,AI i _ G];by_cases e:m-1-c=i
   .rw[aq e];refine⟨t*A,cj (qU t1 o) g,?_⟩;rw[fh,fh,<-u,<-l];grind
   .rw[hY e];let ⟨z,F,k⟩:=d3 i;have k:(d:D)*E q i 0=(z:D):=k;refine⟨z*β,cj (qU F B) g,?_⟩;rw[fh,fh,<-k];grind
  .rw[Hz _ G,eI,fV,mG];let ⟨z,F,k⟩:=d4 i;have R:=qU F B;by_cases e:m-1-c<=i
   .rw[aq e];let ⟨w,y,I⟩:=K<|i-(m-1-c);have T:=qU t1 y;refine⟨z*β-t*w,G,?_⟩;rw[Ma,fh,fh,fh,<-k,<-I,<-u,<-l];grind
   .rw[hY e];refine⟨z*β,G,?_⟩;rw[fh,fh,<-k];grind
def wP.take{M}{c}{a}(d:wP M c (lx a)) n:wP M c (lx<|h n a):=λi=>by
 rw[gx,DT];split
 .exact d i
 .exact⟨0,be _,fN _⟩
def HH{a c}{t u}(p:bS c)(f:c≠[])(i:Ht (2^t) (lx a))(r:Ht (2^u) (lx c)):Ht (2^(t+(u+1)*(a.length+1-c.length))) (lx<|iF a c)/\Ht (2^(t+(u+1)*(a.length+1-c.length))) (lx<|eY a c)/\
  (c.length<=a.length->∀d,d<=a.length+1-c.length->Ht (2^(t+(u+1)*(a.length+1-c.length))) (lx (dm (c.getD (c.length-1) 0)⁻¹ a c (c.length-1) (a.length+1-c.length) d).2)):=by
 have v:=cQ.2 f
 unfold iF eY
 by_cases h:a.length<c.length
 .rw[aq h,aq h];refine⟨Ht.zero<|kh T,i.le<|fT T<|Nat.le_add_right _ _,λx=>absurd h G⟩
 .rw[b h,b h,rZ,rZ];have g:=Zl (a:=a) (b:=c) (n:=c.length-1) (m:=a.length+1-c.length) G G (p.ne f) i r;have k:∀d,2^t*(2*2^u)^d=2^(t+(u+1)*d):=λd=>by rw[show 2*2^u=2^(u+1)by rw[fF,gN],<-GX,<-mE]
  let ⟨D,d1,d2,d3,d4⟩:=g _<|a7 _;rw[k]at d2 d3 d4;refine⟨⟨D,d1,d2,d3⟩,⟨D,d1,d2,d4.take _⟩,λ_ d l=>?_⟩;let ⟨D,d1,d2,d3,d4⟩:=g d l;rw[k]at d2 d3 d4;exact Ht.le ⟨D,d1,d2,d4⟩<|fT T<|RL (jh _ l) _
def Zm{r}{M}(c:bS r)(k:Ht M (lx r)):Ht M (lx<|dZ r):=by
 by_cases a:r=[]
 .subst a;rw[L6];exact k
 .rw[yx a];exact k.akF (k:=Z r-1)<|c.ne a
def Mb n{k}(a:k<=n):2^k<=2^n:=fT T a
def nn{t a}(c:t<32*a):2^t<4294967296^a:=by rw[(T:(4294967296:Y)=2^32),<-GX];exact RM T c
def three{d}:1<=d->d+2<=3^d:=by
 intro h;induction d with
 |zero=>omega
 |succ d a=>
  by_cases e:d=0
  .subst e;decide
  .have:=a G;rw[fF];omega
def Mc{a c}(d:c≠[]):Z (dZ<|eY a c)<Z c\/dZ (eY a c)=[]:=by
 by_cases h:eY a c=[]
 .right;rw[h,L6]
 .left;have:=yr (a:=a) d;unfold dZ;rw[b h];refine uv (DL _) ?_;rw[tf,cR];exact this
def Zn{s:Y}:∀(k t:Y)(a c:V D),bS a->bS c->Z c<k->(c=[]\/Z c<Z a)->Z a<=500->Ht (2^t) (lx a)->Ht (2^t) (lx c)->(t+1)*3^Z a<=32*s->
  yq s k a c/\(∀i,QS s (E (jl k a c) i 0))/\Z (jl k a c)<=500
 |0,_,_,_,_,_,f,_,_,_,_,_=>by omega
 |k+1,t,a,c,v,m,H,g,la,hA,n,L=>by
  have x:0<3^Z a:=kh T;have p:t<32*s:=by have:=jh (t+1) (show 1<=3^Z a from x);omega
  rw[yq,jl];split
  .rename_i e;exact⟨.inl e,λi=>hA.qs (nn p) i,la⟩
  .rename_i e;have g:=g.resolve_left e;have K:=cQ.2 e;let ⟨q1,r,A⟩:=HH m e hA n;have B:t+(t+1)*(Z a+1-Z c)+1=(t+1)*(Z a-Z c+2):=by rw[(G:Z a+1-Z c=Z a-Z c+1),(G:Z a-Z c+2=Z a-Z c+1+1),yj (t+1) (Z a-Z c+1) 1];omega
   have M:(t+1)*(Z a-Z c+2)*3^Z c<=(t+1)*3^Z a:=by have:=three (d:=Z a-Z c) G;rw[yd];refine jh _ ?_;refine cj (dT _ this) ?_;rw[<-mE,(G:Z a-Z c+Z c=Z a)];exact a7 _
   have u:=uJ (b:=c) v;have C:0<3^Z c:=kh T;have l:t+(t+1)*(Z a+1-Z c)<32*s:=by have:=jh ((t+1)*(Z a-Z c+2)) (show 1<=3^Z c from C);omega
   let ⟨i1,i2,i3⟩:=Zn (s:=s) k (t+(t+1)*(Z a+1-Z c)) c (dZ<|eY a c) m (tr _) (by rcases Mc (a:=a) e with f|f;omega;rw[f,m7];omega) ((Mc (a:=a) e).symm) G
    (n.le<|fT T<|Nat.le_add_right _ _) (Zm u r) (by rw[B];omega)
   refine⟨.inr ⟨⟨la,G,m.ne e,λi=>n.qs (nn p) i,λj F i=>(A G j F).qs (nn l) i,λf=>u.ne f,λi=>r.qs (nn l) i⟩,i1⟩,i2,i3⟩
end Rx
open Rx
noncomputable def np(L:V (Rx×Y)):Y->Y->V (Rx×O)
 |0,_=>[]
 |k+1,n=>(if 1<sz (pF (kP n) L)then[(pF (kP n) L,(n:O))]else[])++np L k (n+1)
def RN{L:V (Rx×Y)}:∀(k:Y){n:Y},(∀x∈L,x.2<n)->np L k n=[]
 |0,_,_=>rfl
 |k+1,n,c=>by
  have d:pF (kP n) L=1:=L3 λx a=>b (by have:=c x a;omega)
  rw[np,d,qR,b G,RN k (λx a=>by have:=c x a;omega),gO]
def RO{A:Rx}(a:2<=sz A):∀n,n+1<=sz (pk A n)
 |0=>by rw[show pk A 0=1 from J,qR];omega
 |n+1=>by
  have c:A≠0:=λe=>by rw[e,ko]at a;omega
  have d:=RO a n;have f:pk A n≠0:=λe=>by rw[e,ko]at d;omega
  have:=dG f c;rw[pk];omega
def Zo{c:Y->Y}:∀{L:V (Rx×Y)}{x:Rx×Y},x∈L->pk x.1 (c x.2)∣pF c L
 |d::L,x,a=>by
  rw[pF];rcases bY.1 a with rfl|a
  .exact dvd_mul_right _ _
  .exact dV (Zo a) _
def RP{L}(a:FL L){x}(d:x∈L):x.2<sz (pF id L):=by have f:=jy (Zo (c:=id) d) (uI a.mo).ne;have g:=RO (a.fW x d).1 x.2;have i:sz (pk x.1 x.2)<=sz (pF id L):=f;omega
end Go.El
namespace Go.El
open Go Go.Proofs Go.RowKit
def mL(c:D):V D:=eV [c]
def RQ c:al z 44 [aQ c] (I .q<|mL c):=by refine aR Tryz.func44 ?_;exact N J<|w<|rl .q [_] J J (rc J J (AT [c] (by rw[qB];omega))<|s J<|cx J)
def DU(a c:V D):V D:=jz a<|iX ((-1:O):D) c
def Zp a c i:E (DU a c) i 0=E a i 0-E c i 0:=by rw[DU,HC,yy,show(((-1:O)):D)= -1 from J];grind
def akG{k}a c(m:Z a<=1000)(f:Z c<=1000)(n:∀i,QS k (E a i 0))(g:∀i,QS k (E c i 0))(l:1<=k)(v:k<=10000000000):al z 117 [I .q a,I .q c] (I .q<|DU a c):=by
 have p:QS k (((-1:O)):D):=⟨(aJ.one (a:= -1) T).le l,(aJ.one (a:=1) T).le l⟩;have r:=L7 (((-1:O)):D) c f p g G;have t:∀i,QS k (E (iX ((-1:O):D) c) i 0):=λi=>by rw[yy,show(((-1:O)):D)*E c i 0= -(E c i 0)by rw[show(((-1:O)):D)= -1 from J];grind];exact(g i).neg
 have u:Z (iX ((-1:O):D) c)<=1000:=cj (DL _) (by simp;exact f);have d:=HB a _ m u n t G;refine aR Tryz.func117 ?_;exact N J<|w<|rc J J (x8 (-1) T T)<|rc J J r<|rc J J d<|s J<|cx J
def Md(a:V D)(c:a≠[])(d:Z a<=1000):al z 83 [I .q a] (aQ<|E a (Z a-1) 0):=by have f:=cQ.2 c;refine aR Tryz.func83 ?_;refine N J<|N J (hp:=aF)<|bQ J ?_;rw[(G:Z a-1=ae ((Z a:O)-1))];rfl
def akH{k}c(g:c≠0)(a:QS k c)(i:k<=100000000000):al z 82 [aQ c] (.t [(true,av .q c⁻¹),(ah,[.I .i64 0])]):=by have e:iU (c.den:O) c.num=c⁻¹ :=(Rat.inv_def c).symm;have f:=Rh (c.den:O) c.num (λe=>g<|AJ e) (a.d.sm G)<|a.n.sm G;rw[e]at f;refine aR Tryz.func82 ?_;exact N J<|bD J J f J<|cx J
def akI{r}(a:r≠[]):dZ r=iX (E r (Z r-1) 0)⁻¹ r:=by refine Rx.tm (Rx.tr r) (Rx.lV _) ?_;rw[Rx.yx a,HE]
def RR{k}a(f:Z a<=1000)(d:∀i,QS k (E a i 0))(g:a≠[]->E a (Z a-1) 0≠0)(n:k<=10000000000):al z 29 [I .q a] (I .q<|dZ a):=by
 refine aR Tryz.func29 ?_;refine N J<|U<|N J<|y J (λh=>?_)<|λh=>aA ?_
 .have h:(Z a:O)=0:=eq_of_beq h;rw[fB (by omega:Z a=0)];exact N J<|bI<|cA<|gZ cq J<|bf.nil _
 .have c:a≠[]:=λe=>by subst e;cases h
  have m:=(d<|Z a-1).inv<|g c;have l:=L7 (E a (Z a-1) 0)⁻¹ a f m d G;rw[<-akI c]at l;exact w<|rc J J (Md a c f)<|rc J J (akH _ (g c) (d _) G)<|s J<|bD J J l J<|cx J
def akJ{k}a(t:Z a<=1000)(l:∀i,QS k (E a i 0))(f:1<=k)(u:k<=10000000000):al z 132 [I .q a] (I .q<|rX a):=by
 refine aR Tryz.func132 ?_;obtain⟨F,g⟩:∃F:Y->D,F=λi=>(((i+1:Y):O):D)*E a (i+1) 0:=⟨_,J⟩
 have m:rX a=(cc<|Z a-1).map F:=by rw[g];rfl
 rw[m];refine N J<|w<|fg .q [] J J (s J<|U<|N J ?_);refine R<|aY (α:=Y) (λi=>⟨[(0,I .q a),(3,.c<|.X 1000000),(4,j ((i+1:Y):O))],[(1000000,.vec 44 .q<|(cc i).map F)],3,[]⟩) (λi=>i<=Z a-1) (λi=>Z a-i) 0 (be _) aH ?_;intro i v;have n:Z ((cc i).map F)=i:=ay;refine U<|N J<|y J (λh=>?_)<|λh=>?_
 .have h:i+1<Z a:=by have h:((i+1:Y):O)<(Z a:O):=aK h;omega
  have p:QS k ((((i+1:Y):O)):D):=⟨(aJ.one (a:=((i+1:Y):O)) G).le f,(aJ.one (a:=1) T).le f⟩;have d:=LM ((((i+1:Y):O)):D) (E a (ae<|((i+1:Y):O)) 0) p (l _) G;have r:((((i+1:Y):O)):D)*E a (ae<|((i+1:Y):O)) 0=F i:=by rw[g,bW]
  rw[r]at d;refine aA<|U<|R<|bT ?_;refine rc J J (x8 ((i+1:Y):O) G G) ?_;refine rc J J d ?_ (hp:=aF);refine rl .q [F i] J J (ra J J J J J J J J J ?_ ?_<|s J ?_)
  .show(Z ((cc i).map F)+1+(Z ((cc i).map F)+1)/4+192)*64<=_;omega
  .show(Z ((cc i).map F)+1)*4<=_;omega
  refine aX<|rt J (hp:=aF)<|aG (i+1) (G:i+1<=Z a-1) oq<|Wk.trans (wk (st':=⟨[(0,I .q a),(3,.c<|.X 4009000),(4,j ((i+1+1:Y):O))],[(4009000,.vec 44 .q<|(cc<|i+1).map F)],20,[]⟩) (bJ J) ⟨bE J ?_,e⟩)<|Wk.trans (fa 1000000 4009000 J J J) aH;rw[RK]
 .have h:i=Z a-1:=by have h:¬((i+1:Y):O)<(Z a:O):=aT h;omega
  subst h;exact kJ<|m8<|nK<|kK<|aO<|c6 1000000 J J J<|N J<|bI<|atR J
open Rx
def RS c i:E (mL c) i 0=if i=0 then c else 0:=by
 rw[mL,AU];cases i with
 |zero=>rfl
 |succ i=>simp
def Me a:E (iu a) 0 0=0:=by rw[L8];rfl
def Mf a i:E (iu a) (i+1) 0=E a i 0:=by rw[L8];rfl
structure qW(a b:V D)(n m c:Y)(q r:V D):Prop where
 qc:bS q
 rc:bS r
 qg:∀i,q.getD i 0=if i<c-n then(dm (b.getD n 0)⁻¹ a b n m (c-n)).1.getD (a.length-c+i) 0 else 0
 rg:∀i,r.getD i 0=if i<min c n then(dm (b.getD n 0)⁻¹ a b n m (c-n)).2.getD (a.length-c+i) 0 else 0
def RT{a}{n}(c:bS a)(f:∀i,n<=i->E a i 0=0):Z a<=n:=eQ λd=>by
 rcases c with c|c
 .rw[c]at d;exact d<|be _
 .exact c<|f _ G
def akK{a:V D}{n}(c:E a n 0≠0):n<Z a:=eQ λd=>c<|iE a G
def Zq a c:bS (jz a c):=lV _
def Zr{inv:D}{a d:V D}{n m:Y}(f:Z a=n+m)(g:Z d=n+1):∀c,c<=m->∀i,i<m-c->(dm inv a d n m c).2.getD i 0=E a i 0
 |0,_,_,_=>rfl
 |c+1,k,i,l=>by rw[dm];show E (iV _ _ d<|m-1-c) i 0=_;rw[iV,te (by rw[(yp inv a d n m c).2];omega),b G];exact Zr f g c G i G
def RU(r:V D)(x:D):∀i,E (jz (iu r)<|mL x) i 0=if i=0 then x else E r (i-1) 0
 |0=>by rw[HC,Me,RS,aq J,aq J,Hf]
 |i+1=>by rw[HC,Mf,RS,b G,b G,nQ];rfl
def qW.start a c n m:qW a c n m 0 [] []:=
 ⟨uB,uB,λi=>by rw[b G];rfl,λi=>by rw[b G];rfl⟩
section
variable{a b q r:V D}{n m c:Y}
def qW.r1(f:qW a b n m c q r)(g:Z b=n+1)(p:m=Z a-n)(t:c<Z a) i:
  E (jz (iu r)<|mL<|E a (Z a-1-c) 0) i 0=if i<min (c+1) (n+1)then(dm (E b n 0)⁻¹ a b n m (c-n)).2.getD (Z a-(c+1)+i) 0 else 0:=by
 rw[RU]
 have k:(dm (E b n 0)⁻¹ a b n m (c-n)).2.getD (Z a-(c+1)) 0=E a (Z a-1-c) 0:=by
  rw[(G:Z a-(c+1)=Z a-1-c)];by_cases l:c<n
  .rw[(G:c-n=0)];rfl
  .exact Zr G g _ G _ G
 cases i with
 |zero=>rw[aq J,aq G,jd,k]
 |succ i=>
  rw[hY G,dE,f.rg]
  by_cases d:i<min c n
  .rw[aq d,aq G,(G:Z a-(c+1)+(i+1)=Z a-c+i)]
  .rw[hY d,hY G]
def qW.step(x:qW a b n m c q r)(M:Z b=n+1)(P:m=Z a-n)(Q:E b n 0≠0)(S:c<Z a){d}(F:d=jz (iu r) (mL<|E a (Z a-1-c) 0)):
  (Z d=n+1->qW a b n m (c+1) (jz (iu q)<|mL<|E d n 0/E b n 0) (DU d<|iX (E d n 0/E b n 0) b))/\(Z d≠n+1->qW a b n m (c+1) (iu q) d)/\Z d<=n+1:=by
 have g:=x.r1 M P S
 rw[<-F]at g
 have k:bS d:=by rw[F];exact Zq _ _
 have W:Z d<=min (c+1) (n+1):=RT k λi l=>by rw[g,hY G]
 by_cases X:c<n
 .refine⟨λe=>G,λ_=>⟨lV _,k,λi=>?_,λi=>?_⟩,G⟩
  .rw[hY G];cases i with
   |zero=>exact Me q
   |succ i=>rw[Mf,x.qg,hY G]
  .rw[g,(G:c+1-n=c-n)];by_cases l:i<c+1
   .rw[aq G,aq G]
   .rw[hY G,hY G]
 obtain⟨j,y⟩:∃j,c=n+j:=⟨c-n,G⟩
 have o:c-n=j:=G
 have p:c+1-n=j+1:=G
 have u:=x.qg
 rw[o]at g u
 have f:=yp (E b n 0)⁻¹ a b n m j
 have A:dm (E b n 0)⁻¹ a b n m (j+1)=((dm (E b n 0)⁻¹ a b n m j).1.set (m-1-j)<|(dm (E b n 0)⁻¹ a b n m j).2.getD (m-1-j+n) 0*(E b n 0)⁻¹,iV (dm (E b n 0)⁻¹ a b n m j).2 (-((dm (E b n 0)⁻¹ a b n m j).2.getD (m-1-j+n) 0*(E b n 0)⁻¹)) b<|m-1-j):=rfl
 have v:E d n 0=(dm (E b n 0)⁻¹ a b n m j).2.getD (m-1-j+n) 0:=by rw[g,aq G,(G:Z a-(c+1)+n=m-1-j+n)]
 rw[<-v,<-ym]at A
 generalize ht:E d n 0/E b n 0=t at*
 have B:t*E b n 0=E d n 0:=by rw[<-ht,Rat.div_mul_cancel Q]
 have H:∀i,E (jz (iu q)<|mL t) i 0=if i<c+1-n then(dm (E b n 0)⁻¹ a b n m (c+1-n)).1.getD (Z a-(c+1)+i) 0 else 0:=λi=>by
  rw[RU,p,A];show _=if i<j+1 then E ((dm (E b n 0)⁻¹ a b n m j).1.set (m-1-j) t) (Z a-(c+1)+i) 0 else 0
  rw[AI _ _ (by rw[f.1];omega)];cases i with
  |zero=>rw[aq J,aq G,aq G]
  |succ i=>
   rw[hY G,dE,u]
   by_cases l:i<j
   .rw[aq l,aq G,hY G,(G:Z a-(c+1)+(i+1)=Z a-c+i)]
   .rw[hY l,hY G]
 have K:∀i,E (DU d<|iX t b) i 0=if i<min (c+1) n then(dm (E b n 0)⁻¹ a b n m (c+1-n)).2.getD (Z a-(c+1)+i) 0 else 0:=λi=>by
  rw[Zp,yy,p,A,g];show _=if i<min (c+1) n then E (iV (dm (E b n 0)⁻¹ a b n m j).2 (-t) b<|m-1-j) (Z a-(c+1)+i) 0 else 0
  by_cases l:i<n
  .rw[aq G,aq G,iV,te (by rw[f.2];omega),aq G,(G:Z a-(c+1)+i-(m-1-j)=i)];grind
  .rw[hY (by omega:¬i<min (c+1) n)];by_cases e:i=n
   .subst e;rw[aq G,B,g,aq G];grind
   .rw[hY G,iE b G];grind
 refine⟨λ_=>⟨Zq _ _,lV _,H,K⟩,λw=>?_,G⟩
 have C:E d n 0=0:=eQ λC=>by have:=akK C;omega
 have L:t=0:=by rw[<-ht,C,ym,qO]
 refine⟨lV _,k,λi=>?_,λi=>?_⟩
 .rw[<-H,RU,L];cases i with
  |zero=>rw[Me,aq J]
  |succ i=>rw[Mf,hY G];rfl
 .rw[<-K,Zp,yy,L];grind
end
section
variable{a b q r:V D}{n m c:Y}
def akL(g:qW a b n m (Z a) q r)(p:Z b=n+1)(l:m=Z a-n):q=iF a b:=by
 have d:Z b-1=n:=G;have f:Z a+1-Z b=m:=G;refine tm g.qc (L5 a b)<|ext λi=>?_;rw[gx,gx,g.qg,iF,d,f,<-l];by_cases k:i<m
 .rw[aq k,hY G,AU,mr,eF]
 .rw[hY k];split
  .rfl
  .rw[AU,iE _<|by rw[(yp ..).1];omega]
def akM(k:qW a b n m (Z a) q r)(t:Z b=n+1)(l:m=Z a-n)(p:bS a):r=eY a b:=by
 have d:Z b-1=n:=G;have f:Z a+1-Z b=m:=G;refine tm k.rc (uJ p)<|ext λi=>?_;rw[gx,gx,k.rg,eY,d,f,<-l,mr,eF];by_cases hl:Z a<Z b
 .rw[aq hl];by_cases g:i<Z a
  .rw[aq G,(G:m=0)];rfl
  .rw[hY G,iE a G]
 .rw[hY hl,AU,DT];by_cases g:i<n
  .rw[aq G,aq g]
  .rw[hY G,hY g]
def Zs{f:Y}(p:1<=f){inv:D}(g:QS f inv)(k:∀d,d<=m->∀i,QS f ((dm inv a b n m d).2.getD i 0)):∀d,d<=m->∀i,QS (2*f) ((dm inv a b n m d).1.getD i 0)
 |0,_,i=>by
  rw[dm,aV,ln];have:QS (2*f) 0:=QS.zero G;by_cases l:i<m
  .rw[aq l];exact this
  .rw[hY l];exact this
 |d+1,t,i=>by
  rw[dm];show QS _ (E ((dm inv a b n m d).1.set _ _) i 0);rw[AI _ _ (by rw[(yp ..).1];omega)];split
  .exact(k d G _).mul g
  .exact Zs p g k d G i
def akN(d:bS a)(f:a≠[]):E a (Z a-1) 0≠0:=d.resolve_left f
end
def Zt{p}(M:1<=p)(hs:p<=100000000){a d}(hac:bS a)(P:d≠[])(H:AL p a d):al z 121 [I .q a,I .q d] (.t [(ah,[.S .q (iF a d)]),(ah,[.S .q (eY a d)]),(ah,[.I .i64 0])]):=by
 have Pq:=cQ.2 P;obtain⟨n,K⟩:∃n,Z d=n+1:=⟨Z d-1,G⟩;obtain⟨m,hm⟩:∃m,m=Z a-n:=⟨_,J⟩;have v:=H.bn;have L:=H.qS;rw[(G:Z d-1=n)]at v L;rw[(G:Z a+1-Z d=m)]at L;have la:=H.la;have lb:=H.lb;have qb:=H.qb;have qa:∀i,QS p (E a i 0):=L 0<|be _;have Q:QS p (E d n 0)⁻¹ :=(qb n).inv v;have hQ:=Zs M Q L;have W:∀{k:Y},1<=k->QS k (0:D):=λh=>QS.zero h
 have key:∀{c:Y}{q r:V D},c<=Z a->qW a d n m c q r->(∀i,QS (2*p) (E q i 0))/\(∀i,QS p (E r i 0))/\Z q<=500/\Z r<=500:=λ{c q r} hc f=>by
  refine⟨λi=>?_,λi=>?_,?_,?_⟩
  .rw[f.qg];split
   .exact hQ _ G _
   .exact W G
  .rw[f.rg];split
   .exact L _ G _
   .exact W M
  .have:=RT (n:=c-n) f.qc λi hi=>by rw[f.qg,b G]
   omega
  .have:=RT (n:=min c n) f.rc λi hi=>by rw[f.rg,b G]
   omega
 have X:∀{k:Y}{l:V D},1<=k->(∀i,QS k (E l i 0))->∀i,QS k (E (iu l) i 0):=λ{k l} hk h i=>by
  cases i with
  |zero=>rw[Me];exact W hk
  |succ i=>rw[Mf];exact h i
 have o:∀{k:Y}{x:D},1<=k->QS k x->∀i,QS k (E (mL x) i 0):=λ{k x} hk h i=>by
  rw[RS];split
  .exact h
  .exact W hk
 have T:∀l:V D,Z (iu l)<=Z l+1:=λl=>cj (DL _) HA
 have rA:∀x:D,Z (mL x)<=1:=λx=>cj (DL _) (by rw[qB];omega)
 refine aR Tryz.func121 ?_;refine N J<|U<|N J<|y J (λh=>?_)<|λh=>aA ?_
 .have h:(Z d:O)=0:=eq_of_beq h;exact absurd h G
 refine w<|rl .q [] J J (s J<|w<|rl .q [] J J (s J<|U<|N J ?_));refine R<|aY (α:=Y×V D×V D) (λu=>⟨[(0,I .q a),(1,I .q d),(7,I .q u.2.1),(8,I .q u.2.2),(9,j<|(Z a:O)-1-u.1)],[],20,[]⟩) (λu=>u.1<=Z a/\qW a d n m u.1 u.2.1 u.2.2) (λu=>Z a-u.1) (0,[],[]) ⟨be _,qW.start a d n m⟩ (wk ⟨sR J,sR J,sR J,sR J,sE J ?_,e⟩ e) ?_
 .exact a8 j (G:(Z a:O)-1=(Z a:O)-1-(0:Y))
 rintro⟨c,q,r⟩ ⟨c1,f⟩;simp only at c1 f;let ⟨q1,r1,q2,r2⟩:=key c1 f;refine U<|N J<|y J (λh=>?_)<|λh=>?_
 .have h:c<Z a:=by have h:(Z a:O)-1-c>=0:=aK h;omega
  have ei:ae ((Z a:O)-1-c)=Z a-1-c:=G;let ⟨S1,S2,S3⟩:=f.step K hm v h J;have A:∀i,QS p (E (jz (iu r)<|mL<|E a (Z a-1-c) 0) i 0):=λi=>by
   rw[f.r1 K hm h];split
   .exact L _ G _
   .exact W M
  have B:=RQ<|E a (ae<|(Z a:O)-1-c) 0;have C:=HB (iu r) (mL<|E a (ae<|(Z a:O)-1-c) 0) (by have:=T r;omega) (by have:=rA<|E a (ae<|(Z a:O)-1-c) 0;omega) (X M r1) (o M<|qa _) G;rw[ei]at B C;generalize hsE:jz (iu r) (mL<|E a (Z a-1-c) 0)=S at*;rw[<-ei]at B C;refine aA<|U<|R<|w<|rc J J (RJ r G)<|rc J J B (rc J J C<|s J ?_) (hp:=aF);refine bD J J (RJ q G) J<|N J<|y J (λF=>?_)<|λF=>cZ ?_
  .have F:(Z S:O)=(Z d:O):=eq_of_beq F;have g:Z S=n+1:=G;have hS0:S≠[]:=λcz=>by rw[cz]at g;cases g
   have HI:=aj1 (E S (Z S-1) 0) (E d (Z d-1) 0) (λcz=>H.bn<|AJ cz) (A _) (qb _) G;rw[g,K,dE]at HI;have HJ:=Md S hS0 G;have RV:=Md d P G;rw[g,dE]at HJ;rw[K,dE]at RV;have hD:=S1 g;have ht:QS (2*p) (E S n 0/E d n 0):=by rw[ym];exact(A n).mul Q
   generalize E S n 0/E d n 0=t at*;have Mg:=L7 t d G ht (λi=>(qb i).le G) G;have Gk:=akG (k:=4*p) S (iX t d) G (cj (DL _) bX) (λi=>(A i).le G) (λi=>by rw[yy];exact(ht.mul<|(qb i).le G).le G) G G;have Mh:=HB (iu q) (mL t) (by have:=T q;omega) (by have:=rA t;omega) (X G q1) (o G ht) G;refine w<|rc J J HJ<|rc J J RV<|rc J J HI<|s J ?_;refine w<|rc J J Mg<|rc J J Gk<|s J ?_;refine bT<|rc J J (RQ t)<|rc J J Mh<|s J ?_;refine aX<|rt J (hp:=aF)<|aG (c+1,jz (iu q)<|mL t,DU S<|iX t d) ⟨h,hD⟩ (G:Z a-(c+1)<Z a-c)<|wk ⟨sR J,sR J,sR J,sR J,sE J ?_,e⟩ e;exact a8 j (G:(Z a:O)-1-c-1=(Z a:O)-1-(c+1:Y))
  .have F:Z S≠n+1:=λcz=>by have F:(Z S:O)≠(Z d:O):=nf F;omega
   refine aX<|rt J (hp:=aF)<|aG (c+1,iu q,S) ⟨h,S2 F⟩ (G:Z a-(c+1)<Z a-c)<|wk ⟨sR J,sR J,sR J,sR J,sE J ?_,e⟩ e;exact a8 j (G:(Z a:O)-1-c-1=(Z a:O)-1-(c+1:Y))
 .have h:c=Z a:=by have h:¬(Z a:O)-1-c>=0:=aT h;omega
  subst h;rw[akL f K hm,akM f K hm hac];exact a6<|aO<|N J<|cx J
def akQ{s}(g:1<=s)(i:s<=100000000){a c}(d:bS a)(f:c≠[])(k:AL s a c):al z 116 [I .q a,I .q c] (I .q<|iF a c):=by refine aR Tryz.func116 ?_;exact N J<|bD J J (Zt g i d f k) J<|N J<|cx J
def RX{s}(g:1<=s)(i:s<=100000000){a c}(d:bS a)(f:c≠[])(k:AL s a c):al z 66 [I .q a,I .q c] (I .q<|eY a c):=by refine aR Tryz.func66 ?_;exact N J<|bD J J (Zt g i d f k) J<|N J<|cx J
def akR{n}(A:1<=n)(B:n<=100000000) k a c(F:bS a)(H:bS c)(L:yq n k a c)(M:Z (jl k a c)<=1000)(P:∀i,QS n (E (jl k a c) i 0)):al z 131 [I .q a,I .q c] (I .q<|dZ<|jl k a c):=by
 refine aR Tryz.func131 ?_;refine N J<|U<|R<|aY (α:=Y×V D×V D) (λx=>⟨[(0,I .q x.2.1),(1,I .q x.2.2)],[],2,[]⟩) (λx=>yq n x.1 x.2.1 x.2.2/\jl x.1 x.2.1 x.2.2=jl k a c/\bS x.2.1/\bS x.2.2) (λx=>x.1) (k,a,c) ⟨L,J,F,H⟩ aH ?_;rintro⟨m,f,g⟩ ⟨h2,d,t,p⟩;simp only at h2 d t p;refine U<|N J<|y J (λl=>?_)<|λl=>?_
 .have r:g≠[]:=λe=>by subst e;cases l
  clear l;cases m with
  |zero=>exact absurd h2 r
  |succ m=>
   rw[yq]at h2
   rcases h2 with h2|⟨h2,C⟩
   .exact absurd h2 r
   rw[jl,b r]at d
   have u:=RX A B t r h2
   have K:=yr (a:=f) r
   have S:=h2.lb
   have v:=RR (eY f g) G h2.qr h2.rn G
   refine cZ<|aO<|R<|w<|rc J J u<|rc J J v<|s J<|N J<|rt J<|eH<|aG (m,g,dZ<|eY f g) ⟨C,d,p,tr _⟩ (dL m) aH
 .have l:g=[]:=by have l:¬(Z g:O)>0:=aT l;exact fB G
  subst l;have d:f=jl k a c:=by
   cases m with
   |zero=>exact d
   |succ m=>rwa[jl,aq J]at d
  rw[d]at t⊢;exact kJ<|m8<|nK<|kK<|aO<|w<|rc J J (RR _ M P (λQ=>akN t Q) G)<|s J<|bI<|atR J
def Rx.Ht.mul{M a n}{A B}(m:Ht M A)(k:Ht a B)(Q:sz A<=n)(p:1<=n):Ht (n*(M*a)) (A*B):=by
 let ⟨g,d,h2,r⟩:=m;let ⟨E,x,C,F⟩:=k;refine⟨g*E,yl d x,cj (qU h2 C)<|Ly _ p,λi=>?_⟩;rw[eW];have f:∀t,∃z:O,aC z<=min t n*(M*a)/\((g*E:O):D)*sq (λj=>A j*B (i-j)) t=(z:D):=by
  intro t;induction t with
  |zero=>exact⟨0,be _,by rw[sq];exact fN _⟩
  |succ t H=>
   let ⟨y,K,l⟩:=H
   by_cases c:t<n
   .let ⟨u,u1,u2⟩:=r t;let ⟨v,v1,v2⟩:=F<|i-t;refine⟨y+u*v,?_,?_⟩
    .have S:=qU u1 v1;rw[(G:min (t+1) n=min t n+1),fD,hO];omega
    .rw[sq,Y1,l,Mi,fh,fh,<-u2,<-v2];grind
   .refine⟨y,by rw[(G:min (t+1) n=min t n)];exact K,?_⟩;have:A t=0:=lU G;rw[sq,this,qO,nQ];exact l
 let ⟨z,L,P⟩:=f<|i+1;exact⟨z,cj L<|dT _<|Mj _ _,P⟩
def Rx.Ht.neg{M}{A}(a:Ht M A):Ht M (-A):=by let ⟨D,c,h2,d⟩:=a;refine⟨D,c,h2,λi=>?_⟩;let ⟨z,g,f⟩:=d i;exact⟨-z,G,by rw[GP,HG,<-f];grind⟩
def Rx.Ht.add{M a}{A B}(c:Ht M A)(k:Ht a B):Ht (2*(M*a)) (A+B):=by have:=Ht.sub c k.neg;rwa[sub_def,Rx.neg_neg]at this
structure Pz(n t:Y)(a:V D):Prop where
 can:bS a
 len:a.length<=n
 ht:Ht (2^t) (lx a)
def Pz.le{n m t u}{a}(c:Pz n t a)(d:n<=m)(f:t<=u):Pz m u a:=⟨c.can,cj c.len d,c.ht.le<|fT T f⟩
def Pz.qs{n t c}{a}(d:Pz n t a)(f:t<32*c) i:QS c (E a i 0):=d.ht.qs (nn f) i
def Pz.nil n t:Pz n t []:=⟨uB,be _,by rw[pJ];exact Ht.zero<|kh T⟩
def Mk t u v:2^v*(2^t*2^u)=2^(t+u+v):=by rw[<-mE,<-mE];congr 1;omega
def Pz.add{n m t u}{a c}(d:Pz n t a)(k:Pz m u c):Pz (max n m) (t+u+1) (jz a c):=by
 refine⟨lV _,?_,?_⟩
 .have:=d.len;have:=k.len;refine cj (uK _) ?_;rw[cR,wG];omega
 .rw[HD,<-Mk];exact d.ht.add k.ht
def Pz.scl{n t u}{a}{c}(d:Pz n t a)(k:Ht (2^u) (K c)):Pz n (t+u) (iX c a):=by
 refine⟨lV _,?_,?_⟩
 .have:=d.len;refine cj (uK _) ?_;rw[cR,wG];omega
 .rw[HE,mE];exact d.ht.smul k
def ml(a c:V D):V D:=jm a c<|Z a
def HK a c:lx (ml a c)=lx a*lx c:=by rw[ml,Zh a _ _<|a7 _,mr,o5]
def DV a c:bS (ml a c):=akD a c<|Z a
def Zu a:ml [] a=[]:=rfl
def Zv a:ml a []=[]:=tm (DV _ _) uB (by rw[HK,pJ,Rx.mul_zero])
def akT{a c}(d:bS a)(f:bS c)(g:a≠[])(i:c≠[]):Z (ml a c)+1=Z a+Z c:=by have:=dG (Hy d g)<|Hy f i;rwa[<-HK,gQ<|DV a c,gQ d,gQ f]at this
def RY{a c}(f:bS a)(g:bS c):Z (ml a c)<=Z a+Z c-1:=by
 by_cases a0:a=[]
 .subst a0;rw[Zu];exact be _
 .by_cases d:c=[]
  .subst d;rw[Zv];exact be _
  .have:=akT f g a0 d;omega
def Pz.mul{n m t u}{a d}(c:Pz n t a)(k:Pz m u d)(f:n<=16):Pz (n+m-1) (t+u+4) (ml a d):=by
 refine⟨DV a d,?_,?_⟩
 .have:=RY c.can k.can;have:=c.len;have:=k.len;omega
 .rw[HK,<-Mk];refine(c.ht.mul k.ht (n:=2^4) ?_ T);rw[gQ c.can];have:=c.len;omega
def Pz.rem{n m t u d}{a c}(f:Pz n t a)(k:Pz m u c)(g:c≠[])(i:Z a+1-Z c<=d):Pz m (t+(u+1)*d) (eY a c):=
 ⟨uJ f.can,cj (BO<|yr g) k.len,(HH k.can g f.ht k.ht).2.1.le<|fT T<|RL (jh _ i) _⟩
def Pz.RZ{n m t u d s}{a c}(f:Pz n t a)(k:Pz m u c)(g:c≠[])(p:Z a+1-Z c<=d)(r:n<=500)(v:m<=500)(B:t+u+(u+1)*d<32*s):AL s a c:=by
 have q:=HH k.can g f.ht k.ht;have le:2^(t+(u+1)*(Z a+1-Z c))<=2^(t+(u+1)*d):=fT T<|RL (jh _ p) _;have l:t+(u+1)*d<32*s:=G;refine⟨cj f.len r,cj k.len v,k.can.ne g,λi=>k.qs G i,λj x i=>?_,λA=>(uJ f.can).ne A,λi=>(q.2.1.le le).qs (nn l) i⟩;by_cases hl:Z c<=Z a
 .exact((q.2.2 hl j x).le le).qs (nn l) i
 .have:j=0:=by omega
  subst this;exact f.qs G i
def Zw{a c m}(d:bS a)(f:bS c)(g:bS m)(k:m≠[])(l:Z a<Z m)(n:Z c<Z m)(i:lx m∣lx a-lx c):a=c:=by refine tm d f<|DN<|uF i ?_;rw[gQ g];have:=Hm (lx a)<|lx c;rw[gQ d,gQ f]at this;omega
def Zx{a m:V D}(c:bS m)(d:m≠[]):lx m∣lx (eY a m)-lx a:=by have h:=RH (a:=a) c d;refine nl ?_;rw[h,Rx.wI];exact dvd_mul_left _ _
def akU{a c m}(g:bS a)(i:bS c)(f:bS m)(d:m≠[])(k:Z c<Z m)(l:lx m∣lx a-lx c):eY a m=c:=
 Zw (uJ g) i f d (yr d) k (nR (Zx f d) l)
abbrev U8:ET:= .int .u8
abbrev RW:ET:= .pr I8<|.pr I8 U8
def kp(k:O):O:=4611686018427387904+k
def yz(x:O×O×O):O:=if x.2.2%8=7 then x.1*kp x.2.2*kp x.2.2+x.2.2 else x.1
def nW(d:O):O:=if d=0 then 1 else d
def uL(x:O×O×O):O:=if x.2.2%8=6 then nW x.2.1*kp x.2.2*kp x.2.2 else nW x.2.1
def pN(x:O×O×O):D:=iU (yz x)<|uL x
def nq(x:O×O×O):Prop:=(-128<=x.1/\x.1<=127)/\(-128<=x.2.1/\x.2.1<=127)/\0<=x.2.2/\x.2.2<=255
def Zy d:nW d≠0:=by unfold nW;split<;>omega
def Zz{x}(a:nq x):0<kp x.2.2/\kp x.2.2<4611686018427388160:=by unfold kp;have:=a.2.2;omega
def ZA{x}(a:nq x):uL x≠0:=by
 unfold uL;split
 .have:=(Zz a).1;exact yl (yl (Zy _) G) G
 .exact Zy _
def HL{x}(a:nq x):aJ 2 (kp x.2.2):=by have:=Zz a;unfold aJ;omega
def R0{x}(a:nq x):aJ 1 (nW x.2.1):=aJ.one (by unfold nW;have:=a.2.1;split<;>omega)
def akV{x}(h:nq x):aJ 6 (yz x):=by
 unfold yz;have c:aJ 1 x.1:=aJ.one AD;split
 .have d:=(c.mul<|HL h).mul<|HL h;have f:aJ (1+2+2) x.2.2:=(aJ.one (a:=x.2.2)<|by have:=h.2.2;omega).le T;exact d.add f
 .exact c.le T
def akW{x}(a:nq x):aJ 6 (uL x):=by
 unfold uL;split
 .exact((R0 a).mul<|HL a).mul (HL a)|>.le T
 .exact(R0 a).le T
def akX x(p:nq x):al z 38 [.a [.I .i8 x.1,.I .i8 x.2.1,.I .u8 x.2.2]] (aQ<|pN x):=by
 refine aR Tryz.func38 ?_;have C:(if x.2.2%8=7 then x.1*kp x.2.2*kp x.2.2+x.2.2 else x.1)=yz x:=rfl;have F:(if x.2.2%8=6 then nW x.2.1*kp x.2.2*kp x.2.2 else nW x.2.1)=uL x:=rfl;have i:=HL p;have r:=R0 p;have l:=LL (yz x) (uL x) (ZA p) ((akV p).sm T)<|(akW p).sm T;rw[show iU (yz x) (uL x)=pN x from J]at l;generalize yz x=n at*;generalize uL x=d at*;generalize pN x=q at*;obtain⟨m,D,k⟩:=x;let ⟨⟨o,E⟩,⟨d1,d2⟩,H,O⟩:=p;simp only at*;have t:=iD m G G;have u:=iD D G G;have v:al z 84 [j (4611686018427387904+k)] (aZ<|kp k):=iD _ G G;have A:=iD k G G;have K:aJ 1 m:=aJ.one G;have L:aJ 5 k:=(aJ.one (a:=k) G).le T;have M:=kg m (kp k) (K.sm T)<|i.sm T;have Q:=kg (m*kp k) (kp k) ((K.mul i).sm T)<|i.sm T;have S:=we (m*kp k*kp k) k (((K.mul i).mul i).sm T)<|L.sm T;have W:=kg (nW D) (kp k) (r.sm T)<|i.sm T;have X:=kg (nW D*kp k) (kp k) ((r.mul i).sm T)<|i.sm T;refine N J<|w<|rc J J t (rc J J u (s J ?_) (hp:=aF)) (hp:=aF);refine jk ⟨[(1,.c<|.P 0 0),(2,.c<|.P 1000 0),(3,.c<|.P 1008000 0),(4,.c<|.P 1009000 0)],[(0,.box 57 0 [.I .i8 m,.I .i8 D,.I .u8 k]),(1000,.box 44 0 [.B ah,.V<|.slice none 0 0,.B ah,.V<|.slice none 0 0]),(1008000,.box 42 0<|av .z m),(1009000,.box 42 0<|av .z<|nW D)],10,[]⟩ ?_<|λg=>N J<|y J (λf=>?_)<|λf=>cZ ?_;rotate_left
 .have f:D=0:=eq_of_beq f;have e:nW D=1:=by rw[f];rfl
  rw[e]at g;exact bT<|rc J J (iD 1 T T)<|s J<|dM g aH
 .have f:D≠0:=by have f:(D==0)=ah:=f;exact ne_of_beq_false f
  have e:nW D=D:=b f;rw[e]at g;exact dM g aH
 refine w<|rc J J v (s J ?_) (hp:=aF);refine jk ⟨[(1,.c<|.P 0 0),(2,.c<|.P 1000 0),(3,.c<|.P 1008000 0),(4,.c<|.P 1009000 0),(5,.c<|.P 10005000 0)],[(0,.box 57 0 [.I .i8 m,.I .i8 D,.I .u8 k]),(1000,.box 44 0 [.B ah,.V<|.slice none 0 0,.B ah,.V<|.slice none 0 0]),(1008000,.box 42 0<|av .z n),(1009000,.box 42 0<|av .z<|nW D),(10005000,.box 42 0<|av .z<|kp k)],20,[]⟩ ?_<|λg=>N J<|y J (λf=>?_)<|λf=>cZ ?_;rotate_left
 .have f:k%8=7:=by have f:(k.tmod 8==7)=true:=f;rw[kf H]at f;exact eq_of_beq f
  rw[aq f]at C;subst C;exact bT<|rc J J M<|rc J J Q<|rc J J A (rc J J S<|s J<|dM g aH) (hp:=aF)
 .have f:¬k%8=7:=by have f:(k.tmod 8==7)=ah:=f;rw[kf H]at f;exact ne_of_beq_false f
  rw[b f]at C;subst C;exact dM g aH
 refine jk ⟨[(2,.c<|.P 1000 0),(3,.c<|.P 1008000 0),(4,.c<|.P 1009000 0)],[(1000,.box 44 0 [.B ah,.V<|.slice none 0 0,.B ah,.V<|.slice none 0 0]),(1008000,.box 42 0<|av .z n),(1009000,.box 42 0<|av .z d)],30,[]⟩ ?_<|λg=>N J<|y J (λf=>?_)<|λf=>cZ ?_;rotate_left
 .have f:k%8=6:=by have f:(k.tmod 8==6)=true:=f;rw[kf H]at f;exact eq_of_beq f
  rw[aq f]at F;subst F;exact bT<|rc J J W<|rc J J X<|s J<|dM g aH
 .have f:¬k%8=6:=by have f:(k.tmod 8==6)=ah:=f;rw[kf H]at f;exact ne_of_beq_false f
  rw[b f]at F;subst F;exact dM g aH
 exact w<|rc J J l<|s J<|cx J
def iQ(x:O):D:=(x:D)
def uM(l:V O)(a:Y):V D:=eV<|(h (a+1) l).map iQ
def yA(x:V (O×O×O))(a:Y):V D:=eV<|(h (a+1) x).map pN
def wQ(x:O×O×O):O×O×O:=(x.1,x.2.1,0)
def yB(x:V (O×O×O))(a:Y):V D:=yA (x.map wQ) a
def HM{a c:Type}(f:a->c) d l i(g:i<Z l):((h (i+1) l).map f)=((h i l).map f)++[f (E l i d)]:=by rw[rv,fe];simp[cH g,aV]
def ZB(l:V O)(a:Y)(g:a<=1000)(m:∀x∈l,-128<=x/\x<=127):al z 61 [I I8 l,j a] (I .q<|uM l a):=by
 refine aR Tryz.func61<|ug 0 J λk=>?_;have k:Z l*1<=140737488355328:=k;refine N J<|w<|fg .q [] J J (s J<|U<|N J ?_);refine R<|aY (α:=Y) (λi=>⟨[(0,I I8 l),(1,j a),(5,.c<|.X 1000000),(6,j i)],[(1000000,.vec 44 .q<|(List.take i l).map iQ)],3,[]⟩) (λi=>i<=Z l/\i<=a+1) (λi=>Z l-i) 0 ⟨be _,be _⟩ aH ?_;rintro i ⟨r,n⟩;refine U<|w<|rg 12 J J (λh=>?_)<|λh=>?_
 .have h:i<Z l:=by have h:(i:O)<(Z l:O):=aK h;omega
  refine s J<|y J (λh2=>?_)<|λh2=>?_
  .have h2:i<=a:=by have h2:(i:O)<=a:=aK h2;omega
   have d:=HM iQ 0 l i h;have t:=m (E l i 0) R1;have p:al z 30 [j (E l (ae (i:O)) 0)] (aQ<|iQ<|E l i 0):=by rw[bW];exact x8 _ G G
   have u: -9223372036854775808<=E l (ae (i:O)) I8.aD/\E l (ae (i:O)) I8.aD<=9223372036854775807:=by rw[bW];show-9223372036854775808<=E l i 0/\E l i 0<=9223372036854775807;omega
   refine aA<|U<|R<|bT<|rc J J p (rl .q [iQ (E l i 0)] J J (ra J J J J J J J J J ?_ ?_<|s J<|aX<|rt J<|aG (i+1) ⟨G,G⟩ uN<|Wk.trans (wk (st':=⟨[(0,I I8 l),(1,j a),(5,.c<|.X 4008000),(6,j ((i+1:Y):O))],[(4008000,.vec 44 .q<|(List.take (i+1) l).map iQ)],6,[]⟩) ⟨sR J,sR J,sR J,sE J ?_,e⟩ ⟨bE J ?_,e⟩)<|Wk.trans (fa 1000000 4008000 J J J) aH)) (hp:=?_)
   .show(_+1+(_+1)/4+192)*64<=_;simp only[cR,fp];omega
   .show(_+1)*4<=_;simp only[cR,fp];omega
   .rfl
   .rw[d]
   .simp only[Pr.an,Pr.h,num,fR,true_and,and_true];first|done|omega
  .have h2:¬i<=a:=by have h2:¬(i:O)<=a:=aT h2;omega
   have f:=AT ((List.take i l).map iQ) DW;rw[show eV ((List.take i l).map iQ)=uM l a by rw[uM,(G:i=a+1)]]at f;exact a6<|aO<|c6 1000000 J J J<|bD J J f J<|cx J
 .have h:i=Z l:=by have h:¬(i:O)<(Z l:O):=aT h;omega
  have f:=AT ((List.take i l).map iQ) DW;rw[show eV ((List.take i l).map iQ)=uM l a by rw[uM,iK G,iK G]]at f;refine s J<|y J (λh2=>oz)<|λ_=>?_;exact a6<|aO<|c6 1000000 J J J<|bD J J f J<|cx J
end Go.El
namespace Go.El
open Go Go.Proofs Go.RowKit
def ZC(a:V O){X:Y}(c:∀i,aC (E a i 0)<=X):∀i,lr a i<=i*X
 |0=>by simp[lr]
 |i+1=>by have:=ZC a c i;have:=c i;rw[lr,fD];omega
def ZD a{c}(d:∀i,aJ c (E a i 0)){i}(f:i<=13):aJ (c+1) ((lr a i:Y):O):=by unfold aJ at*;have g:=ZC a (λi=>BO<|d i) i;have k:=dT (4294967296^c) f;have l:=kh (n:=c) (T:0<4294967296);rw[oA,fF];omega
end Go.El
