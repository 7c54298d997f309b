/- The engine, part 47: a box is frozen; contracts that use up the blocks that they are handed; a slice of slices that a call reads in place. Own work; no condition. -/
import Derived.Test.YtceihkmakfdcnaaGreatD7
import Derived.Test.YtceihkmakfdcnaaGreatD4
import Derived.Test.YtceihkmakfdcnaaGreatD6
set_option linter.all false
set_option maxHeartbeats 16000000
set_option maxRecDepth 100000
open Bool renaming false->ah
open Go.El renaming cS->I,rr->N,ja->S,re->z,du->j,jd->r,cI->R,rb->F
open Go.Proofs.Tryz renaming prog->q
open Int renaming toNat->af,natAbs->aC
open List renaming length->Z,getD->E,range->bX,take->c,replicate->bc
open Option renaming some->ad
open Rat renaming sub_eq_add_neg->amB,mul_add->aaP,add_neg_cancel->amC,divInt->jI
open _root_ renaming List->V,Nat->Y,Rat->e,Int->G
namespace Go.El
open Go Go.Proofs Go.RowKit
def Ix(g:Gh)(fm:V (Y×aG))(d:Y):Prop:=∃a f,S a fm=ad f/\cE (g.γ a)=ad d
def amx(g:Gh)(W:World)(fm:V (Y×aG))(f:AV)(i:Ending)(d:World):Prop:=
 ∃v a,i= .returned v/\bu ⟨a,jT⟩ f v/\cL g.H a/\(∀b o,b<W.heap.size->¬Ix g fm b->a b o=g.H b o)/\Sub a d/\Di (Ix g fm) W d
structure Na(P:Program)(f:FuncId)(args:V AV)(fm:V (Y×aG))(r:AV):Prop where
 call:oW P f=true
 iL:r.ak=[]
 spec:∀g W vs,Sub g.H W->fw g args vs->(∀d b,S d fm=ad b->fV (λ_=>True) g W d b)->(∀d a b i k,S d fm=ad b->S a fm=ad i->cE (g.γ d)=ad k->cE (g.γ a)=ad k->d=a)->Calls P f vs.toArray W (amx g W fm r)
def aaG(P:Program)(g:Func)(i:AV):ma:=λF e a W=>bodyPost P g (λe f=>∃v d,e= .returned v/\bu ⟨d,jT⟩ i v/\cL F.H0 d/\(∀b o,b<F.w0.heap.size->¬F.own b->d b o=F.H0 b o)/\Sub d f/\Di F.own F.w0 f) e a W
section
variable{P:Program}{tt:TT}{n:Y}{st:St}
def aaH(f:cq P tt=true){m}{o}{p i}(s:lJ tt st o=ad p)(k:bl p i)(l:m.results=o.toArray:=by rfl)(t:i.ak=[]:=by rfl):fA n .ret st (aaG P m i):=by intro F v g W a h;let ⟨u,hu,d⟩:=Ba f h l s;exact⟨h.defers.trans v.ds,u,hu,u,g.H,J,(k.1 _ _ d).iL t (cL.refl _) jT,h.le,h.fresh,h.sub,h.below⟩
def amy{f}{p}{dQ}{args}{fm}{bf}o(hf:P.funcs[f]? =ad p)(hb:p.body=ad dQ)(hN:p.ntmps=n)(A:Nat.ble args.length n=true)(y4:∀d∈cR args,d<1000000*o)(B:Mv (1000000*o) fm)(y5:bf.ak=[])(tY:(p.name != "runtime.NumGoroutine")=true)
  (dj:TR P n dQ ⟨dG 0 args,fm,o,[]⟩ (aaG P p bf)):Na P f args fm bf:=by
 refine⟨Bb,y5,?_⟩
 intro g W vs C l K L
 refine calls_of_wp hf hb ?_
 have X:=yJ l
 have A:=c8 A
 have i:∀d b,St.kn ⟨dG 0 args,fm,o,[]⟩ (.m d)=ad (.b b)->S d fm=ad b:=by intro d b e;simp only[St.kn,cG]at e;let ⟨x,hx,he⟩:=e;cases he;exact hx
 let F:fj:={w0:=W,H0:=g.H,n:=n,own:=Ix g fm,k0:=0}
 refine wp_mono (dj F ⟨J,aY _,J,J⟩ g W _ ⟨?_,J,?_,?_,?_,?_,?_,C,⟨J,J,J,aO _,λ_ _ _=>rfl⟩,cL.refl _,λ_ _ _ _=>rfl,λ_ dj=>absurd dj<|vH _⟩)<|λe a R z=>z
 .simp[hN,F];omega
 .intro t v q;simp only[St.kn,cG]at q;let ⟨x,hx,he⟩:=q;cases he;let ⟨_,u,hu,D,_⟩:=nP args vs 0 l t v hx;have M:vs[t]? =ad u:=w8;have hZ:t<Z vs:=(sQ.1 M).1;have:(vs.toArray++Array.replicate (p.ntmps-vs.toArray.size) undef).getD t undef=u:=by rw[nM,yK Bc];simp[M]
  rw[this];exact D
 .intro d b e;have U:=i d b e;exact(K d b U).yW (λk E=> .inr ⟨d,b,U,E⟩) J J ⟨cL.refl _,λ_ _=>rfl⟩
 .intro d Q b w k e U G I;exact L d Q b w k (i d b e) (i Q w U) G I
 .intro k x e d T;cases k with
  |m j=>
   cases x with
   |v y=>simp only[St.kn,cG]at e;let ⟨_,_,he⟩:=e;cases he
   |b b=>exact(B j b<|i j b e).2 d T
  |s t=>
   simp only[St.kn,cG]at e
   let ⟨y,N,he⟩:=e
   subst he
   let ⟨_,u,_,_,O⟩:=nP args vs 0 l t y N
   exact y4 d<|O d T
 .intro d x e;cases x with
  |v y=>simp only[St.kn,cG]at e;let ⟨_,_,he⟩:=e;cases he
  |b b=>exact(B d b<|i d b e).1
def Nb{d:Type}{f:Y}{g:d}:∀{l:V (Y×d)},S f l=ad g->f∈l.map (·.1)
 |[],a=>by simp[S]at a
 | (k,x)::l,a=>by
  simp only[S]at a;split at a
  .rename_i i;simp[i]
  .exact ko _<|Nb a
def aaI{f:Type}{d:Y}:∀{l:V (Y×f)},d∈l.map (·.1)->∃g,S d l=ad g
 |[],a=>by cases a
 | (k,x)::l,a=>by
  simp only[S];split
  .exact⟨x,J⟩
  .rename_i i;rcases b9.1 a with a|a
   .exact absurd a.symm i
   .exact aaI a
def BU(l:V Y):∀k,aE (l.map λa=>((.m a:Key),(none:Option Info))) k=(match k with| .m a=>if a∈l then ad none else none| .s _=>none):=by
 induction l with
 |nil=>intro k;cases k<;>simp[aE]
 |cons x l d=>
  intro k
  simp only[il,aE]
  cases k with
  |s t=>simp[d]
  |m a=>
   by_cases e:x=a
   .subst e;simp
   .simp only[Key.m.injEq,e,bN,d,b9];have:¬a=x:=λh=>e h.symm
    simp[this]
def amz{n new}{ops}{i}{o:Oper}(ho:ops[i]? =ad o)(hg:o.guard=none){d:Y}(hd:o.dst=ad d)(dz:d<n){f}{args}{kV}(b6:o.op= .call ⟨.value<|.func f,args,kV⟩)
 {sl}{y fm}{nx:Y} {gd:V (Y×Bool)} {vs:V AV} {bf:AV} (hv:jU ⟨sl,y++fm,nx,gd⟩ args.toList=ad vs) (hf:Na P f vs fm bf) (aaJ:∀l p,S l fm=ad p->S l y=none):
  kT P n ops i ⟨sl,y++fm,nx,gd⟩ ⟨(d,bf)::sl,y,nx,gd⟩ new (bK args.toList++cV (fm.map (·.1)),.s d::(fm.map (·.1)).map .m):=by
 have G:∀l p,S l fm=ad p->S l (y++fm)=ad p:=λl p A=>by rw[Sd,aaJ l p A,A];rfl
 refine⟨args.toList.flatMap (cJ ⟨sl,y++fm,nx,gd⟩)++fL ⟨sl,y++fm,nx,gd⟩ (fm.map (·.1)),(.s d,ad<|.v bf)::(fm.map (·.1)).map (λl=>(.m l,none)),?_,?_,?_,?_,?_⟩
 .intro F kO Q known σ g W a K wU aR R hK;have I:=DO aR _ _ _ hv<|λkx B=>R kx<|eH _ B;have nk:=xi (st:=⟨sl,y++fm,nx,gd⟩) (ids:=fm.map (·.1)) (σ:=σ)<|λkx B=>R kx<|gD _ B;have q:∀l p,S l fm=ad p->σ (.m l)=ad (.b p):=λl p A=>nk l (Nb A) p (G l p A)
  have hc:=hf.spec g W _ aR.sub I (λl p A=>(aR.cX l p<|q l p A).yW (λ_ _=>trivial) J J ⟨cL.refl _,λ_ _=>rfl⟩)<|λl Z p b' k C c h3 h4=>aR.inj l Z p b' k (q l p C) (q Z b' c) h3 h4;unfold wpOp;simp only[ho,Region.wanted,hg,cj];refine .inl ?_;unfold Oper.wp;have y4:args.map a.eval=(args.toList.map a.eval).toArray:=A6;have hex:(execOp a.eval o).run P W= .ok (.enter f (args.toList.map a.eval).toArray) W:=by
   have H:=hf.call;unfold oW at H;rw[execOp,b6];cases O:P.funcs[f]? with
   |none=>rw[O]at H;simp at H
   |some fn=>
    rw[O]at H
    simp only[cz,bne_iff_ne,ne_eq]at H
    have c:fn.body≠none:=by intro A;rw[A]at H;simp at H
    simp[resolve,Act.eval,Deferred.ofValue,invoke,callFunc,O,H.1,c]
    exact y4
  rw[hex];simp only[Oper.upon];refine hc.mono ?_;rintro e W' ⟨v,H',rfl,BV,hle,yN,rE,T⟩;simp only[hd];have kM:d<a.tmps.size:=mD;have D:gC (λ_=>True) g ⟨H',g.γ⟩:=⟨hle,λ_ _=>rfl⟩;have hN:∀p,Ix g fm p->F.N p:=by rintro p ⟨l,bb,C,c⟩;exact((aR.cX l bb<|q l bb C).block c).1
  have hM:∀j p,bs σ ((.s d,ad<|.v bf)::(fm.map (·.1)).map (λl=>(.m l,none))) (.m j)=ad (.b p)->σ (.m j)=ad (.b p)/\∀k,cE (g.γ j)=ad k->¬Ix g fm k:=by
   intro j p A;simp only[bs,aE,reduceCtorEq,bN,BU]at A;by_cases e:j∈fm.map (·.1)
   .rw[b e]at A;cases A
   .rw[w e]at A;refine⟨A,λk L=>?_⟩;rintro⟨l,bb,C,c⟩;have:=aR.inj j l p bb k A (q l bb C) L c;subst this;exact e<|Nb C
  refine hK ⟨H',g.γ⟩ W' _ ⟨by simp[Act.put,aR.size],aR.defers,?_,?_,?_,?_,?_,rE,?_,aR.le.trans hle,?_,λl U=>⟨.inl (aR.gK l U).1,(aR.gK l U).2⟩⟩
  .intro t u ht;simp only[bs,aE,BU]at ht;by_cases e:d=t
   .subst e;simp only[cj,ar,Info.v.injEq]at ht;subst ht;have:=BV.iL hf.iL (cL.refl _) g.γ;simpa[Act.put,kM]using this
   .have e':¬(Key.s d=Key.s t):=λh=>e et
    simp only[e',bN]at ht;have hv:(a.put (ad d) v).tmps.getD t undef=a.tmps.getD t undef:=by simp[Act.put,lE e]
    rw[hv];exact bu.mono D (λ_ _=>trivial)<|aR.eY t u ht
  .intro j p A;let ⟨C,c⟩:=hM j p A;have E:=aR.cX j p C;refine E.xl D aX (λ_ _=>trivial)<|λk L=>?_;have X:=(E.block L).2;exact⟨T.block k X<|c k L,λo=>yN k o X<|c k L⟩
  .intro j j' p b' k A l6 C c;exact aR.inj j j' p b' k (hM j p A).1 (hM j' b' l6).1 C c
  .intro k x M l U;cases k with
   |s t=>
    simp only[bs,aE,BU]at M
    by_cases e:d=t
    .subst e;simp only[cj,ar]at M;subst M;have:l∈bf.ak:=U;rw[hf.iL]at this;cases this
    .have e':¬(Key.s d=Key.s t):=λh=>e et
     simp only[e',bN]at M;exact .inl<|aR.ak _ _ M l U
   |m j=>
    simp only[bs,aE,reduceCtorEq,bN,BU]at M
    by_cases e:j∈fm.map (·.1)
    .rw[b e]at M;cases M
    .rw[w e]at M;exact .inl<|aR.ak _ _ M l U
  .intro j x M;simp only[bs,aE,reduceCtorEq,bN,BU]at M;by_cases e:j∈fm.map (·.1)
   .rw[b e]at M;cases M
   .rw[w e]at M;exact .inl<|aR.ew _ _ M
  .refine⟨T.os.trans aR.below.os,T.tape.trans aR.below.tape,T.output.trans aR.below.output,bm aR.below.size T.size,λk L z=>?_⟩;have X:k<W.heap.size:=iI L aR.below.size;rw[<-aR.below.block k L z];refine T.block k X<|λho=>?_;rcases hN k ho with C|C
   .omega
   .exact z C
  .intro k o L z;have X:k<W.heap.size:=iI L aR.below.size;show H' k o=_;rw[yN k o X (λho=>?_)]
   .exact aR.fresh k o L z
   .rcases hN k ho with C|C
    .omega
    .exact z C
 .intro kx B;rcases bg.1 B with B|B
  .let ⟨x,_,h⟩:=jb.1 B;exact eD _ x kx h
  .exact kr _ _ kx B
 .funext k;cases k with
  |s t=>
   simp only[bs,aE,BU,St.kn,S]
   by_cases e:d=t
   .simp[e]
   .have e':¬(Key.s d=Key.s t):=λh=>e et
    simp[e,e']
  |m j=>
   simp only[bs,aE,reduceCtorEq,bN,BU,St.kn]
   by_cases e:j∈fm.map (·.1)
   .rw[b e];let ⟨p,A⟩:=aaI e;simp[aaJ j p A]
   .rw[w e];show _=Option.map Info.b (S j<|y++fm);rw[Sd];cases C:S j fm with
    |some p=>exact absurd (Nb C) e
    |none=>rw[Option.or_none]
 .intro k L;simp only[dI,fM,bg]at L;rcases L with h|h
  .exact eH _<|eO _ _ k h
  .exact gD _<|ku _ _ k h
 .intro k L;simp only[fW,il,b9,MR]at L;rcases L with h|h
  .exact b9.2<|.inl h
  .refine b9.2<|.inr ?_;simpa[Function.comp]using h
end
section
variable{n:Y}{Q:ma}{sl cr:V (Y×AV)}{mem cp:V (Y×aG)}{nx:Y}{gd cD:V (Y×Bool)}{ops:Array Oper}{draw:Bool}{p:Pr}{ks dJ:V Ks}{i i' n0 cF:Y}{os dS:V Oper}{d:Y}{ty:TypeId}{pos:String}{iM:Array Edge}{R:St->Prop}
def rcc{f}{args}{g}{conc fm}{vs}{l}(u:runs dY n nx draw ops.toList os i ⟨sl,mem,n0,gd⟩ .t ks=(⟨ad d,.call ⟨.value<|.func f,args,g⟩,ty,pos,iM,none⟩::dS,i',⟨cr,conc++fm,cF,cD⟩,p,dJ))(v:jU ⟨cr,conc++fm,cF,cD⟩ args.toList=ad vs)(x:Na q f vs fm l)(a:∀o y,S o fm=ad y->S o conc=none)
  (A:RG q n ops draw nx (i'+1) dS ⟨(d,l)::cr,conc,cF,cD⟩ (ia draw dJ (bK args.toList++cV (fm.map (·.1)),.s d::(fm.map (·.1)).map .m)) R)
  (B:p:=by exact QE) (k:Nat.blt d n=true:=by rfl):RG q n ops draw nx i os ⟨sl,mem,n0,gd⟩ ks R:=
 kU cv u B (nc (λC=>amz C J J (c8 k) J v x a)<|nh A)
end
def cx(a d:V e):V e:=if Z a<Z d then a else fC ((dC (E d (Z d-1) 0)⁻¹ a d (Z d-1) (Z a+1-Z d) (Z a+1-Z d)).2.take<|Z d-1)
def dr(a:V e):V e:=if a=[]then[]else fC (rY (E a (Z a-1) 0)⁻¹ a)
def fg:Y->V e->V e->V e
 |0,a,_=>a
 |k+1,a,d=>if d=[]then a else fg k d (dr<|cx a d)
structure xK(s:Y)(a b:V e):Prop where
 la:a.length<=500
 lb:b.length<=500
 bn:b.getD (b.length-1) 0≠0
 qb:∀i,QS s (b.getD i 0)
 qS:∀d,d<=a.length+1-b.length->∀i,QS s ((dC (b.getD (b.length-1) 0)⁻¹ a b (b.length-1) (a.length+1-b.length) d).2.getD i 0)
 rn:cx a b≠[]->(cx a b).getD ((cx a b).length-1) 0≠0
 qr:∀i,QS s ((cx a b).getD i 0)
def zt(s:Y):Y->V e->V e->Prop
 |0,_,d=>d=[]
 |k+1,a,d=>d=[]\/(xK s a d/\zt s k d (dr<|cx a d))
def BW l:Z (fC l)<=Z l:=SX
def pE{a d}(f:d≠[]):Z (cx a d)<Z d:=by
 have g:=bQ.2 f;unfold cx;split
 .assumption
 .exact vW (BW _) BI
abbrev UT:ET:= .pr (.sl .q) np
def sq(f:Y->e):Y->e
 |0=>0
 |k+1=>sq f k+f k
def uB{f g:Y->e}:∀{k:Y},(∀i,i<k->f i=g i)->sq f k=sq g k
 |0,_=>rfl
 |k+1,a=>by rw[sq,sq,uB<|λi d=>a i O,a k O]
def Nc{f:Y->e}{k}(a:∀i,i<k->f i=0):sq f k=0:=by
 induction k with
 |zero=>rfl
 |succ k d=>rw[sq,d<|λi g=>a i O,a k O,oz]
def SZ(f g:Y->e):∀k,sq (λi=>f i+g i) k=sq f k+sq g k
 |0=>(oz 0).symm
 |k+1=>by simp only[sq,SZ f g k];grind
def Nd(a:e)(f:Y->e):∀k,sq (λi=>a*f i) k=a*sq f k
 |0=>by simp only[sq];grind
 |k+1=>by simp only[sq,Nd a f k];grind
def amA a(f:Y->e) k:sq (λi=>f i*a) k=sq f k*a:=by rw[BX,<-Nd];exact uB<|λi _=>BX _ _
def aaK(f:Y->e):∀k,sq f (k+1)=f 0+sq (λi=>f<|i+1) k
 |0=>by simp only[sq];grind
 |k+1=>by rw[sq,aaK f k,sq];grind
def aaL(f:Y->e):∀k,sq f k=sq (λi=>f<|k-1-i) k
 |0=>rfl
 |k+1=>by rw[sq,aaL f k,aaK<|λi=>f<|k+1-1-i];have:sq (λi=>f<|k+1-1-(i+1)) k=sq (λi=>f<|k-1-i) k:=uB (λi _=>by congr 1;omega);rw[this,(O:k+1-1-0=k)];grind
def aaM(d:Y->Y->e):∀n,sq (λi=>sq (λa=>d i a)<|i+1) n=sq (λa=>sq (λk=>d (a+k) a)<|n-a) n
 |0=>rfl
 |n+1=>by
  rw[sq,aaM d n];have f:sq (λa=>sq (λk=>d (a+k) a)<|n+1-a) n=sq (λa=>sq (λk=>d (a+k) a) (n-a)+d n a) n:=by refine uB<|λa g=>?_;rw[(O:n+1-a=(n-a)+1),sq,(O:a+(n-a)=n)]
  rw[show sq (λa=>sq (λk=>d (a+k) a)<|n+1-a) (n+1)=sq (λa=>sq (λk=>d (a+k) a)<|n+1-a) n+sq (λk=>d (n+k) n) (n+1-n)from J,f,SZ];rw[(O:n+1-n=1),show sq (λa=>d n a) (n+1)=sq (λa=>d n a) n+d n n from J,show sq (λk=>d (n+k) n) 1=0+d (n+0) n from J,jy];grind
def Nf{f:Y->e}{a:Y}:∀{n:Y},a<n->(∀i,i<n->i≠a->f i=0)->sq f n=f a
 |0,g,_=>by omega
 |n+1,g,d=>by
  rw[sq];by_cases k:a=n
  .subst k;rw[Nc (λi l=>d i O O),Iw]
  .rw[Nf (n:=n) O (λi l=>d i O),d n O O,oz]
def cvq(A B:Y->e)(n:Y):e:=sq (λi=>A i*B (n-i))<|n+1
structure Rx where
 v:Y->e
 fin:∃n,∀i,n<=i->v i=0
namespace Rx
instance:CoeFun Rx (λ_=>Y->e):=⟨λA=>A.v⟩
def ext{A B:Rx}(a:∀i,A i=B i):A=B:=by cases A;cases B;have e:=funext a;simp only at e;subst e;rfl
def aaO{A B:Y->e}{m n}(a:∀i,m<=i->A i=0)(d:∀i,n<=i->B i=0):∀i,m+n<=i+1->cvq A B i=0:=λi g=>Nc λj k=>by
 by_cases f:m<=j
 .rw[a j f,rX]
 .rw[d (i-j) O,fH]
instance:Add Rx:=⟨λA B=>⟨λi=>A i+B i,by obtain⟨m,a⟩:=A.2;obtain⟨n,d⟩:=B.2;exact⟨m+n,λi f=>by show A.v i+B.v i=0;rw[a i O,d i O,oz]⟩⟩⟩
instance:Mul Rx:=⟨λA B=>⟨cvq A.v B.v,by obtain⟨m,a⟩:=A.2;obtain⟨n,d⟩:=B.2;exact⟨m+n,λi f=>aaO a d i O⟩⟩⟩
instance:Neg Rx:=⟨λA=>⟨λi=> -A i,by obtain⟨m,a⟩:=A.2;exact⟨m,λi d=>by show-A.v i=0;rw[a i d,Rat.neg_zero]⟩⟩⟩
def K(a:e):Rx:=⟨λi=>if i=0 then a else 0,1,λi d=>w O⟩
instance:_root_.Sub Rx:=⟨λx y=>x+ -y⟩
instance:OfNat Rx 0:=⟨⟨λ_=>0,0,λ_ _=>rfl⟩⟩
instance:OfNat Rx 1:=⟨K 1⟩
def eV(A B:Rx) i:(A+B) i=A i+B i:=rfl
def EH(A:Rx) i:(-A) i= -A i:=rfl
def lO(A B:Rx) i:(A-B) i=A i-B i:=(amB _ _).symm
def mO i:(0:Rx) i=0:=rfl
def fF(A B:Rx) n:(A*B) n=sq (λi=>A i*B (n-i)) (n+1):=rfl
def mj a i:K a i=if i=0 then a else 0:=rfl
def fh d A i:(K d*A) i=d*A i:=by rw[fF,Nf (a:=0) O<|λj _ f=>by rw[mj,w f,rX]];rfl
def add_comm(x y:Rx):x+y=y+x:=ext λi=>Rat.add_comm _ _
def add_assoc(x y a:Rx):x+y+a=x+(y+a):=ext λi=>Rat.add_assoc _ _ _
def mul_comm(A B:Rx):A*B=B*A:=by
 refine ext λn=>?_
 rw[fF,fF,aaL];refine uB<|λi a=>?_;rw[BX,(O:n-(n+1-1-i)=i)];rfl
def mul_assoc(A B C:Rx):A*B*C=A*(B*C):=by
 refine ext λn=>?_
 rw[fF,fF];have a:sq (λi=>(A*B) i*C (n-i)) (n+1)=sq (λi=>sq (λj=>A j*B (i-j)*C (n-i))<|i+1) (n+1):=uB (λi _=>by rw[fF,amA]);rw[a,aaM<|λi j=>A j*B (i-j)*C (n-i)];refine uB<|λj d=>?_;rw[fF,<-Nd,(O:n+1-j=n-j+1)];refine uB<|λk f=>?_;rw[ny,(O:j+k-j=k),(O:n-(j+k)=n-j-k)]
def mul_add(A B C:Rx):A*(B+C)=A*B+A*C:=by
 refine ext λn=>?_
 rw[eV,fF,fF,fF,<-SZ];exact uB (λi _=>by rw[eV,aaP])
def add_mul(x y a:Rx):(x+y)*a=x*a+y*a:=by rw[mul_comm,mul_add,mul_comm a x,mul_comm a y]
def zero_add(x:Rx):0+x=x:=ext λi=>Iw _
def add_zero(x:Rx):x+0=x:=by rw[add_comm,zero_add]
def one_mul(x:Rx):1*x=x:=ext λi=>(fh 1 x i).trans<|rZ _
def mul_one(x:Rx):x*1=x:=by rw[mul_comm,one_mul]
def zero_mul(x:Rx):0*x=0:=ext λn=>by rw[fF];exact Nc λi _=>by rw[mO,rX]
def mul_zero(x:Rx):x*0=0:=by rw[mul_comm,zero_mul]
def add_neg(x:Rx):x+ -x=0:=ext λi=>amC _
def neg_add(x:Rx): -x+x=0:=by rw[add_comm,add_neg]
def sub_def(x y:Rx):x-y=x+ -y:=rfl
instance:Std.Associative (α:=Rx) (·+·):=⟨add_assoc⟩
instance:Std.Commutative (α:=Rx) (·+·):=⟨add_comm⟩
instance:Std.Associative (α:=Rx) (·*·):=⟨mul_assoc⟩
instance:Std.Commutative (α:=Rx) (·*·):=⟨mul_comm⟩
def add_left_cancel{x y a:Rx}(d:x+y=x+a):y=a:=by have:=be (-x+·) d;simpa only[<-add_assoc,neg_add,zero_add]using this
def kA(x y:Rx):x-y+y=x:=by rw[sub_def,add_assoc,neg_add,add_zero]
def uC(x y:Rx):x+y-y=x:=by rw[sub_def,add_assoc,add_neg,add_zero]
def xL{x y a:Rx}(d:x+y=a):x=a-y:=by rw[<-d,uC]
def sub_eq{x y a:Rx}(d:x=a+y):x-y=a:=by rw[d,uC]
def sub_self(x:Rx):x-x=0:=add_neg x
def sub_zero(x:Rx):x-0=x:=sub_eq (add_zero x).symm
def E0{x y:Rx}(a:x-y=0):x=y:=by rw[<-kA x y,a,zero_add]
def sub_mul(x y a:Rx):(x-y)*a=x*a-y*a:=xL (by rw[<-add_mul,kA])
def mul_sub(x y a:Rx):x*(y-a)=x*y-x*a:=by rw[mul_comm,sub_mul,mul_comm y,mul_comm a]
def neg_mul(x y:Rx): -x*y= -(x*y):=add_left_cancel (x:=x*y) (by rw[<-add_mul,add_neg,add_neg,zero_mul])
def neg_neg(x:Rx): - -x=x:=add_left_cancel (x:= -x) (by rw[add_neg,neg_add])
def neg_sub(x y:Rx): -(x-y)=y-x:=add_left_cancel (x:=x-y) (by rw[add_neg,sub_def,sub_def];have:x+ -y+(y+ -x)=(x+ -x)+(-y+y):=fG;rw[this,add_neg,neg_add,add_zero])
def Iy(x y a:Rx):(x-y)+(y-a)=x-a:=by rw[sub_def,sub_def,sub_def];have:x+ -y+(y+ -a)=x+ -a+(-y+y):=fG;rw[this,neg_add,add_zero]
def Ng(x y a d:Rx):(x+y)-(a+d)=(x-a)+(y-d):=sub_eq (by have:x-a+(y-d)+(a+d)=(x-a+a)+(y-d+d):=fG;rw[this,kA,kA])
instance:Dvd (Rx):=⟨λa b=>∃w,b=w*a⟩
def dvd_refl(a:Rx):a∣a:=⟨1,(one_mul a).symm⟩
def dvd_zero(a:Rx):a∣0:=⟨0,(zero_mul a).symm⟩
def dvd_trans{a d f:Rx}(g:a∣d)(k:d∣f):a∣f:=by obtain⟨w,rfl⟩:=g;obtain⟨v,rfl⟩:=k;exact⟨v*w,(mul_assoc v w a).symm⟩
def dvd_mul_left(a d:Rx):a∣d*a:=⟨d,J⟩
def dvd_mul_right(a d:Rx):a∣a*d:=⟨d,mul_comm a d⟩
def dw{a d}(g:a∣d)(f:Rx):a∣f*d:=dvd_trans g<|dvd_mul_left d f
def kD{a d}(g:a∣d)(f:Rx):a∣d*f:=dvd_trans g<|dvd_mul_right d f
def dvd_add{a d f:Rx}(g:a∣d)(k:a∣f):a∣d+f:=by obtain⟨w,rfl⟩:=g;obtain⟨v,rfl⟩:=k;exact⟨w+v,(add_mul w v a).symm⟩
def dvd_neg{a d:Rx}(f:a∣d):a∣-d:=by obtain⟨w,rfl⟩:=f;exact⟨-w,(neg_mul w a).symm⟩
def dvd_sub{a d f:Rx}(g:a∣d)(k:a∣f):a∣d-f:=dvd_add g<|dvd_neg k
def uD{a d f:Rx}(g:a∣d+f)(k:a∣d):a∣f:=by have:=dvd_sub g k;rwa[add_comm d f,uC]at this
def aaQ{a d f:Rx}(g:a∣d-f)(k:a∣f):a∣d:=by have:=dvd_add g k;rwa[kA]at this
def nz{a d f:Rx}(g:a∣d-f):a∣f-d:=by rw[<-neg_sub];exact dvd_neg g
def lT{a f g d:Rx}(i:a∣f-g)(k:a∣g-d):a∣f-d:=by rw[<-Iy f g d];exact dvd_add i k
def Nh{a f g d i:Rx}(l:a∣f-g)(k:a∣d-i):a∣(f+d)-(g+i):=by rw[Ng];exact dvd_add l k
def nA{a g f d i:Rx}(l:a∣g-f)(k:a∣d-i):a∣g*d-f*i:=by
 have:g*d-f*i=(g-f)*d+f*(d-i):=by rw[sub_mul,mul_sub,Iy]
 rw[this];exact dvd_add (kD l d)<|dw k f
def fP(a d:Rx):a∣d-d:=by rw[sub_self];exact dvd_zero a
def pk(a:Rx):Y->Rx
 |0=>1
 |n+1=>pk a n*a
def r6 a:pk a 1=a:=one_mul a
def zu(a:Rx)(m:Y):∀n,pk a (m+n)=pk a m*pk a n
 |0=>(mul_one _).symm
 |n+1=>by rw[<-rq,pk,pk,zu a m n,mul_assoc]
def uE(a:Rx)(m:Y):∀n,pk a (m*n)=pk (pk a m) n
 |0=>rfl
 |n+1=>by rw[Nat.mul_succ,zu,pk,uE a m n]
def uF(a d:Rx):∀n,pk (a*d) n=pk a n*pk d n
 |0=>(one_mul 1).symm
 |n+1=>by rw[pk,pk,pk,uF a d n];ac_rfl
def BY:∀n,pk (1:Rx) n=1
 |0=>rfl
 |n+1=>by rw[pk,BY n,one_mul]
def X(k:Y):Rx:=⟨λi=>if i=k then 1 else 0,k+1,λi a=>w O⟩
def E3 k i:X k i=if i=k then 1 else 0:=rfl
def nt k A i:(X k*A) i=if k<=i then A (i-k)else 0:=by
 rw[fF];by_cases h:k<=i
 .rw[b h,Nf (a:=k) O (λj _ d=>by rw[E3,w d,rX]),E3,b J,rZ]
 .rw[w h];exact Nc (λj d=>by rw[E3,w O,rX])
def amD:X 0=1:=rfl
def EI a d:K (a+d)=K a+K d:=ext λi=>by rw[eV,mj,mj,mj];split<;>grind
def fa a d:K (a*d)=K a*K d:=ext λi=>by rw[fh,mj,mj];split<;>grind
def pq:K 0=0:=ext λi=>by rw[mj,mO];split<;>rfl
def oC:K 1=1:=rfl
def S0 a:K (-a)= -K a:=add_left_cancel (x:=K a) (by rw[<-EI,amC,pq,add_neg])
def amE a d:K (a-d)=K a-K d:=by rw[amB,EI,S0,sub_def]
def S4{a d}(f:K a=K d):a=d:=be (λA:Rx=>A 0) f
def pH{c}(a:c≠0):K c⁻¹ *K c=1:=by rw[<-fa,lU c a,oC]
def lx(a:V e):Rx:=⟨λi=>E a i 0,Z a,λi d=>by rw[aK,iX d];rfl⟩
def fX a i:lx a i=E a i 0:=rfl
def kE:lx []=0:=ext λi=>rfl
def xM a:lx [a]=K a:=ext λi=>by
 cases i with
 |zero=>rfl
 |succ i=>rfl
def Ni d a:lx (d::a)=K d+X 1*lx a:=ext λi=>by
 rw[eV,nt];cases i with
 |zero=>rw[w O];show d=K d 0+0;rw[mj,b J,oz]
 |succ i=>rw[b O];show E a i 0=K d (i+1)+E a i 0;rw[mj,w O,Iw]
def bI(a:V e):Prop:=a=[]\/E a (Z a-1) 0≠0
def wa:bI []:= .inl J
def iP(a:V e){i}(d:Z a<=i):E a i 0=0:=by rw[aK,iX d];rfl
def bI.top{a}(d:bI a){n}(f:Z a=n+1):E a n 0≠0:=by
 rcases d with d|d
 .subst d;simp at f
 .rwa[f,eK]at d
def aaR{a d:V e}(f:Z a=Z d)(g:∀i,E a i 0=E d i 0):a=d:=by refine rF f<|λi k l=>?_;have:=g i;rwa[aK,aK,cO k,cO l]at this
def oD{a d}(g:bI a)(k:bI d)(l:lx a=lx d):a=d:=by
 have f:∀i,E a i 0=E d i 0:=λi=>be (λA:Rx=>A i) l
 refine aaR ?_ f;rcases P3 (Z a) (Z d)with e|e|e
 .exact absurd ((f<|Z d-1).symm.trans<|iP a O)<|k.top O
 .exact e
 .exact absurd ((f<|Z a-1).trans<|iP d O)<|g.top O
def S5(A:Y->e):∀n,(∀i,n<=i->A i=0)->∃a:V e,bI a/\Z a<=n/\∀i,E a i 0=A i
 |0,d=>⟨[],wa,aO _,λi=>(d i<|aY _).symm⟩
 |n+1,d=>by
  by_cases f:A n=0
  .let ⟨a,k,h2,l⟩:=S5 A n (λi o=>by
    by_cases m:i=n
    .rw[m,f]
    .exact d i O)
   exact⟨a,k,O,l⟩
  .have g:∀i,E ((bX<|n+1).map A) i 0=A i:=λi=>by
    rw[aK,jh];by_cases f:i<n+1
    .rw[k6 f];rfl
    .rw[iX b8];exact(d i O).symm
   refine⟨(bX<|n+1).map A,.inr ?_,az,g⟩;rw[g];simpa using f
def jr A:∃a,bI a/\lx a=A:=by let ⟨n,d⟩:=A.2;let ⟨a,f,_,g⟩:=S5 A.v n d;exact⟨a,f,ext g⟩
open Classical in
noncomputable def sz(A:Rx):Y:=Z<|Classical.choose<|jr A
def fY{a}(f:bI a):sz (lx a)=Z a:=by have d:=wb<|jr<|lx a;rw[sz,oD d.1 f d.2]
def pI{n}{A}(d:∀i,n<=i->A i=0):sz A<=n:=by let ⟨a,f,h2,g⟩:=S5 A.v n d;rw[<-(ext g:lx a=A),fY f];exact h2
def mR{A}{i}(d:sz A<=i):A i=0:=by obtain⟨a,f,rfl⟩:=jr A;rw[fY f]at d;exact iP a d
def Iz{A}{n}(d:sz A=n+1):A n≠0:=by obtain⟨a,f,rfl⟩:=jr A;rw[fY f]at d;exact f.top d
def amF{A}{n}(a:A n≠0):n<sz A:=Nat.lt_of_not_le λe=>a<|mR e
def IA a:sz (lx a)<=Z a:=pI λ_ d=>iP a d
def k8:sz (0:Rx)=0:=Nat.le_zero.1<|pI λ_ _=>rfl
def S6 a:sz (K a)<=1:=pI λi d=>by rw[mj,w O]
def S7{A}(a:sz A=0):A=0:=ext λi=>mR O
def fq{A}(a:A≠0):0<sz A:=by
 rcases qD (sz A)with e|e
 .exact absurd (S7 e) a
 .exact e
def S8 A B:sz (A+B)<=max (sz A) (sz B):=pI λi a=>by rw[eV,mR (A:=A) O,mR (A:=B) O,oz]
def S9 A:sz (-A)<=sz A:=pI λi a=>by rw[EH,mR a];rfl
def IB A B:sz (A-B)<=max (sz A) (sz B):=by have a:=S8 A<| -B;have d:=S9 B;rw[sub_def];omega
def BS{A B:Rx}{m n}(d:∀i,m<i->A i=0)(f:∀i,n<i->B i=0):(A*B) (m+n)=A m*B n:=by
 rw[fF,Nf (a:=m) O<|λj g k=>?_]
 .rw[(O:m+n-m=n)]
 .by_cases e:m<j
  .rw[d j e,rX]
  .rw[f (m+n-j) O,fH]
def qK:(1:Rx)≠0:=λe=>by have:(1:Rx) 0=(0:Rx) 0:=rW;exact absurd this D
def eh{A B}(d:A≠0)(f:B≠0):sz (A*B)+1=sz A+sz B:=by
 have p:=fq d;have s:=fq f;obtain⟨m,g⟩:∃m,sz A=m+1:=⟨sz A-1,O⟩;obtain⟨n,k⟩:∃n,sz B=n+1:=⟨sz B-1,O⟩;have l:(A*B) (m+n)≠0:=by
  rw[BS (λi a=>mR O) (λi a=>mR O)];intro e;rcases zv.1 e with e|e
  .exact Iz g e
  .exact Iz k e
 have t:=amF l;have u:sz (A*B)<=m+n+1:=pI λi a=>aaO (A:=A.v) (B:=B.v) (m:=m+1) (n:=n+1) (λj o=>mR (A:=A) O) (λj o=>mR (A:=B) O) i O
 omega
def th{a}(d:a≠0):K a≠0:=λe=>d<|S4<|e.trans pq.symm
def nW{A B:Rx}(a:A≠0)(d:B≠0):A*B≠0:=λe=>by have h:=eh a d;rw[e,k8]at h;have f:=fq a;have g:=fq d;omega
def zw{A B C:Rx}(a:A≠0)(d:B*A=C*A):B=C:=by
 refine E0 ?_;refine eZ λf=>?_
 exact nW f a (by rw[sub_mul,d,sub_self])
def r7:sz (1:Rx)=1:=by have a:=S6 1;have d:=fq qK;rw[oC]at a;omega
def E4{A}(g:sz A=1):∃d:e,d≠0/\A=K d:=by
 obtain⟨a,f,rfl⟩:=jr A;rw[fY f]at g;match a,g,f with
 |[d],_,f=>exact⟨d,f.top (n:=0) J,xM d⟩
def wc{A}(a:sz A=1):∃B:Rx,B*A=1:=by obtain⟨c,d,rfl⟩:=E4 a;exact⟨_,pH d⟩
def xN{A B}(a:B*A=1):sz A=1:=by
 have d:A≠0:=λe=>qK (by rw[<-a,e,mul_zero])
 have f:B≠0:=λe=>qK (by rw[<-a,e,zero_mul])
 have g:=eh f d;rw[a,r7]at g;have i:=fq d;have k:=fq f;omega
def dvd_one{A}(a:A∣1):sz A=1:=by let ⟨w,hw⟩:=a;exact xN hw.symm
def jJ{A B}(f:A∣B)(a:B≠0):sz A<=sz B:=by
 obtain⟨w,rfl⟩:=f;have d:w≠0:=λe=>a IC
 have g:A≠0:=λe=>a (by rw[e,mul_zero])
 have i:=eh d g;have pw:=fq d;omega
def uG{A B}(a:A∣B)(d:sz B<sz A):B=0:=
 eZ λf=>by have:=jJ a f;omega
def aaS{B:Rx}(d:B≠0):∀(n:Y)(A:Rx),sz A<n->∃Q a,A=Q*B+a/\sz a<sz B
 |0,_,f=>by omega
 |n+1,A,f=>by
  by_cases g:sz A<sz B
  .exact⟨0,A,by rw[zero_mul,zero_add],g⟩
  .have t:=fq d;obtain⟨k,l⟩:∃k,sz B=k+1:=⟨sz B-1,O⟩;obtain⟨m,u⟩:∃m,sz A=m+k+1:=⟨sz A-k-1,O⟩;have o:sz (A-K (A (m+k)*(B k)⁻¹)*(X m*B))<n:=by
    have:sz (A-K (A (m+k)*(B k)⁻¹)*(X m*B))<=m+k:=pI λi v=>by
     rw[lO,fh,nt,b (O:m<=i)];by_cases p:i=m+k
     .rw[p,(O:m+k-m=k),ny,lU _<|Iz l,tj];grind
     .rw[mR (A:=A) (i:=i) O,mR (A:=B) (i:=i-m) O];grind
    omega
   let ⟨Q,a,h2,s⟩:=aaS d n _ o;refine⟨K (A (m+k)*(B k)⁻¹)*X m+Q,a,?_,s⟩;rw[add_mul,add_assoc,<-h2,mul_assoc,add_comm,kA]
def S' A{B}(d:B≠0):∃Q a,A=Q*B+a/\sz a<sz B:=aaS d _ A<|dK _
def BZ:∀(n:Y)(A B:Rx),sz B<n->∃d U a,d∣A/\d∣B/\d=U*A+a*B
 |0,_,_,l=>by omega
 |n+1,A,B,l=>by
  by_cases g:B=0
  .subst g;exact⟨A,1,0,dvd_refl A,dvd_zero A,by rw[one_mul,mul_zero,add_zero]⟩
  .let ⟨Q,f,i,h2⟩:=S' A g;let ⟨d,U,a,k,m,o⟩:=BZ n B f O;refine⟨d,a,U-a*Q,?_,k,?_⟩
   .rw[i];exact dvd_add (dw k Q) m
   .rw[o,i,mul_add,sub_mul];have:a*(Q*B)+a*f+(U*B-a*Q*B)=(U*B-a*Q*B+a*Q*B)+a*f:=fG;rw[this,kA]
def Co(A B:Rx):Prop:=∃U V,U*A+V*B=1
def Co.symm{A B}(a:Co A B):Co B A:=by let ⟨U,V,a⟩:=a;exact⟨V,U,by rw[add_comm];exact a⟩
def Co.dvd{A B C}(a:Co A B)(k:A∣B*C):A∣C:=by
 let ⟨U,V,a⟩:=a;have:C=C*U*A+V*(B*C):=by have d:C*(U*A)+C*(V*B)=C*U*A+V*(B*C):=fG;rw[<-d,<-mul_add,a,mul_one]
 rw[this];exact dvd_add (dvd_mul_left A _)<|dw k V
def Co.of_dvd{A B C}(a:Co A B)(k:C∣B):Co A C:=by let ⟨U,V,a⟩:=a;obtain⟨w,rfl⟩:=k;exact⟨U,V*w,by rw[mul_assoc];exact a⟩
def Co.unit{A B}(a:Co A B)(k:A∣B):sz A=1:=by let ⟨U,V,a⟩:=a;exact dvd_one<|a▸dvd_add (dvd_mul_left A U) (dw k V)
def bq(Q:Rx):Prop:=2<=sz Q/\∀A B,Q=A*B->sz A=1\/sz B=1
def bq.ne{Q}(a:bq Q):Q≠0:=λe=>by have:=a.1;rw[e,k8]at this;omega
def bq.or{Q}(d:bq Q) A:Q∣A\/Co Q A:=by
 let ⟨D,U,V,f,h2,g⟩:=BZ _ Q A<|dK _;let ⟨w,hw⟩:=f;rcases d.2 _ _ hw with e|e
 .let ⟨B,a⟩:=wc e;left;refine dvd_trans ⟨B,?_⟩ h2;rw[hw,<-mul_assoc,a,one_mul]
 .let ⟨B,a⟩:=wc e;right;refine⟨B*U,B*V,?_⟩;rw[<-a,g,mul_add,mul_assoc,mul_assoc]
def bq.zy{Q}(a:bq Q):¬Q∣1:=λe=>by have:=dvd_one e;have:=a.1;omega
def bq.nZ{Q}(a:bq Q){A B}(k:Q∣A*B):Q∣A\/Q∣B:=by
 rcases a.or A with e|e
 .exact .inl e
 .exact .inr<|e.dvd k
def tk:∀(n:Y)(A:Rx),sz A<n->2<=sz A->∃Q,bq Q/\Q∣A
 |0,_,l,_=>by omega
 |n+1,A,l,h2=>by
  by_cases d:bq A
  .exact⟨A,d,dvd_refl A⟩
  .have:∃B C,A=B*C/\¬(sz B=1\/sz C=1):=eZ λm=>d ⟨h2,λB C e=>eZ λf=>m ⟨B,C,e,f⟩⟩
   let ⟨B,C,e,f⟩:=this;have g:A≠0:=λe=>by rw[e,k8]at h2;omega
   have i:B≠0:=λa=>g (by rw[e,a,zero_mul])
   have k:C≠0:=λa=>g (by rw[e,a,mul_zero])
   have o:=eh i k;rw[<-e]at o;have t:=fq i;have u:=fq k;let ⟨Q,p,s⟩:=tk n B O O;exact⟨Q,p,by rw[e];exact kD s C⟩
def E5{A B}(f:A≠0)(g:∀Q,bq Q->Q∣A->Q∣B->False):Co A B:=by
 let ⟨D,U,V,a,h2,i⟩:=BZ _ A B<|dK _;have k:D≠0:=λe=>by let ⟨w,hw⟩:=a;rw[e,mul_zero]at hw;exact f hw
 have n:=fq k;by_cases e:sz D=1
 .let ⟨C,l⟩:=wc e;refine⟨C*U,C*V,?_⟩;rw[<-l,i,mul_add,mul_assoc,mul_assoc]
 .let ⟨Q,m,d⟩:=tk _ D (dK _) O;exact(g Q m (dvd_trans d a)<|dvd_trans d h2).elim
end Rx
namespace Rx
def xO{A B C a:Rx}(d:A∣B)(k:C∣a):A*C∣B*a:=by obtain⟨w,rfl⟩:=d;obtain⟨v,rfl⟩:=k;exact⟨w*v,fG⟩
def we{a}(d:a≠0):sz (K a)=1:=xN<|pH d
def amG{A B}{a}(d:a≠0)(f:A∣K a*B):A∣B:=by
 have e:B=K a⁻¹ *(K a*B):=by rw[<-mul_assoc,pH d,one_mul]
 rw[e];exact dw f _
def bC(A:Rx):Rx:=⟨λi=>((i+1:Y):e)*A (i+1),by let ⟨n,h⟩:=A.2;exact⟨n,λi a=>by rw[h (i+1) O,fH]⟩⟩
def qL A i:bC A i=((i+1:Y):e)*A (i+1):=rfl
def ID x y:bC (x+y)=bC x+bC y:=ext λi=>by rw[qL,eV,eV,aaP];rfl
def E6 a:bC (K a)=0:=ext λi=>by rw[qL,mj,w O,fH];rfl
def Ta:bC 0=0:=by rw[<-pq,E6,pq]
def amH:bC 1=0:=E6 1
def IE a x:bC (K a*x)=K a*bC x:=ext λi=>by rw[qL,fh,fh,qL];grind
def IF x:bC (X 1*x)=x+X 1*bC x:=ext λi=>by
 rw[qL,nt,eV,nt,b O,eK];cases i with
 |zero=>rw[w O,oz];exact rZ _
 |succ i=>
  rw[b O,eK,qL,Rat.natCast_add (i+1) 1]
  grind
def IG(B:Rx):∀a:V e,bC (lx a*B)=bC (lx a)*B+lx a*bC B
 |[]=>by rw[kE,zero_mul,Ta,zero_mul,zero_mul,zero_add]
 |f::a=>by have d:=IG B a;rw[Ni,add_mul,ID,IE,mul_assoc,IF,d,ID,E6,zero_add,IF];simp only[add_mul,mul_add];ac_rfl
def wg A B:bC (A*B)=bC A*B+A*bC B:=by obtain⟨a,_,rfl⟩:=jr A;exact IG B a
def II(Q:Rx):∀a,bC (pk Q<|a+1)=pk Q a*(K ((a+1:Y):e)*bC Q)
 |0=>by rw[r6];show bC Q=1*(K 1*bC Q);rw[oC,one_mul,one_mul]
 |a+1=>by rw[show pk Q (a+1+1)=pk Q (a+1)*Q from J,wg,II Q a,Rat.natCast_add (a+1) 1,EI,add_mul,mul_add];rw[show(K ((1:Y):e):Rx)=1 from J,one_mul,show pk Q (a+1)=pk Q a*Q from J];ac_rfl
def amI{Q}(g:2<=sz Q):bC Q≠0:=λe=>by
 obtain⟨n,d⟩:∃n,sz Q=n+1+1:=⟨sz Q-2,O⟩;have f:=Iz d;have a:bC Q n=(0:Rx) n:=rW;rw[qL,mO]at a;rcases zv.1 a with a|a
 .have:n+1=0:=by exact_mod_cast a
  omega
 .exact f a
def Nj{Q}:sz (bC Q)<=sz Q-1:=pI λi a=>by rw[qL,mR O,fH]
def bq.IJ{Q}(a:bq Q):¬Q∣bC Q:=λd=>by have f:=a.1;have g:=Nj (Q:=Q);exact amI f<|uG d O
def Mo(A:Rx):Prop:=A (sz A-1)=1
def Mo.ne{A}(a:Mo A):A≠0:=λd=>by subst d;have f:(0:e)=1:=a;exact absurd f D
def Mo.at{A}(a:Mo A){n}(d:sz A=n+1):A n=1:=by have:=a;rwa[Mo,d,eK]at this
def aaT{A B}{m n}(d:sz A=m+1)(f:sz B=n+1):(A*B) (m+n)=A m*B n:=BS (λi a=>mR O)<|λi a=>mR O
def E7{A}(a:A≠0):∃n,sz A=n+1:=⟨sz A-1,by have:=fq a;omega⟩
def Mo.mul{A B}(a:Mo A)(k:Mo B):Mo (A*B):=by let ⟨m,hm⟩:=E7 a.ne;let ⟨n,d⟩:=E7 k.ne;have f:=eh a.ne k.ne;rw[Mo,(O:sz (A*B)-1=m+n),aaT hm d,a.at hm,k.at d,rZ]
def Mo.zz{A B}(a:Mo (A*B))(k:Mo B):Mo A:=by
 have d:A≠0:=λe=>a.ne IC
 let ⟨m,hm⟩:=E7 d;let ⟨n,f⟩:=E7 k.ne;have i:=eh d k.ne;have g:=a.at (n:=m+n) O;rw[aaT hm f,k.at f,tj]at g;rw[Mo,hm];exact g
def aaU:Mo 1:=by have:sz (1:Rx)=1:=r7;rw[Mo,this];rfl
def Mo.pk{A:Rx}(a:Mo A):∀n,Mo (pk A n)
 |0=>aaU
 |n+1=>(Mo.pk a n).mul a
def Mo.unit{A}(d:Mo A)(a:sz A=1):A=1:=by obtain⟨c,g,rfl⟩:=E4 a;have f:=d.at a;rw[show c=1 from f];rfl
def Mo.eq{A B}(a:Mo A)(k:Mo B)(d:A∣B)(g:B∣A):A=B:=by have l:=jJ d k.ne;have m:=jJ g a.ne;obtain⟨w,rfl⟩:=d;have f:Mo w:=k.zz a;have n:=eh f.ne a.ne;have i:w=1:=f.unit O;rw[i,one_mul]
def aaV{A}(d:A≠0):∃f:e,f≠0/\Mo (K f*A):=by
 let ⟨n,i⟩:=E7 d;have g:=Iz i;have a:(A n)⁻¹ ≠0:=λk=>by have:=lU _ g;rw[k,rX]at this;exact absurd this D
 refine⟨(A n)⁻¹,a,?_⟩;have l:=eh (th a) d;rw[we a]at l;rw[Mo,(O:sz (K (A n)⁻¹ *A)-1=n),fh,lU _ g]
def bq.smul{Q}(h:bq Q){d}(f:d≠0):bq (K d*Q):=by
 have i:=eh (th f) h.ne;rw[we f]at i;refine⟨BN,λA B e=>?_⟩;have k:Q=(K d⁻¹ *A)*B:=by rw[mul_assoc,<-e,<-mul_assoc,pH f,one_mul]
 rcases h.2 _ _ k with g|g
 .left;have a:d⁻¹ ≠0:=λe=>by have:=lU _ f;rw[e,rX]at this;exact absurd this D
  have l:A≠0:=λm=>by rw[m,mul_zero,k8]at g;omega
  have:=eh (th a) l;rw[we a]at this;omega
 .exact .inr g
def bq.assoc{Q a}(d:bq Q)(k:bq a)(f:Q∣a):a∣Q:=by
 let ⟨w,hw⟩:=f;rcases k.2 _ _ hw with e|e
 .let ⟨C,g⟩:=wc e;exact⟨C,by rw[hw,<-mul_assoc,g,one_mul]⟩
 .have:=d.1;omega
def bq.eq{Q a}(f:bq Q)(k:bq a)(g:Mo Q)(i:Mo a)(d:Q∣a):Q=a:=g.eq i d<|f.assoc k d
def mult{Q:Rx}(f:bq Q):∀(n:Y)(a:Rx),sz a<n->a≠0->∃e d,a=pk Q e*d/\¬Q∣d
 |0,_,d,_=>by omega
 |n+1,a,d,m=>by
  by_cases i:Q∣a
  .obtain⟨k,rfl⟩:=i;have l:k≠0:=λe=>m IC
   have p:=eh l f.ne;have s:=f.1;obtain⟨e,g,rfl,o⟩:=mult f n k O l;exact⟨e+1,g,by rw[pk];ac_rfl,o⟩
  .exact⟨0,a,(one_mul a).symm,i⟩
def bq.pk{Q A:Rx}(a:bq Q):∀{n:Y},Q∣pk A n->0<n/\Q∣A
 |0,d=>absurd d a.zy
 |n+1,d=>by
  rcases a.nZ d with f|f
  .exact⟨O,(bq.pk a f).2⟩
  .exact⟨O,f⟩
structure FL(L:V (Rx×Y)):Prop where
 fI:∀x∈L,bq x.1
 mo:∀x∈L,Mo x.1
 pos:∀x∈L,1<=x.2
 B0:L.Pairwise (λx y=>x.1≠y.1)
def FL.tail{x}{L}(a:FL (x::L)):FL L:=⟨λy hy=>a.fI y uH,λy hy=>a.mo y uH,λy hy=>a.pos y uH,(jR.1 a.B0).2⟩
def FL.Tb:∀{L:V (Rx×Y)},L.Pairwise (λx y=>x.1≠y.1)->∀{x d:Rx×Y},x∈L->d∈L->x≠d->x.1≠d.1
 |y::L,n,x,d,hx,k,f=>by
  let ⟨l,h2⟩:=jR.1 n;rcases b9.1 hx with m|g
  .rcases b9.1 k with i|a
   .exact absurd (m.trans i.symm) f
   .rw[m];exact l d a
  .rcases b9.1 k with i|a
   .rw[i];exact(l x g).symm
   .exact FL.Tb h2 g a f
def pF(a:Y->Y):V (Rx×Y)->Rx
 |[]=>1
 |x::L=>pk x.1 (a x.2)*pF a L
def B1(a d:Y->Y):∀L,pF (λm=>a m+d m) L=pF a L*pF d L
 |[]=>(one_mul 1).symm
 |x::L=>by rw[pF,pF,pF,B1 a d L,zu];ac_rfl
def xP{a d:Y->Y}:∀{L:V (Rx×Y)},(∀x∈L,a x.2=d x.2)->pF a L=pF d L
 |[],_=>rfl
 |x::L,f=>by rw[pF,pF,f x az,xP<|λy hy=>f y uH]
def wh{d:Y->Y}:∀{L:V (Rx×Y)},(∀x∈L,Mo x.1)->Mo (pF d L)
 |[],_=>aaU
 |x::L,a=>((a x az).pk _).mul<|wh λy hy=>a y uH
def Nk{a:Y->Y}:∀{L:V (Rx×Y)},(∀x∈L,a x.2=0)->pF a L=1
 |[],_=>rfl
 |x::L,d=>by rw[pF,d x az,Nk<|λy hy=>d y uH];exact one_mul 1
def IK{c:Y->Y}:∀{L:V (Rx×Y)}{x:Rx×Y},x∈L->0<c x.2->x.1∣pF c L
 |y::L,x,a,hc=>by
  rw[pF];rcases b9.1 a with rfl|a
  .obtain⟨d,f⟩:∃d,c x.2=d+1:=⟨c x.2-1,O⟩;rw[f,pk];exact kD (dvd_mul_left _ _) _
  .exact dw (IK a hc) _
def zA{g:Y->Y}{Q:Rx}(a:bq Q):∀{L:V (Rx×Y)},Q∣pF g L->∃x∈L,0<g x.2/\Q∣x.1
 |[],d=>absurd d a.zy
 |y::L,d=>by
  rcases a.nZ d with f|f
  .exact⟨y,az,a.pk f⟩
  .let ⟨x,h1,h2⟩:=zA a f;exact⟨x,zC,h2⟩
def FL.amJ{x}{L}(a:FL (x::L)){d:Y->Y}:¬x.1∣pF d L:=λf=>by let ⟨y,h1,h2,g⟩:=zA (a.fI x az) f;exact(jR.1 a.B0).1 y h1<|(a.fI x az).eq (a.fI y zC) (a.mo x az) (a.mo y zC) g
def FL.IJ{g:Y->Y}(k:∀m,g m<=1):∀{L:V (Rx×Y)},FL L->∀{x:Rx×Y},x∈L->g x.2=1->¬x.1∣bC (pF g L)
 |y::L,a,x,hx,l,f=>by
  have i:=a.fI y az;rcases b9.1 hx with rfl|d
  .rw[pF,l,r6,wg]at f;rcases i.nZ (uD ((add_comm _ _).symm▸f)<|dvd_mul_right _ _)with e|e
   .exact i.IJ e
   .exact a.amJ e
  .have n:=FL.IJ k a.tail d l;have o:=a.fI x hx;by_cases p:g y.2=0
   .rw[pF,p]at f;exact n (by rwa[show pk y.1 0=1 from J,one_mul]at f)
   .have s:g y.2=1:=by have:=k y.2;omega
    rw[pF,s,r6,wg]at f;rcases o.nZ (uD f<|dw (IK d O) _)with e|e
    .exact(jR.1 a.B0).1 x d (o.eq i (a.mo x hx) (a.mo y az) e).symm
    .exact n e
def aaW:∀(n:Y)(d:Rx),sz d<n->Mo d->∃L,FL L/\pF id L=d
 |0,_,H,_=>by omega
 |n+1,d,H,l=>by
  have P:=fq l.ne;by_cases e:sz d=1
  .exact⟨[],⟨az,az,az,.nil⟩,(l.unit e).symm⟩
  .let ⟨Q,p,C⟩:=tk _ d (dK _) O;let ⟨c,hc,hm⟩:=aaV p.ne;have o:=p.smul hc;have s:K c*Q∣d:=dvd_trans (p.assoc o<|dvd_mul_left _ _) C;generalize K c*Q=q at*;let ⟨e,g,m,u⟩:=mult o _ d (dK _) l.ne;have M:1<=e:=by
    rcases qD e with f|f
    .subst f;rw[show pk q 0=1 from J,one_mul]at m;exact absurd (m▸s) u
    .exact f
   have v:Mo g:=by rw[m,mul_comm]at l;exact l.zz<|hm.pk e
   have T:sz g<sz d:=by have A:=eh (hm.pk e).ne v.ne;rw[<-m]at A;obtain⟨i,rfl⟩:∃i,e=i+1:=⟨e-1,O⟩;have k:=eh (hm.pk i).ne hm.ne;have t:=fq (hm.pk i).ne;have U:=o.1;rw[show pk q (i+1)=pk q i*q from J]at A;omega
   let ⟨L,k,t⟩:=aaW n g O v;refine⟨(q,e)::L,⟨?_,?_,?_,jR.2 ⟨λy B f=>?_,k.B0⟩⟩,?_⟩
   .intro x a;rcases b9.1 a with rfl|a
    .exact o
    .exact k.fI x a
   .intro x a;rcases b9.1 a with rfl|a
    .exact hm
    .exact k.mo x a
   .intro x a;rcases b9.1 a with rfl|a
    .exact M
    .exact k.pos x a
   .refine u ?_;rw[<-t];have f:q=y.1:=f;rw[f];exact IK B<|k.pos y B
   .rw[pF,t];exact m.symm
structure IL(D A B:Rx):Prop where
 mo:Mo D
 l:D∣A
 r:D∣B
 ex:∃U V,D=U*A+V*B
def kW(n:Y):Y->Y:=λm=>if n<=m then 1 else 0
def kP(n:Y):Y->Y:=λm=>if m=n then 1 else 0
def kG:Y->Y:=λm=>m-1
def aaX n:∀m,kW n m<=1:=λm=>by unfold kW;split<;>omega
def IM n:∀m,kP n m<=1:=λm=>by unfold kP;split<;>omega
def Nl{n m}:kW n m=1↔n<=m:=by unfold kW;split<;>omega
def Tc{n m}:kP n m=1↔m=n:=by unfold kP;split<;>omega
def Td n L:pF (kW n) L=pF (kP n) L*pF (kW<|n+1) L:=by rw[<-B1];exact xP λx _=>by unfold kW kP;split<;>split<;>split<;>omega
def Te{L}(a:FL L):pF id L=pF (kW 1) L*pF kG L:=by rw[<-B1];exact xP λx d=>by have:=a.pos x d;show x.2=kW 1 x.2+kG x.2;unfold kW kG;split<;>omega
def Yp(L:V (Rx×Y))(n:Y)(y:Rx):Prop:=∀x∈L,n<=x.2->x.1∣y-K ((x.2:e)-(n:e)+1)*bC (pF (kW n) L)
def aaY:∀{L:V (Rx×Y)},FL L->∃f,bC (pF id L)=f*pF kG L/\∀x∈L,x.1∣f-K (x.2:e)*bC (pF (kW 1) L)
 |[],_=>⟨0,by rw[zero_mul];exact amH,λx hx=>by simp at hx⟩
 | (a,m)::L,g=>by
  let ⟨f,l,h2⟩:=aaY g.tail;have t:1<=m:=g.pos (a,m) az;obtain⟨d,rfl⟩:∃d,m=d+1:=⟨m-1,O⟩;have n:pF (kW 1) ((a,d+1)::L)=a*pF (kW 1) L:=by rw[pF,Nl.2 O,r6]
  have o:pF kG ((a,d+1)::L)=pk a d*pF kG L:=rfl;have p:pF id ((a,d+1)::L)=pk a d*a*pF id L:=rfl;refine⟨K ((d+1:Y):e)*bC a*pF (kW 1) L+a*f,?_,?_⟩
  .rw[p,o,wg,l,show pk a d*a=pk a (d+1)from J,II,Te g.tail,show pk a (d+1)=pk a d*a from J,add_mul];ac_rfl
  .intro x hx;rw[n,wg];rcases b9.1 hx with rfl|hx
   .refine⟨f-K ((d+1:Y):e)*bC (pF (kW 1) L),?_⟩;show K ((d+1:Y):e)*bC a*pF (kW 1) L+a*f-K ((d+1:Y):e)*(bC a*pF (kW 1) L+a*bC (pF (kW 1) L))=_;rw[sub_mul];refine sub_eq ?_;rw[mul_add];have i:f*a-K ((d+1:Y):e)*bC (pF (kW 1) L)*a+(K ((d+1:Y):e)*(bC a*pF (kW 1) L)+K ((d+1:Y):e)*(a*bC (pF (kW 1) L)))=(f*a-K ((d+1:Y):e)*bC (pF (kW 1) L)*a+K ((d+1:Y):e)*bC (pF (kW 1) L)*a)+K ((d+1:Y):e)*(bC a*pF (kW 1) L):=fG;rw[i,kA];ac_rfl
   .have s:=h2 x hx;have k:x.1∣pF (kW 1) L:=IK hx (by rw[Nl.2 (g.pos x mB)];omega);rw[mul_add,Ng];refine dvd_add (dvd_sub (dw k _)<|dw (dw k _) _) ?_;have i:a*f-K (x.2:e)*(a*bC (pF (kW 1) L))=a*(f-K (x.2:e)*bC (pF (kW 1) L)):=by rw[mul_sub];congr 1;ac_rfl
    rw[i];exact dw s a
def xQ{m:Y}(a:m≠0):(m:e)≠0:=λd=>a (by exact_mod_cast d)
def amK{L}(a:FL L){g}(p:IL g (pF id L) (bC<|pF id L)):g=pF kG L/\∃f,bC (pF id L)=f*g/\Yp L 1 f:=by
 let ⟨f,k,h2⟩:=aaY a;have i:=Te a;have l:Co (pF (kW 1) L) f:=E5 (wh a.mo).ne λQ n q1 s=>by let ⟨x,d,B,t⟩:=zA n q1;have u:=dvd_trans (n.assoc (a.fI x d) t) s;have v:=aaQ (nz<|h2 x d) u;exact FL.IJ (aaX 1) a d (Nl.2<|a.pos x d)<|amG (xQ<|by have:=a.pos x d;omega) v
 let ⟨y,A,m⟩:=l;let ⟨d1,d2,d3,U,V,d4⟩:=p;have o:g=pF kG L:=by
  refine d1.eq (wh a.mo) ?_ ?_
  .have:pF kG L=y*pF id L+A*bC (pF id L):=by rw[i,<-i,k,<-mul_assoc,i,<-mul_assoc,<-add_mul,m,one_mul]
   rw[this];exact dvd_add (dw d2 _)<|dw d3 _
  .rw[d4,k];refine dvd_add (dw ?_ _)<|dw (dvd_mul_left _ _) _;rw[i];exact dvd_mul_left _ _
 refine⟨o,f,by rw[o];exact k,λx d _=>?_⟩;rw[show(x.2:e)-((1:Y):e)+1=(x.2:e)by show(x.2:e)-1+1=_;grind];exact h2 x d
end Rx
namespace Rx
def Tf(l:V e):∀n,jW l n<=n/\(∀i,jW l n<=i->i<n->E l i 0=0)/\(jW l n=0\/E l (jW l n-1) 0≠0)
 |0=>⟨aO _,λi _ a=>absurd a O,.inl J⟩
 |n+1=>by
  rw[jW];split
  .rename_i a;let ⟨g,f,k⟩:=Tf l n;refine⟨O,λi m o=>?_,k⟩;by_cases d:i=n
   .subst d;exact Rat.num_eq_zero.1 a
   .exact f i m O
  .rename_i a;exact⟨aO _,λi g f=>absurd f O,.inr λd=>a<|by rw[eK]at d;rw[d];rfl⟩
def E8(a:V e) n i:(c n a).getD i 0=if i<n then E a i 0 else 0:=by
 rw[aK,DE];split
 .rw[aK]
 .rfl
def aaZ{l}{n}(a:∀i,n<=i->E l i 0=0):lx (c n l)=lx l:=ext λi=>by
 rw[fX,fX,E8];split
 .rfl
 .exact(a i O).symm
def tm l:lx (fC l)=lx l:=aaZ λi a=>by
 by_cases e:i<Z l
 .exact(Tf l<|Z l).2.1 i a e
 .exact iP l O
def mT l:bI (fC l):=by
 let ⟨f,h2,a⟩:=Tf l<|Z l;have d:Z (fC l)=jW l (Z l):=SX;rcases a with a|a
 .exact .inl<|eT O
 .by_cases e:jW l (Z l)=0
  .exact .inl<|eT O
  .right;rw[d];unfold fC;rw[E8,b O];exact a
def bI.ne{a}(d:bI a)(f:a≠[]):E a (Z a-1) 0≠0:=d.resolve_left f
def B2{a}(d:bI a)(f:a≠[]):lx a≠0:=λe=>f<|oD d wa<|e.trans kE.symm
def aa0 d a:lx (rY d a)=K d*lx a:=ext λi=>by rw[fh];exact aaC d a i
def amL a:lx (tf a)=bC (lx a):=ext λi=>by
 rw[qL,fX,fX];by_cases h:i<Z a-1
 .rw[aaD h];rfl
 .rw[iP (tf a) (by rw[SU];omega),iP a O,fH]
def IN{r b}a{k}(f:k+Z b<=Z r):lx (jz r a b k)=lx r+K a*(X k*lx b):=ext λi=>by
 rw[eV,fh,nt,fX,fX];by_cases d:i<Z r
 .rw[show E (jz r a b k) i 0=_ from uA d];by_cases e:k<=i/\i<k+Z b
  .rw[gw e,gw e.1];rfl
  .rw[w e];split
   .rw[fX,iP b O,fH,oz]
   .rw[fH,oz]
 .rw[iP (jz r a b k) (by rw[jz,nw];omega),iP r O];split
  .rw[fX,iP b O,fH,oz]
  .rw[fH,oz]
def amM a d f:lx (xI a d f)=lx a+K d*lx f:=by unfold xI;rw[IN d (by rw[M' O];omega),amD,one_mul];congr 1;exact ext λi=>aaE a _ i
def amN{l}{k}t(a:k<Z l)(d:E l k 0=0):lx (l.set k t)=lx l+K t*X k:=ext λi=>by
 rw[eV,fh,E3,fX,fX,BT i t a];by_cases e:k=i
 .subst e;rw[b J,b J,d];grind
 .rw[w e,w<|λa=>e a.symm];grind
def Tg{a b:V e}{n m:Y}(p:Z b=n+1)(s:Z a=n+m)(t:E b n 0≠0):∀d,d<=m->
  lx a=lx (dC (E b n 0)⁻¹ a b n m d).1*lx b+lx (dC (E b n 0)⁻¹ a b n m d).2/\(∀i,i<m-d->(dC (E b n 0)⁻¹ a b n m d).1.getD i 0=0)/\(∀i,n+(m-d)<=i->(dC (E b n 0)⁻¹ a b n m d).2.getD i 0=0)
 |0,_=>by have f:∀i,E (bc m (0:e)) i 0=0:=Iv m;refine⟨?_,λi _=>f i,λi g=>iP a O⟩;show lx a=lx (bc m 0)*lx b+lx a;rw[show lx (bc m (0:e))=0 from ext f,zero_mul,zero_add]
 |d+1,y=>by
  let ⟨l,h2,o⟩:=Tg p s t d O;let ⟨l1,l2⟩:=xJ (E b n 0)⁻¹ a b n m d;rw[dC];generalize dC (E b n 0)⁻¹ a b n m d=x at*;let ⟨q,r⟩:=x;simp only at l h2 o l1 l2⊢;refine⟨?_,λi g=>?_,λi g=>?_⟩
  .rw[amN _ O (h2 _ O),IN _ O,l,add_mul,S0,neg_mul,mul_assoc (K _)<|X _];generalize K (E r (m-1-d+n) 0*(E b n 0)⁻¹)*(X (m-1-d)*lx b)=u;rw[add_assoc,<-add_assoc u,add_comm u,add_assoc<|lx r,add_neg,add_zero]
  .rw[BT i _ O,w O,h2 i O]
  .have:=be (λA:Rx=>A i)<|IN (r:=r) (b:=b) (-(E r (m-1-d+n) 0*(E b n 0)⁻¹)) (k:=m-1-d) O;simp only[eV,fh,nt,fX]at this;rw[this,gw O];by_cases v:i=m-1-d+n
   .subst v;rw[(O:m-1-d+n-(m-1-d)=n)];grind
   .rw[o i O,iP b (i:=i-(m-1-d)) O];grind
def cM(a d:V e):V e:=if Z a<Z d then[]else fC (dC (E d (Z d-1) 0)⁻¹ a d (Z d-1) (Z a+1-Z d) (Z a+1-Z d)).1
def zD a d:bI (cM a d):=by
 unfold cM;split
 .exact wa
 .exact mT _
def IP a d:Z (cM a d)<=Z a+1-Z d:=by
 unfold cM;split
 .exact aY _
 .refine bm (BW _) ?_;rw[(xJ ..).1];exact aO _
def B3{a d}(g:bI d)(f:d≠[]):lx a=lx (cM a d)*lx d+lx (cx a d):=by
 have o:=bQ.2 f;unfold cM cx;by_cases h:Z a<Z d
 .rw[b h,b h,kE,zero_mul,zero_add]
 .rw[w h,w h,tm,tm];let ⟨k,_,l⟩:=Tg (a:=a) (b:=d) (n:=Z d-1) (m:=Z a+1-Z d) O O (g.ne f) _<|aO _;rw[aaZ (λi p=>l i O)];exact k
def qM{a b}(d:bI a):bI (cx a b):=by
 unfold cx;split
 .exact d
 .exact mT _
def zE{a d}(l:bI a)(i:bI d)(f:d≠[])(k:lx d∣lx a):lx a=lx (cM a d)*lx d:=by
 have g:=B3 (a:=a) i f;have m:lx (cx a d)=0:=by
  refine uG (A:=lx d) ?_ ?_
  .rw[g]at k;exact uD k<|dvd_mul_left _ _
  .rw[fY (qM l),fY i];exact pE f
 rw[m,add_zero]at g;exact g
def pJ a:bI (dr a):=by
 unfold dr;split
 .exact wa
 .exact mT _
def uI{a}(d:a≠[]):lx (dr a)=K (E a (Z a-1) 0)⁻¹ *lx a:=by rw[dr,w d,tm,aa0]
def IQ:dr []=[]:=b J
def r8{a:e}(d:a≠0):a⁻¹ ≠0:=λf=>by have:=lU _ d;rw[f,rX]at this;exact absurd this D
def aa1{a}(f:bI a)(d:a≠[]):Mo (lx<|dr a):=by have i:=bQ.2 d;have g:=eh (th<|r8<|f.ne d)<|B2 f d;rw[we (r8<|f.ne d),fY f]at g;rw[uI d,Mo,fh,(O:sz (K (E a (Z a-1) 0)⁻¹ *lx a)-1=Z a-1),fX,lU _<|f.ne d]
def B4{a}(f:bI a):Z (dr a)=Z a:=by
 by_cases d:a=[]
 .subst d;rw[IQ]
 .have g:=eh (th<|r8<|f.ne d)<|B2 f d;rw[we (r8<|f.ne d),fY f,<-uI d,fY<|pJ a]at g;omega
def aa2 a:lx a∣lx (dr a)/\(bI a->lx (dr a)∣lx a):=by
 by_cases d:a=[]
 .subst d;rw[IQ];exact⟨dvd_refl _,λ_=>dvd_refl _⟩
 .rw[uI d];refine⟨dvd_mul_left _ _,λh=>⟨K<|E a (Z a-1) 0,?_⟩⟩;rw[<-mul_assoc,mul_comm (K _)<|K _,pH<|h.ne d,one_mul]
def Th:∀(k:Y)(a d:V e),bI a->bI d->Z d<k->bI (fg k a d)/\lx (fg k a d)∣lx a/\lx (fg k a d)∣lx d/\∃U f,lx (fg k a d)=U*lx a+f*lx d
 |0,_,_,_,_,o=>by omega
 |k+1,a,d,i,l,o=>by
  rw[fg];split
  .rename_i g;subst g;exact⟨i,dvd_refl _,by rw[kE];exact dvd_zero _,1,0,by rw[one_mul,zero_mul,add_zero]⟩
  .rename_i g;have s:=pE (a:=a) g;have m:=qM (b:=d) i;have n:=B3 (a:=a) l g;let ⟨i1,i2,i3,U,f,i4⟩:=Th k d (dr<|cx a d) l (pJ _) (by rw[B4 m];omega);let ⟨d1,d2⟩:=aa2<|cx a d;let ⟨w,hw⟩:=d1;have p:=dvd_trans i3<|d2 m;refine⟨i1,by rw[n];exact dvd_add (dw i2 _) p,i2,f*w,U-f*w*lx (cM a d),?_⟩;rw[i4,hw,n,mul_add,sub_mul];have:f*w*(lx (cM a d)*lx d)+f*w*lx (cx a d)+(U*lx d-f*w*lx (cM a d)*lx d)=(U*lx d-f*w*lx (cM a d)*lx d+f*w*lx (cM a d)*lx d)+f*(w*lx (cx a d)):=fG;rw[this,kA]
def aa3{k}{a d}(i:bI a)(l:bI d)(m:Z d<k)(n:a≠[]):fg k a d≠[]/\bI (dr<|fg k a d)/\IL (lx<|dr<|fg k a d) (lx a) (lx d):=by
 let ⟨g,h2,o,U,V,p⟩:=Th k a d i l m;have f:fg k a d≠[]:=λe=>by rw[e,kE]at h2;let ⟨w,hw⟩:=h2;rw[mul_zero]at hw;exact B2 i n hw
 let ⟨d1,d2⟩:=aa2<|fg k a d;let ⟨w,hw⟩:=d1;refine⟨f,pJ _,aa1 g f,dvd_trans (d2 g) h2,dvd_trans (d2 g) o,w*U,w*V,?_⟩;rw[hw,p,mul_add,mul_assoc,mul_assoc]
end Rx
def B5(xs:V e)(l:Z xs<=1000000):r q 62 [I .q xs] (I .q<|fC xs):=by
 refine aI Tryz.func62 ?_;refine N J<|N J ?_;refine du<|au<|a8 (α:=Y) (λk=>⟨[(0,I .q xs),(3,R k)],[],2,[]⟩) (λk=>k<=Z xs/\jW xs k=jW xs (Z xs)) (λk=>k) (Z xs) ⟨aO _,J⟩ aM ?_;rintro k ⟨m,a⟩;have f:jW xs k=k->bl (I .q<|c k xs) (I .q<|fC xs):=λg=>by refine bl.of_eq ?_;unfold fC;rw[<-a,g]
 refine du<|F ?_;refine rg 8 J J (λd=>?_)<|λd=>?_
 .have d:0<k:=by have d:(k:G)>0:=aU d;omega
  obtain⟨j,rfl⟩:∃j,k=j+1:=⟨k-1,O⟩;have i:af (((j+1:Y):G)-1)=j:=O;refine jV J J J J J (RR<|E xs (af<|((j+1:Y):G)-1) 0) (z J ?_) (hp:=kv);refine al J (λh2=>?_)<|λh2=>?_
  .have h2:(E xs j 0).num=0:=by have h2:fB (E xs (af<|((j+1:Y):G)-1) 0).num=0:=eq_of_beq h2;rw[i]at h2;exact v7.1 h2
   refine aD<|au<|rt J (eE<|aT j ⟨O,?_⟩ s8<|wk ⟨sR J,sE J ?_,h⟩ h) (hp:=kv)
   .rw[<-a,jW,b h2]
   .exact je (O:((j+1:Y):G)-1=(j:G))
  .have h2:(E xs j 0).num≠0:=by have h2:fB (E xs (af<|((j+1:Y):G)-1) 0).num≠0:=nV h2;rw[i]at h2;exact λg=>h2 (v7.2 g)
   exact a7<|aL<|N J (bL<|ig cv J<|f<|by rw[jW,w h2]) (hp:=aF)
 .have d:k=0:=by have d:¬(k:G)>0:=a6 d;omega
  subst d;exact z J<|al J (λh2=>mM)<|λ_=>a7<|aL<|N J (bL<|ig cv J<|f J) (hp:=aF)
def aa4(a:V e)(i:Y):r q 89 [I .q a,R i] (aQ<|E a i 0):=by
 refine aI Tryz.func89 ?_;refine N J<|j<|N J<|al J (λh=>?_)<|λh=>?_
 .have h:i<Z a:=by have h:(i:G)<(Z a:G):=aU h;omega
  refine N J (hp:=aF)<|bL<|cK<|eJ J ?_;rfl
 .have h:¬i<Z a:=by have h:¬(i:G)<(Z a:G):=a6 h;omega
  refine aD<|bt J J (zb 0 D D) J<|bU J ?_;rw[Rx.iP a O];rfl
def amO(xs:V e)(m:Z xs<=1000000):Na q 62 [.c (.X 2002000)] [(2002000,.vec 44 .q xs)] (I .q<|fC xs):=by
 refine amy 3 Tryz.func62 J J J (λn g=>by rw[iK.1 g];decide) (Mv.of J) J D ?_;refine eP (G8 2002000 J) ?_;refine N J<|N J ?_;refine du<|au<|a8 (α:=Y) (λk=>⟨[(0,I .q xs),(3,R k)],[],5,[]⟩) (λk=>k<=Z xs/\jW xs k=jW xs (Z xs)) (λk=>k) (Z xs) ⟨aO _,J⟩ aM ?_;rintro k ⟨o,a⟩;have f:jW xs k=k->bl (I .q<|c k xs) (I .q<|fC xs):=λi=>by refine bl.of_eq ?_;unfold fC;rw[<-a,i]
 refine du<|F ?_;refine rg 8 J J (λd=>?_)<|λd=>?_
 .have d:0<k:=by have d:(k:G)>0:=aU d;omega
  obtain⟨j,rfl⟩:∃j,k=j+1:=⟨k-1,O⟩;have l:af (((j+1:Y):G)-1)=j:=O;refine jV J J J J J (RR<|E xs (af<|((j+1:Y):G)-1) 0) (z J ?_) (hp:=kv);refine al J (λh2=>?_)<|λh2=>?_
  .have h2:(E xs j 0).num=0:=by have h2:fB (E xs (af<|((j+1:Y):G)-1) 0).num=0:=eq_of_beq h2;rw[l]at h2;exact v7.1 h2
   refine aD<|au<|rt J (eE<|aT j ⟨O,?_⟩ s8<|wk ⟨sR J,sE J ?_,h⟩ h) (hp:=kv)
   .rw[<-a,jW,b h2]
   .exact je (O:((j+1:Y):G)-1=(j:G))
  .have h2:(E xs j 0).num≠0:=by have h2:fB (E xs (af<|((j+1:Y):G)-1) 0).num≠0:=nV h2;rw[l]at h2;exact λi=>h2 (v7.2 i)
   exact a7<|aL<|N J (bL<|aaH cv J<|f<|by rw[jW,w h2]) (hp:=aF)
 .have d:k=0:=by have d:¬(k:G)>0:=a6 d;omega
  subst d;exact z J<|al J (λh2=>mM)<|λ_=>a7<|aL<|N J (bL<|aaH cv J<|f J) (hp:=aF)
def js(a:V e):V e:=fC<|0::a
def Ti(a:V e)(d:Z a<=1000):r q 88 [I .q a] (I .q<|js a):=by
 refine aI Tryz.func88 ?_;refine N J<|F<|rc J J (zb 0 D D)<|fT .q [((0:G):e)] J J (z J ?_);refine F<|ra J J J J J J J J J ?_ ?_<|rcc (conc:=[]) (fm:=[(2002000,.vec 44 .q<|((0:G):e)::a)]) J J (amO _ Nm) (λf b h=>rfl)<|z J<|cw J
 .show(1+Z a+(1+Z a)/4+192)*64<=_;omega
 .show(1+Z a)*4<=_;omega
def pK(a d:V e):V e:=fC<|(bX<|max (Z a)<|Z d).map λi=>E a i 0+E d i 0
def eF(d:e)(a:V e):V e:=fC<|(bX<|Z a).map λi=>d*E a i 0
def Tj(f:Y->e) i:(bX<|i+1).map f=(bX i).map f++[f i]:=by rw[yx,fM];rfl
def E9{k}d a(s:Z a<=1000)(l:QS k d)(m:∀i,QS k (E a i 0))(n:k<=500000000000):r q 43 [aQ d,I .q a] (I .q<|eF d a):=by
 refine aI Tryz.func43 ?_;refine N J<|F<|fT .q [] J J (z J<|j<|N J ?_);refine au<|a8 (α:=Y) (λi=>⟨[(1,I .q a),(2,.c<|.P 0 0),(5,.c<|.X 1000000),(6,R i)],[(0,.box 44 0<|av .q d),(1000000,.vec 44 .q<|(bX i).map λi=>d*E a i 0)],10,[]⟩) (λi=>i<=Z a) (λi=>Z a-i) 0 (aY _) (wk ⟨sR J,sR J,sR J,sE J J,h⟩<|xa J) ?_;intro i t;have o:Z ((bX i).map λi=>d*E a i 0)=i:=az;refine j<|N J<|al J (λf=>?_)<|λf=>?_
 .have f:i<Z a:=by have f:(i:G)<(Z a:G):=aU f;omega
  have p:af ((i:G))=i:=bY i;have g:=SM d (E a (af<|(i:G)) 0) l (m _) n;refine aD<|j<|au<|cu ?_;refine rc J J g ?_ (hp:=aF);refine rl .q [d*E a (af<|(i:G)) 0] J J (ra J J J J J J J J J ?_ ?_<|z J<|eE<|aL<|rt J (hp:=aF)<|aT (i+1) f (O:Z a-(i+1)<Z a-i)<|Wk.trans (wk (st':=⟨[(1,I .q a),(2,.c<|.P 0 0),(5,.c<|.X 11008000),(6,R (i+1:Y))],[(0,.box 44 0<|av .q d),(11008000,.vec 44 .q<|(bX<|i+1).map λi=>d*E a i 0)],13,[]⟩) (bO J) ⟨bR J,bE J ?_,h⟩)<|Wk.trans (fU 1000000 11008000 J J J) aM)
  .show(Z ((bX i).map λi=>d*E a i 0)+1+(Z ((bX i).map λi=>d*E a i 0)+1)/4+192)*64<=_;omega
  .show(Z ((bX i).map λi=>d*E a i 0)+1)*4<=_;omega
  .rw[Tj,p]
 .have f:i=Z a:=by have f:¬(i:G)<(Z a:G):=a6 f;omega
  subst f;exact nN<|rA<|ou<|nO<|aL<|eP (G8 1000000 J)<|F<|rc J J (B5 _ O)<|z J<|bL<|atR J
def Nn{k}a d(t:Z a<=1000)(u:Z d<=1000)(m:∀i,QS k (E a i 0))(n:∀i,QS k (E d i 0))(o:k<=500000000000):r q 36 [I .q a,I .q d] (I .q<|pK a d):=by
 refine aI Tryz.func36 ?_;refine N J<|F<|fT .q [] J J (z J<|j<|N J ?_);obtain⟨M,l⟩:∃M,M=max (Z a) (Z d):=⟨_,J⟩;have p:(if(Z a:G)<(Z d:G)then(Z d:G)else(Z a:G))=(M:G):=by rw[l];split<;>omega
 refine au<|a8 (α:=Y) (λi=>⟨[(0,I .q a),(1,I .q d),(5,.c<|.X 1000000),(6,R i)],[(1000000,.vec 44 .q<|(bX i).map λi=>E a i 0+E d i 0)],10,[]⟩) (λi=>i<=M) (λi=>M-i) 0 (aY _) (wk ⟨sR J,sR J,sR J,sE J J,h⟩ ⟨bR J,h⟩) ?_;intro i v;have s:Z ((bX i).map λi=>E a i 0+E d i 0)=i:=az;refine j<|N J<|al J (λf=>?_)<|λf=>?_
 .have f:i<M:=by have f:(i:G)<_:=aU f;rw[b J]at f;split at f<;>omega
  have g:=amb (E a i 0) (E d i 0) (m i) (n i) o;refine aD<|j<|au<|cu ?_;refine rc J J (aa4 a i)<|rc J J (aa4 d i)<|rc J J g ?_;refine rl .q [E a i 0+E d i 0] J J (ra J J J J J J J J J ?_ ?_<|z J<|eE<|aL<|rt J (hp:=aF)<|aT (i+1) f xp<|Wk.trans (wk (st':=⟨[(0,I .q a),(1,I .q d),(5,.c<|.X 11009000),(6,R (i+1:Y))],[(11009000,.vec 44 .q<|(bX<|i+1).map λi=>E a i 0+E d i 0)],13,[]⟩) (bO J) ⟨bE J ?_,h⟩)<|Wk.trans (fU 1000000 11009000 J J J) aM)
  .show(Z ((bX i).map λi=>E a i 0+E d i 0)+1+(Z ((bX i).map λi=>E a i 0+E d i 0)+1)/4+192)*64<=_;omega
  .show(Z ((bX i).map λi=>E a i 0+E d i 0)+1)*4<=_;omega
  .rw[Tj]
 .have f:i=M:=by have f:¬(i:G)<_:=a6 f;rw[b J]at f;split at f<;>omega
  subst f;subst l;exact nN<|rA<|ou<|nO<|aL<|eP (G8 1000000 J)<|F<|rc J J (B5 _ O)<|z J<|bL<|atR J
def B6 l i:E (fC l) i 0=E l i 0:=by have:=be (λA:Rx=>A i)<|Rx.tm l;exact this
def aa5(f:Y->e) n i:E ((bX n).map f) i 0=if i<n then f i else 0:=by
 rw[aK,jh];by_cases h:i<n
 .rw[k6 h,b h];rfl
 .rw[iX b8,w h];rfl
def No a d i:E (pK a d) i 0=E a i 0+E d i 0:=by
 rw[pK,B6,aa5];split
 .rfl
 .rw[Rx.iP a O,Rx.iP d O,oz]
def B7 d a i:E (eF d a) i 0=d*E a i 0:=by
 rw[eF,B6,aa5];split
 .rfl
 .rw[Rx.iP a O,fH]
def Tk a i:E (js a) i 0=E (0::a) i 0:=B6 _ i
def amP a d:Rx.lx (pK a d)=Rx.lx a+Rx.lx d:=Rx.ext λi=>No a d i
def B8 a d:Rx.lx (eF a d)=Rx.K a*Rx.lx d:=Rx.ext λi=>by rw[Rx.fh];exact B7 a d i
def amQ a:Rx.lx (js a)=Rx.X 1*Rx.lx a:=by rw[js,Rx.tm,Rx.Ni,Rx.pq,Rx.zero_add]
def qN l:Z (fC l)<=Z l:=SX
def jY(a d:V e):Y->V e
 |0=>[]
 |f+1=>pK (js<|jY a d f)<|eF (E a (Z a-1-f) 0) d
def amR(a:V e){d}(f:d<Z a):List.drop (Z a-(d+1)) a=E a (Z a-1-d) 0::List.drop (Z a-d) a:=by rw[rK (O:Z a-(d+1)<Z a),(O:Z a-(d+1)+1=Z a-d),aK,cO (O:Z a-1-d<Z a)];simp only[(O:Z a-(d+1)=Z a-1-d)];rfl
def Tl(a f:V e):∀d,d<=Z a->Rx.lx (jY a f d)=Rx.lx (List.drop (Z a-d) a)*Rx.lx f
 |0,_=>by rw[jY,BO,List.drop_length,Rx.kE,Rx.zero_mul]
 |d+1,g=>by rw[jY,amP,amQ,B8,Tl a f d O,amR a O,Rx.Ni,Rx.add_mul,Rx.mul_assoc,Rx.add_comm]
def amS a f d:Rx.bI (jY a f d):=by
 cases d with
 |zero=>exact Rx.wa
 |succ d=>exact Rx.mT _
def aa6(a d:V e):∀f,Z (jY a d f)<=f+Z d
 |0=>by simp[jY]
 |f+1=>by
  have l:=aa6 a d f;have g:=qN<|0::jY a d f;have m:Z (eF (E a (Z a-1-f) 0) d)<=Z d:=by have:=qN<|(bX<|Z d).map λi=>E a (Z a-1-f) 0*E d i 0;simpa[eF]using this
  have k:=qN<|(bX<|max (Z<|js<|jY a d f)<|Z<|eF (E a (Z a-1-f) 0) d).map λi=>E (js<|jY a d f) i 0+E (eF (E a (Z a-1-f) 0) d) i 0;rw[cy,mQ]at k;rw[ik]at g;have n:Z (jY a d<|f+1)<=max (Z<|js<|jY a d f) (Z<|eF (E a (Z a-1-f) 0) d):=k;have o:Z (js<|jY a d f)<=Z (jY a d f)+1:=g;omega
def amT{k}{a}(d:1<=k)(f:∀i,QS k (E a i 0)) i:QS k (E (0::a) i 0):=by
 cases i with
 |zero=>exact QS.zero d
 |succ i=>exact f i
def amU{k K}(x:1<=K)(s:2*k<=K)(y:K<=200000000000) a f(A:Z a<=12)(B:Z f<=100)(n:∀i,QS k (E a i 0))(o:∀i,QS k (E f i 0))(t:∀d,d<=Z a->∀i,QS K (E (jY a f d) i 0)):r q 34 [I .q a,I .q f] (I .q<|jY a f<|Z a):=by
 refine aI Tryz.func34 ?_;refine N J<|F<|fT .q [] J J (z J<|j<|N J ?_);refine eP (G8 1000000 J) ?_;refine au<|a8 (α:=Y) (λd=>⟨[(0,I .q a),(1,I .q f),(5,I .q<|jY a f d),(6,R<|(Z a:G)-1-d)],[],10,[]⟩) (λd=>d<=Z a) (λd=>Z a-d) 0 (aY _) (wk ⟨sR J,sR J,sE J J,sE J ?_,h⟩ h) ?_
 .exact be R O
 intro d C;refine j<|N J<|al J (λg=>?_)<|λg=>?_
 .have g:d<Z a:=by have g:(Z a:G)-1-(d:G)>=0:=aU g;omega
  have u:af ((Z a:G)-1-(d:G))=Z a-1-d:=O;have H:=aa6 a f d;have l:=E9 (k:=k) (E a (af<|(Z a:G)-1-(d:G)) 0) f O (n _) o O;have v:Z (eF (E a (af<|(Z a:G)-1-(d:G)) 0) f)<=Z f:=by have:=qN<|(bX<|Z f).map λi=>E a (af<|(Z a:G)-1-(d:G)) 0*E f i 0;simpa[eF]using this
  have p:Z (js<|jY a f d)<=Z (jY a f d)+1:=by have:=qN<|0::jY a f d;rwa[ik]at this
  have m:=Nn (k:=K) (js<|jY a f d) (eF (E a (af<|(Z a:G)-1-(d:G)) 0) f) O O (λi=>by rw[Tk];exact amT O (t d O) i) (λi=>by rw[B7];exact((n _).mul<|o i).le O) O;refine aD<|j<|au<|cu ?_;refine rc J J (Ti (jY a f d) O) ?_;refine rc J J l ?_ (hp:=aF);refine rc J J m<|z J<|eE<|aL<|rt J (hp:=aF)<|aT (d+1) g (O:Z a-(d+1)<Z a-d)<|wk ⟨sR J,sR J,sE J ?_,sE J ?_,h⟩ h
  .rw[u];rfl
  .exact be R O
 .have g:d=Z a:=by have g:¬(Z a:G)-1-(d:G)>=0:=a6 g;omega
  subst g;exact a7<|aL<|N J<|cw J
namespace Rx
def xR(M:Y)(a:G)(A:Rx):Prop:=∀i,∃z:G,aC z<=M/\(a:e)*A i=(z:e)
def Ht(M:Y)(A:Rx):Prop:=∃D:G,D≠0/\aC D<=M/\xR M D A
def zH{a:G}(d:a≠0):(a:e)≠0:=λf=>d<|Rat.intCast_eq_zero_iff.1 f
def xR.le{M a}{d}{A}(f:xR M d A)(k:M<=a):xR a d A:=λi=>by let ⟨z,g,h2⟩:=f i;exact⟨z,bm g k,h2⟩
def Ht.le{M a}{A}(d:Ht M A)(k:M<=a):Ht a A:=by let ⟨D,f,h2,g⟩:=d;exact⟨D,f,bm h2 k,g.le k⟩
def Ht.zero{M}(a:1<=M):Ht M 0:=⟨1,D,a,λ_=>⟨0,aY _,fH _⟩⟩
def Ht.qs{M s}{A}(l:Ht M A)(p:M<4294967296^s) i:QS s (A i):=by
 let ⟨D,m,g,n⟩:=l;let ⟨z,k,f⟩:=n i;have d:∀(D z:G),0<D->aC D<=M->aC z<=M->(D:e)*A i=(z:e)->QS s (A i):=by
  intro D z o g k f;have a:jI z D=A i:=by have t:=lU _<|zH (O:D≠0);rw[Np,zq,<-f];grind
  rw[<-a];exact M3 o (O:aC z<4294967296^s) (O:aC D<4294967296^s)
 rcases Int.lt_trichotomy D 0 with a|a|a
 .exact d (-D) (-z) O O O (by rw[IS,IS,<-f];grind)
 .exact absurd a m
 .exact d D z a g k f
def qO{a d}{M f}(g:aC a<=M)(k:aC d<=f):aC (a*d)<=M*f:=by rw[rQ];exact mL g k
def Ht.sub{M a}{A B}(f:Ht M A)(k:Ht a B):Ht (2*(M*a)) (A-B):=by
 let ⟨D,g,h2,l⟩:=f;let ⟨E,m,d,n⟩:=k;refine⟨D*E,zp g m,by have:=qO h2 d;omega,λi=>?_⟩;let ⟨z,o,p⟩:=l i;let ⟨w,s,t⟩:=n i;refine⟨z*E-D*w,?_,?_⟩
 .have u:=qO o d;have v:=qO h2 s;omega
 .rw[lO,fZ,Nq,fZ,fZ,<-p,<-t];grind
def Ht.bC{M n}{A}(d:Ht M A)(m:sz A<=n)(a:1<=n):Ht (n*M) (bC A):=by
 let ⟨D,f,h2,g⟩:=d;refine⟨D,f,by have:=mL a h2;omega,λi=>?_⟩;by_cases o:n<=i+1
 .exact⟨0,aY _,by rw[qL,mR O,fH,fH];rfl⟩
 .let ⟨z,k,l⟩:=g<|i+1;refine⟨((i+1:Y):G)*z,qO O k,?_⟩;rw[qL,fZ,<-l,r9];grind
def Ht.amV{M k}{A}(f:Ht M A)(g:A k≠0):Ht M (K (A k)⁻¹ *A):=by
 let ⟨D,l,h2,a⟩:=f;let ⟨w,m,d⟩:=a k;have n:w≠0:=λe=>by
  subst e;rcases zv.1 (d.trans Rat.intCast_zero)with e|e
  .exact zH l e
  .exact g e
 refine⟨w,n,m,λi=>?_⟩;let ⟨z,o,p⟩:=a i;refine⟨z,o,?_⟩;rw[fh,<-d,<-p];grind
def Ht.smul{M a}{A}{d}(g:Ht M A)(k:Ht a (K d)):Ht (M*a) (K d*A):=by let ⟨D,l,h2,m⟩:=g;let ⟨E,n,o,p⟩:=k;refine⟨D*E,zp l n,qO h2 o,λi=>?_⟩;let ⟨z,s,t⟩:=m i;let ⟨w,u,f⟩:=p 0;refine⟨z*w,qO s u,?_⟩;rw[mj,b J]at f;rw[fh,fZ,fZ,<-t,<-f];grind
def aa7{a b:V e}{n m M k:Y}(H:Z b=n+1)(L:Z a=n+m)(v:E b n 0≠0)(P:Ht M (lx a))(Q:Ht k (lx b)):∀d,d<=m->
  ∃f:G,f≠0/\aC f<=M*(2*k)^d/\xR (M*(2*k)^d) f (lx (dC (E b n 0)⁻¹ a b n m d).1)/\xR (M*(2*k)^d) f (lx (dC (E b n 0)⁻¹ a b n m d).2)
 |0,_=>by let ⟨f,T,h2,U⟩:=P;rw[po,qB];refine⟨f,T,h2,λi=>⟨0,aY _,?_⟩,U⟩;show(f:e)*E (bc m (0:e)) i 0=_;rw[Iv,fH];rfl
 |d+1,R=>by
  let ⟨f,d1,d2,d3,d4⟩:=aa7 H L v P Q d O;let ⟨y,W,c,K⟩:=Q;let ⟨β,A,s⟩:=K n;let ⟨_,q0,_⟩:=Tg H L v d O;let ⟨l1,l2⟩:=xJ (E b n 0)⁻¹ a b n m d;have B:β≠0:=λg=>by
   subst g;rcases zv.1 (s.trans Rat.intCast_zero)with g|g
   .exact zH W g
   .exact v g
  have p:(β:e)*(E b n 0)⁻¹ =(y:e):=by have s:(y:e)*E b n 0=(β:e):=s;rw[<-s];grind
  rw[dC,fO,<-pj];generalize dC (E b n 0)⁻¹ a b n m d=x at*;generalize M*(2*k)^d=X at*;let ⟨q,r⟩:=x;simp only at d3 d4 q0 l1 l2⊢;let ⟨t,t1,u⟩:=d4<|m-1-d+n;have u:(f:e)*E r (m-1-d+n) 0=(t:e):=u;have l:X*k<=X*(2*k):=fN X O;have h:X*(2*k)=X*k+X*k:=by rw[Nat.two_mul,vY]
  refine⟨f*β,zp d1 B,bm (qO d2 A) l,λi=>?_,λi=>?_⟩
  .rw[fX,BT i _ O];by_cases g:m-1-d=i
   .rw[gw g];refine⟨t*y,bm (qO t1 c) l,?_⟩;rw[fZ,fZ,<-u,<-p];grind
   .rw[w g];let ⟨z,C,o⟩:=d3 i;have o:(f:e)*E q i 0=(z:e):=o;refine⟨z*β,bm (qO C A) l,?_⟩;rw[fZ,fZ,<-o];grind
  .rw[IN _ O,eV,fh,nt];let ⟨z,C,o⟩:=d4 i;have S:=qO C A;by_cases g:m-1-d<=i
   .rw[gw g];let ⟨F,I,J⟩:=K<|i-(m-1-d);have e2:=qO t1 I;refine⟨z*β-t*F,O,?_⟩;rw[Nq,fZ,fZ,fZ,<-o,<-J,<-u,<-p];grind
   .rw[w g];refine⟨z*β,O,?_⟩;rw[fZ,fZ,<-o];grind
def xR.take{M}{d}{a}(f:xR M d (lx a)) n:xR M d (lx<|c n a):=λi=>by
 rw[fX,E8];split
 .exact f i
 .exact⟨0,aY _,fH _⟩
def Fa{a d}{t u}(s:bI d)(g:d≠[])(l:Ht (2^t) (lx a))(v:Ht (2^u) (lx d)):Ht (2^(t+(u+1)*(a.length+1-d.length))) (lx<|cM a d)/\Ht (2^(t+(u+1)*(a.length+1-d.length))) (lx<|cx a d)/\
  (d.length<=a.length->∀f,f<=a.length+1-d.length->Ht (2^(t+(u+1)*(a.length+1-d.length))) (lx (dC (d.getD (d.length-1) 0)⁻¹ a d (d.length-1) (a.length+1-d.length) f).2)):=by
 have x:=bQ.2 g
 unfold cM cx
 by_cases h:a.length<d.length
 .rw[b h,b h];refine⟨Ht.zero<|gQ D,l.le<|eQ D<|Nr _ _,λy=>absurd h O⟩
 .rw[w h,w h,tm,tm];have i:=aa7 (a:=a) (b:=d) (n:=d.length-1) (m:=a.length+1-d.length) O O (s.ne g) l v;have o:∀f,2^t*(2*2^u)^f=2^(t+(u+1)*f):=λf=>by rw[show 2*2^u=2^(u+1)by rw[fO,gG],<-EO,<-k4]
  let ⟨k,d1,d2,d3,d4⟩:=i _<|aO _;rw[o]at d2 d3 d4;refine⟨⟨k,d1,d2,d3⟩,⟨k,d1,d2,d4.take _⟩,λ_ f p=>?_⟩;let ⟨k,d1,d2,d3,d4⟩:=i f p;rw[o]at d2 d3 d4;exact Ht.le ⟨k,d1,d2,d4⟩<|eQ D<|Ns (fN _ p) _
def Tm{a}{M}(f:bI a)(k:Ht M (lx a)):Ht M (lx<|dr a):=by
 by_cases d:a=[]
 .subst d;rw[IQ];exact k
 .rw[uI d];exact k.amV (k:=Z a-1)<|f.ne d
def Nt n{k}(a:k<=n):2^k<=2^n:=eQ D a
def mU{t s}(a:t<32*s):2^t<4294967296^s:=by rw[(D:(4294967296:Y)=2^32),<-EO];exact Tn D a
def three{d}:1<=d->d+2<=3^d:=by
 intro h;induction d with
 |zero=>omega
 |succ d a=>
  by_cases e:d=0
  .subst e;decide
  .have:=a O;rw[fO];omega
def Nu{a d}(f:d≠[]):Z (dr<|cx a d)<Z d\/dr (cx a d)=[]:=by
 by_cases h:cx a d=[]
 .right;rw[h,IQ]
 .left;have:=pE (a:=a) f;unfold dr;rw[w h];refine vW (BW _) ?_;rw[rY,cy];exact this
def aa8{s:Y}:∀(k t:Y)(a f:V e),bI a->bI f->Z f<k->(f=[]\/Z f<Z a)->Z a<=500->Ht (2^t) (lx a)->Ht (2^t) (lx f)->(t+1)*3^Z a<=32*s->
  zt s k a f/\(∀i,QS s (E (fg k a f) i 0))/\Z (fg k a f)<=500
 |0,_,_,_,_,_,l,_,_,_,_,_=>by omega
 |k+1,t,a,f,y,o,L,m,la,hA,p,M=>by
  have A:0<3^Z a:=gQ D;have u:t<32*s:=by have:=fN (t+1) (show 1<=3^Z a from A);omega
  rw[zt,fg];split
  .rename_i g;exact⟨.inl g,λi=>hA.qs (mU u) i,la⟩
  .rename_i g;have m:=m.resolve_left g;have P:=bQ.2 g;let ⟨q1,v,B⟩:=Fa o g hA p;have C:t+(t+1)*(Z a+1-Z f)+1=(t+1)*(Z a-Z f+2):=by rw[(O:Z a+1-Z f=Z a-Z f+1),(O:Z a-Z f+2=Z a-Z f+1+1),vY (t+1) (Z a-Z f+1) 1];omega
   have Q:(t+1)*(Z a-Z f+2)*3^Z f<=(t+1)*3^Z a:=by have:=three (d:=Z a-Z f) O;rw[pj];refine fN _ ?_;refine bm (eC _ this) ?_;rw[<-k4,(O:Z a-Z f+Z f=Z a)];exact aO _
   have x:=qM (b:=f) y;have H:0<3^Z f:=gQ D;have n:t+(t+1)*(Z a+1-Z f)<32*s:=by have:=fN ((t+1)*(Z a-Z f+2)) (show 1<=3^Z f from H);omega
   let ⟨i1,i2,i3⟩:=aa8 (s:=s) k (t+(t+1)*(Z a+1-Z f)) f (dr<|cx a f) o (pJ _) (by rcases Nu (a:=a) g with l|l;omega;rw[l,nb];omega) ((Nu (a:=a) g).symm) O
    (p.le<|eQ D<|Nr _ _) (Tm x v) (by rw[C];omega)
   refine⟨.inr ⟨⟨la,O,o.ne g,λi=>p.qs (mU u) i,λj K i=>(B O j K).qs (mU n) i,λl=>x.ne l,λi=>v.qs (mU n) i⟩,i1⟩,i2,i3⟩
end Rx
open Rx
noncomputable def n5(L:V (Rx×Y)):Y->Y->V (Rx×G)
 |0,_=>[]
 |k+1,n=>(if 1<sz (pF (kP n) L)then[(pF (kP n) L,(n:G))]else[])++n5 L k (n+1)
def To{L:V (Rx×Y)}:∀(k:Y){n:Y},(∀x∈L,x.2<n)->n5 L k n=[]
 |0,_,_=>rfl
 |k+1,n,d=>by
  have f:pF (kP n) L=1:=Nk λx a=>w (by have:=d x a;omega)
  rw[n5,f,r7,w O,To k (λx a=>by have:=d x a;omega),iD]
def Tp{A:Rx}(a:2<=sz A):∀n,n+1<=sz (pk A n)
 |0=>by rw[show pk A 0=1 from J,r7];omega
 |n+1=>by
  have d:A≠0:=λe=>by rw[e,k8]at a;omega
  have f:=Tp a n;have g:pk A n≠0:=λe=>by rw[e,k8]at f;omega
  have:=eh g d;rw[pk];omega
def aa9{c:Y->Y}:∀{L:V (Rx×Y)}{x:Rx×Y},x∈L->pk x.1 (c x.2)∣pF c L
 |y::L,x,a=>by
  rw[pF];rcases b9.1 a with rfl|a
  .exact dvd_mul_right _ _
  .exact dw (aa9 a) _
def Tq{L}(a:FL L){x}(d:x∈L):x.2<sz (pF id L):=by have f:=jJ (aa9 (c:=id) d) (wh a.mo).ne;have g:=Tp (a.fI x d).1 x.2;have i:sz (pk x.1 x.2)<=sz (pF id L):=f;omega
end Go.El
namespace Go.El
open Go Go.Proofs Go.RowKit
def oE(a:e):V e:=fC [a]
def Ts a:r q 44 [aQ a] (I .q<|oE a):=by refine aI Tryz.func44 ?_;exact N J<|F<|rl .q [_] J J (rc J J (B5 [a] Tt)<|z J<|cw J)
def fQ(a d:V e):V e:=pK a<|eF ((-1:G):e) d
def Tu a d i:E (fQ a d) i 0=E a i 0-E d i 0:=by rw[fQ,No,B7,show(((-1:G)):e)= -1 from J];grind
def Tv{k}a d(n:Z a<=1000)(g:Z d<=1000)(o:∀i,QS k (E a i 0))(l:∀i,QS k (E d i 0))(m:1<=k)(v:k<=200000000000):r q 117 [I .q a,I .q d] (I .q<|fQ a d):=by
 have p:QS k (((-1:G)):e):=⟨(aH.one (a:= -1) D).le m,(aH.one (a:=1) D).le m⟩;have s:=E9 (((-1:G)):e) d g p l O;have t:∀i,QS k (E (eF ((-1:G):e) d) i 0):=λi=>by rw[B7,show(((-1:G)):e)*E d i 0= -(E d i 0)by rw[show(((-1:G)):e)= -1 from J];grind];exact(l i).neg
 have u:Z (eF ((-1:G):e) d)<=1000:=bm (BW _) (by simp;exact g);have f:=Nn a _ n u o t O;refine aI Tryz.func117 ?_;exact N J<|F<|rc J J (zb (-1) D D)<|rc J J s<|rc J J f<|z J<|cw J
def IT(a:V e)(d:a≠[])(f:Z a<=1000):r q 83 [I .q a] (aQ<|E a (Z a-1) 0):=by have g:=bQ.2 d;refine aI Tryz.func83 ?_;refine N J<|N J (hp:=aF)<|bU J ?_;rw[(O:Z a-1=af ((Z a:G)-1))];rfl
def aa'{k}a(i:a≠0)(f:QS k a)(l:k<=500000000000):r q 82 [aQ a] (.t [(true,av .q a⁻¹),(ah,[.I .i64 0])]):=by have e:jI (a.den:G) a.num=a⁻¹ :=(Rat.inv_def a).symm;have g:=SL (a.den:G) a.num (λe=>i<|v8 e) (f.d.sm O)<|f.n.sm O;rw[e]at g;refine aI Tryz.func82 ?_;exact N J<|bt J J g J<|cw J
def abb{a}(d:a≠[]):dr a=eF (E a (Z a-1) 0)⁻¹ a:=by refine Rx.oD (Rx.pJ a) (Rx.mT _) ?_;rw[Rx.uI d,B8]
def Nv{k}a(g:Z a<=1000)(f:∀i,QS k (E a i 0))(l:a≠[]->E a (Z a-1) 0≠0)(o:k<=200000000000):r q 29 [I .q a] (I .q<|dr a):=by
 refine aI Tryz.func29 ?_;refine N J<|j<|N J<|al J (λh=>?_)<|λh=>aD ?_
 .have h:(Z a:G)=0:=eq_of_beq h;rw[eT (by omega:Z a=0)];exact N J<|bL<|cK<|ig cv J<|bl.nil _
 .have d:a≠[]:=λe=>by subst e;cases h
  have n:=(f<|Z a-1).inv<|l d;have m:=E9 (E a (Z a-1) 0)⁻¹ a g n f O;rw[<-abb d]at m;exact F<|rc J J (IT a d g)<|rc J J (aa' _ (l d) (f _) O)<|z J<|bt J J m J<|cw J
def amW{k}a(u:Z a<=1000)(n:∀i,QS k (E a i 0))(l:1<=k)(v:k<=200000000000):r q 132 [I .q a] (I .q<|tf a):=by
 refine aI Tryz.func132 ?_;obtain⟨d,m⟩:∃d:Y->e,d=λi=>(((i+1:Y):G):e)*E a (i+1) 0:=⟨_,J⟩
 have o:tf a=(bX<|Z a-1).map d:=by rw[m];rfl
 rw[o];refine N J<|F<|fT .q [] J J (z J<|j<|N J ?_);refine au<|a8 (α:=Y) (λi=>⟨[(0,I .q a),(3,.c<|.X 1000000),(4,R ((i+1:Y):G))],[(1000000,.vec 44 .q<|(bX i).map d)],3,[]⟩) (λi=>i<=Z a-1) (λi=>Z a-i) 0 (aY _) aM ?_;intro i x;have p:Z ((bX i).map d)=i:=az;refine j<|N J<|al J (λf=>?_)<|λf=>?_
 .have f:i+1<Z a:=by have f:((i+1:Y):G)<(Z a:G):=aU f;omega
  have s:QS k ((((i+1:Y):G)):e):=⟨(aH.one (a:=((i+1:Y):G)) O).le l,(aH.one (a:=1) D).le l⟩;have g:=SM ((((i+1:Y):G)):e) (E a (af<|((i+1:Y):G)) 0) s (n _) O;have t:((((i+1:Y):G)):e)*E a (af<|((i+1:Y):G)) 0=d i:=by rw[m,bY]
  rw[t]at g;refine aD<|j<|au<|cu ?_;refine rc J J (zb ((i+1:Y):G) O O) ?_;refine rc J J g ?_ (hp:=aF);refine rl .q [d i] J J (ra J J J J J J J J J ?_ ?_<|z J ?_)
  .show(Z ((bX i).map d)+1+(Z ((bX i).map d)+1)/4+192)*64<=_;omega
  .show(Z ((bX i).map d)+1)*4<=_;omega
  refine bw<|rt J (hp:=aF)<|aT (i+1) (O:i+1<=Z a-1) nS<|Wk.trans (wk (st':=⟨[(0,I .q a),(3,.c<|.X 4009000),(4,R ((i+1+1:Y):G))],[(4009000,.vec 44 .q<|(bX<|i+1).map d)],20,[]⟩) (bO J) ⟨bE J ?_,h⟩)<|Wk.trans (fU 1000000 4009000 J J J) aM;rw[Tj]
 .have f:i=Z a-1:=by have f:¬((i+1:Y):G)<(Z a:G):=a6 f;omega
  subst f;exact nN<|rA<|ou<|nO<|aL<|cY 1000000 J J J<|N J<|bL<|atR J
open Rx
def Tw a i:E (oE a) i 0=if i=0 then a else 0:=by
 rw[oE,B6];cases i with
 |zero=>rfl
 |succ i=>simp
def Nw a:E (js a) 0 0=0:=by rw[Tk];rfl
def Nx a i:E (js a) (i+1) 0=E a i 0:=by rw[Tk];rfl
structure sa(a b:V e)(n m c:Y)(q r:V e):Prop where
 qc:bI q
 rc:bI r
 qg:∀i,q.getD i 0=if i<c-n then(dC (b.getD n 0)⁻¹ a b n m (c-n)).1.getD (a.length-c+i) 0 else 0
 rg:∀i,r.getD i 0=if i<min c n then(dC (b.getD n 0)⁻¹ a b n m (c-n)).2.getD (a.length-c+i) 0 else 0
def Tx{a}{n}(d:bI a)(g:∀i,n<=i->E a i 0=0):Z a<=n:=eZ λf=>by
 rcases d with d|d
 .rw[d]at f;exact f<|aY _
 .exact d<|g _ O
def amX{a:V e}{n}(d:E a n 0≠0):n<Z a:=eZ λf=>d<|iP a O
def abd a d:bI (pK a d):=mT _
def abe{inv:e}{a f:V e}{n m:Y}(g:Z a=n+m)(k:Z f=n+1):∀d,d<=m->∀i,i<m-d->(dC inv a f n m d).2.getD i 0=E a i 0
 |0,_,_,_=>rfl
 |d+1,l,i,o=>by rw[dC];show E (jz _ _ f<|m-1-d) i 0=_;rw[jz,uA (by rw[(xJ inv a f n m d).2];omega),w O];exact abe g k d O i O
def Ty(a:V e)(x:e):∀i,E (pK (js a)<|oE x) i 0=if i=0 then x else E a (i-1) 0
 |0=>by rw[No,Nw,Tw,b J,b J,Iw]
 |i+1=>by rw[No,Nx,Tw,w O,w O,oz];rfl
def sa.start a d n m:sa a d n m 0 [] []:=
 ⟨wa,wa,λi=>by rw[w O];rfl,λi=>by rw[w O];rfl⟩
section
variable{a b q r:V e}{n m c:Y}
def sa.r1(f:sa a b n m c q r)(g:Z b=n+1)(o:m=Z a-n)(p:c<Z a) i:
  E (pK (js r)<|oE<|E a (Z a-1-c) 0) i 0=if i<min (c+1) (n+1)then(dC (E b n 0)⁻¹ a b n m (c-n)).2.getD (Z a-(c+1)+i) 0 else 0:=by
 rw[Ty]
 have k:(dC (E b n 0)⁻¹ a b n m (c-n)).2.getD (Z a-(c+1)) 0=E a (Z a-1-c) 0:=by
  rw[(O:Z a-(c+1)=Z a-1-c)];by_cases l:c<n
  .rw[(O:c-n=0)];rfl
  .exact abe O g _ O _ O
 cases i with
 |zero=>rw[gw J,gw O,jy,k]
 |succ i=>
  rw[w O,eK,f.rg]
  by_cases d:i<min c n
  .rw[gw d,gw O,(O:Z a-(c+1)+(i+1)=Z a-c+i)]
  .rw[w d,w O]
def sa.step(u:sa a b n m c q r)(L:Z b=n+1)(M:m=Z a-n)(P:E b n 0≠0)(Q:c<Z a){s}(A:s=pK (js r) (oE<|E a (Z a-1-c) 0)):
  (Z s=n+1->sa a b n m (c+1) (pK (js q)<|oE<|E s n 0/E b n 0) (fQ s<|eF (E s n 0/E b n 0) b))/\(Z s≠n+1->sa a b n m (c+1) (js q) s)/\Z s<=n+1:=by
 have f:=u.r1 L M Q
 rw[<-A]at f
 have g:bI s:=by rw[A];exact abd _ _
 have K:Z s<=min (c+1) (n+1):=Tx g λi k=>by rw[f,w O]
 by_cases T:c<n
 .refine⟨λe=>O,λ_=>⟨mT _,g,λi=>?_,λi=>?_⟩,O⟩
  .rw[w O];cases i with
   |zero=>exact Nw q
   |succ i=>rw[Nx,u.qg,w O]
  .rw[f,(O:c+1-n=c-n)];by_cases k:i<c+1
   .rw[gw O,gw O]
   .rw[w O,w O]
 obtain⟨j,X⟩:∃j,c=n+j:=⟨c-n,O⟩
 have U:c-n=j:=O
 have l:c+1-n=j+1:=O
 have o:=u.qg
 rw[U]at f o
 have d:=xJ (E b n 0)⁻¹ a b n m j
 have v:dC (E b n 0)⁻¹ a b n m (j+1)=((dC (E b n 0)⁻¹ a b n m j).1.set (m-1-j)<|(dC (E b n 0)⁻¹ a b n m j).2.getD (m-1-j+n) 0*(E b n 0)⁻¹,jz (dC (E b n 0)⁻¹ a b n m j).2 (-((dC (E b n 0)⁻¹ a b n m j).2.getD (m-1-j+n) 0*(E b n 0)⁻¹)) b<|m-1-j):=rfl
 have p:E s n 0=(dC (E b n 0)⁻¹ a b n m j).2.getD (m-1-j+n) 0:=by rw[f,gw O,(O:Z a-(c+1)+n=m-1-j+n)]
 rw[<-p,<-zq]at v
 generalize ht:E s n 0/E b n 0=t at*
 have x:t*E b n 0=E s n 0:=by rw[<-ht,Rat.div_mul_cancel P]
 have B:∀i,E (pK (js q)<|oE t) i 0=if i<c+1-n then(dC (E b n 0)⁻¹ a b n m (c+1-n)).1.getD (Z a-(c+1)+i) 0 else 0:=λi=>by
  rw[Ty,l,v];show _=if i<j+1 then E ((dC (E b n 0)⁻¹ a b n m j).1.set (m-1-j) t) (Z a-(c+1)+i) 0 else 0
  rw[BT _ _ (by rw[d.1];omega)];cases i with
  |zero=>rw[gw J,gw O,gw O]
  |succ i=>
   rw[w O,eK,o]
   by_cases k:i<j
   .rw[gw k,gw O,w O,(O:Z a-(c+1)+(i+1)=Z a-c+i)]
   .rw[w k,w O]
 have C:∀i,E (fQ s<|eF t b) i 0=if i<min (c+1) n then(dC (E b n 0)⁻¹ a b n m (c+1-n)).2.getD (Z a-(c+1)+i) 0 else 0:=λi=>by
  rw[Tu,B7,l,v,f];show _=if i<min (c+1) n then E (jz (dC (E b n 0)⁻¹ a b n m j).2 (-t) b<|m-1-j) (Z a-(c+1)+i) 0 else 0
  by_cases k:i<n
  .rw[gw O,gw O,jz,uA (by rw[d.2];omega),gw O,(O:Z a-(c+1)+i-(m-1-j)=i)];grind
  .rw[w (by omega:¬i<min (c+1) n)];by_cases e:i=n
   .subst e;rw[gw O,x,f,gw O];grind
   .rw[w O,iP b O];grind
 refine⟨λ_=>⟨abd _ _,mT _,B,C⟩,λW=>?_,O⟩
 have y:E s n 0=0:=eZ λy=>by have:=amX y;omega
 have H:t=0:=by rw[<-ht,y,zq,rX]
 refine⟨mT _,g,λi=>?_,λi=>?_⟩
 .rw[<-B,Ty,H];cases i with
  |zero=>rw[Nw,gw J]
  |succ i=>rw[Nx,w O];rfl
 .rw[<-C,Tu,B7,H];grind
end
section
variable{a b q r:V e}{n m c:Y}
def amY(g:sa a b n m (Z a) q r)(o:Z b=n+1)(l:m=Z a-n):q=cM a b:=by
 have d:Z b-1=n:=O;have f:Z a+1-Z b=m:=O;refine oD g.qc (zD a b)<|ext λi=>?_;rw[fX,fX,g.qg,cM,d,f,<-l];by_cases k:i<m
 .rw[gw k,w O,B6,lH,ff]
 .rw[w k];split
  .rfl
  .rw[B6,iP _<|by rw[(xJ ..).1];omega]
def amZ(k:sa a b n m (Z a) q r)(p:Z b=n+1)(l:m=Z a-n)(o:bI a):r=cx a b:=by
 have d:Z b-1=n:=O;have f:Z a+1-Z b=m:=O;refine oD k.rc (qM o)<|ext λi=>?_;rw[fX,fX,k.rg,cx,d,f,<-l,lH,ff];by_cases hl:Z a<Z b
 .rw[gw hl];by_cases g:i<Z a
  .rw[gw O,(O:m=0)];rfl
  .rw[w O,iP a O]
 .rw[w hl,B6,E8];by_cases g:i<n
  .rw[gw O,gw g]
  .rw[w O,w g]
def abf{s:Y}(l:1<=s){inv:e}(f:QS s inv)(g:∀d,d<=m->∀i,QS s ((dC inv a b n m d).2.getD i 0)):∀d,d<=m->∀i,QS (2*s) ((dC inv a b n m d).1.getD i 0)
 |0,_,i=>by
  rw[dC,aK,lM];have:QS (2*s) 0:=QS.zero O;by_cases k:i<m
  .rw[gw k];exact this
  .rw[w k];exact this
 |d+1,o,i=>by
  rw[dC];show QS _ (E ((dC inv a b n m d).1.set _ _) i 0);rw[BT _ _ (by rw[(xJ ..).1];omega)];split
  .exact(g d O _).mul f
  .exact abf l f g d O i
def am0(d:bI a)(f:a≠[]):E a (Z a-1) 0≠0:=d.resolve_left f
end
def abg{s}(P:1<=s)(hs:s<=50000000000){a d}(hac:bI a)(Q:d≠[])(L:xK s a d):r q 121 [I .q a,I .q d] (.t [(ah,[.S .q (cM a d)]),(ah,[.S .q (cx a d)]),(ah,[.I .i64 0])]):=by
 have Lg:=bQ.2 Q;obtain⟨n,K⟩:∃n,Z d=n+1:=⟨Z d-1,O⟩;obtain⟨m,hm⟩:∃m,m=Z a-n:=⟨_,J⟩;have v:=L.bn;have M:=L.qS;rw[(O:Z d-1=n)]at v M;rw[(O:Z a+1-Z d=m)]at M;have la:=L.la;have lb:=L.lb;have qb:=L.qb;have qa:∀i,QS s (E a i 0):=M 0<|aY _;have T:QS s (E d n 0)⁻¹ :=(qb n).inv v;have hQ:=abf P T M;have U:∀{k:Y},1<=k->QS k (0:e):=λf=>QS.zero f
 have key:∀{c:Y}{p u:V e},c<=Z a->sa a d n m c p u->(∀i,QS (2*s) (E p i 0))/\(∀i,QS s (E u i 0))/\Z p<=500/\Z u<=500:=λ{c p u} hc g=>by
  refine⟨λi=>?_,λi=>?_,?_,?_⟩
  .rw[g.qg];split
   .exact hQ _ O _
   .exact U O
  .rw[g.rg];split
   .exact M _ O _
   .exact U P
  .have:=Tx (n:=c-n) g.qc λi hi=>by rw[g.qg,w O]
   omega
  .have:=Tx (n:=min c n) g.rc λi hi=>by rw[g.rg,w O]
   omega
 have W:∀{k:Y}{l:V e},1<=k->(∀i,QS k (E l i 0))->∀i,QS k (E (js l) i 0):=λ{k l} hk f i=>by
  cases i with
  |zero=>rw[Nw];exact U hk
  |succ i=>rw[Nx];exact f i
 have X:∀{k:Y}{x:e},1<=k->QS k x->∀i,QS k (E (oE x) i 0):=λ{k x} hk f i=>by
  rw[Tw];split
  .exact f
  .exact U hk
 have D:∀l:V e,Z (js l)<=Z l+1:=λl=>bm (BW _) Nm
 have sK:∀x:e,Z (oE x)<=1:=λx=>bm (BW _) Tt
 refine aI Tryz.func121 ?_;refine N J<|j<|N J<|al J (λf=>?_)<|λf=>aD ?_
 .have f:(Z d:G)=0:=eq_of_beq f;exact absurd f O
 refine F<|rl .q [] J J (z J<|F<|rl .q [] J J (z J<|j<|N J ?_));refine au<|a8 (α:=Y×V e×V e) (λy=>⟨[(0,I .q a),(1,I .q d),(7,I .q y.2.1),(8,I .q y.2.2),(9,R<|(Z a:G)-1-y.1)],[],20,[]⟩) (λy=>y.1<=Z a/\sa a d n m y.1 y.2.1 y.2.2) (λy=>Z a-y.1) (0,[],[]) ⟨aY _,sa.start a d n m⟩ (wk ⟨sR J,sR J,sR J,sR J,sE J ?_,h⟩ h) ?_
 .exact be R (O:(Z a:G)-1=(Z a:G)-1-(0:Y))
 rintro⟨c,p,u⟩ ⟨c1,g⟩;simp only at c1 g;let ⟨q1,r1,q2,r2⟩:=key c1 g;refine j<|N J<|al J (λf=>?_)<|λf=>?_
 .have f:c<Z a:=by have f:(Z a:G)-1-c>=0:=aU f;omega
  have ei:af ((Z a:G)-1-c)=Z a-1-c:=O;let ⟨S1,S2,S3⟩:=g.step K hm v f J;have A:∀i,QS s (E (pK (js u)<|oE<|E a (Z a-1-c) 0) i 0):=λi=>by
   rw[g.r1 K hm f];split
   .exact M _ O _
   .exact U P
  have B:=Ts<|E a (af<|(Z a:G)-1-c) 0;have C:=Nn (js u) (oE<|E a (af<|(Z a:G)-1-c) 0) (by have:=D u;omega) (by have:=sK<|E a (af<|(Z a:G)-1-c) 0;omega) (W P r1) (X P<|qa _) O;rw[ei]at B C;generalize hsE:pK (js u) (oE<|E a (Z a-1-c) 0)=S at*;rw[<-ei]at B C;refine aD<|j<|au<|F<|rc J J (Ti u O)<|rc J J B (rc J J C<|z J ?_) (hp:=aF);refine bt J J (Ti p O) J<|N J<|al J (λH=>?_)<|λH=>cP ?_
  .have H:(Z S:G)=(Z d:G):=eq_of_beq H;have o:Z S=n+1:=O;have hS0:S≠[]:=λdN=>by rw[dN]at o;cases o
   have hdv:=amd (E S (Z S-1) 0) (E d (Z d-1) 0) (λdN=>L.bn<|v8 dN) (A _) (qb _) O;rw[o,K,eK]at hdv;have Tz:=IT S hS0 O;have TA:=IT d Q O;rw[o,eK]at Tz;rw[K,eK]at TA;have hD:=S1 o;have ht:QS (2*s) (E S n 0/E d n 0):=by rw[zq];exact(A n).mul T
   generalize E S n 0/E d n 0=t at*;have B9:=E9 t d O ht (λi=>(qb i).le O) O;have Bs:=Tv (k:=4*s) S (eF t d) O (bm (BW _) b8) (λi=>(A i).le O) (λi=>by rw[B7];exact(ht.mul<|(qb i).le O).le O) O O;have Ny:=Nn (js p) (oE t) (by have:=D p;omega) (by have:=sK t;omega) (W O q1) (X O ht) O;refine F<|rc J J Tz<|rc J J TA<|rc J J hdv<|z J ?_;refine F<|rc J J B9<|rc J J Bs<|z J ?_;refine cu<|rc J J (Ts t)<|rc J J Ny<|z J ?_;refine bw<|rt J (hp:=aF)<|aT (c+1,pK (js p)<|oE t,fQ S<|eF t d) ⟨f,hD⟩ (O:Z a-(c+1)<Z a-c)<|wk ⟨sR J,sR J,sR J,sR J,sE J ?_,h⟩ h;exact be R (O:(Z a:G)-1-c-1=(Z a:G)-1-(c+1:Y))
  .have H:Z S≠n+1:=λdN=>by have H:(Z S:G)≠(Z d:G):=nV H;omega
   refine bw<|rt J (hp:=aF)<|aT (c+1,js p,S) ⟨f,S2 H⟩ (O:Z a-(c+1)<Z a-c)<|wk ⟨sR J,sR J,sR J,sR J,sE J ?_,h⟩ h;exact be R (O:(Z a:G)-1-c-1=(Z a:G)-1-(c+1:Y))
 .have f:c=Z a:=by have f:¬(Z a:G)-1-c>=0:=a6 f;omega
  subst f;rw[amY g K hm,amZ g K hm hac];exact a7<|aL<|N J<|cw J
def Nz{s}(i:1<=s)(k:s<=50000000000){a d}(f:bI a)(g:d≠[])(l:xK s a d):r q 116 [I .q a,I .q d] (I .q<|cM a d):=by refine aI Tryz.func116 ?_;exact N J<|bt J J (abg i k f g l) J<|N J<|cw J
def NA{s}(i:1<=s)(k:s<=50000000000){a d}(f:bI a)(g:d≠[])(l:xK s a d):r q 66 [I .q a,I .q d] (I .q<|cx a d):=by refine aI Tryz.func66 ?_;exact N J<|bt J J (abg i k f g l) J<|N J<|cw J
def am3{s}(y:1<=s)(A:s<=50000000000) k a d(B:bI a)(H:bI d)(L:zt s k a d)(M:Z (fg k a d)<=1000)(P:∀i,QS s (E (fg k a d) i 0)):r q 131 [I .q a,I .q d] (I .q<|dr<|fg k a d):=by
 refine aI Tryz.func131 ?_;refine N J<|j<|au<|a8 (α:=Y×V e×V e) (λx=>⟨[(0,I .q x.2.1),(1,I .q x.2.2)],[],2,[]⟩) (λx=>zt s x.1 x.2.1 x.2.2/\fg x.1 x.2.1 x.2.2=fg k a d/\bI x.2.1/\bI x.2.2) (λx=>x.1) (k,a,d) ⟨L,J,B,H⟩ aM ?_;rintro⟨n,f,g⟩ ⟨h2,l,t,o⟩;simp only at h2 l t o;refine j<|N J<|al J (λm=>?_)<|λm=>?_
 .have p:g≠[]:=λC=>by subst C;cases m
  clear m;cases n with
  |zero=>exact absurd h2 p
  |succ n=>
   rw[zt]at h2
   rcases h2 with h2|⟨h2,K⟩
   .exact absurd h2 p
   rw[fg,w p]at l
   have u:=NA y A t p h2
   have Q:=pE (a:=f) p
   have U:=h2.lb
   have v:=Nv (cx f g) O h2.qr h2.rn O
   refine cP<|aL<|au<|F<|rc J J u<|rc J J v<|z J<|N J<|rt J<|eE<|aT (n,g,dr<|cx f g) ⟨K,l,o,pJ _⟩ (dK n) aM
 .have m:g=[]:=by have m:¬(Z g:G)>0:=a6 m;exact eT O
  subst m;have l:f=fg k a d:=by
   cases n with
   |zero=>exact l
   |succ n=>rwa[fg,b J]at l
  rw[l]at t⊢;exact nN<|rA<|ou<|nO<|aL<|F<|rc J J (Nv _ M P (λT=>am0 t T) O)<|z J<|bL<|atR J
def Rx.Ht.mul{M a n}{A B}(l:Ht M A)(k:Ht a B)(P:sz A<=n)(m:1<=n):Ht (n*(M*a)) (A*B):=by
 let ⟨D,d,h2,o⟩:=l;let ⟨E,p,s,x⟩:=k;refine⟨D*E,zp d p,bm (qO h2 s)<|MN _ m,λi=>?_⟩;rw[fF];have f:∀t,∃z:G,aC z<=min t n*(M*a)/\((D*E:G):e)*sq (λj=>A j*B (i-j)) t=(z:e):=by
  intro t;induction t with
  |zero=>exact⟨0,aY _,by rw[sq];exact fH _⟩
  |succ t C=>
   let ⟨y,H,g⟩:=C
   by_cases c:t<n
   .let ⟨u,u1,u2⟩:=o t;let ⟨v,v1,v2⟩:=x<|i-t;refine⟨y+u*v,?_,?_⟩
    .have Q:=qO u1 v1;rw[(O:min (t+1) n=min t n+1),gO,jn];omega
    .rw[sq,aaP,g,Rat.intCast_add,fZ,fZ,<-u2,<-v2];grind
   .refine⟨y,by rw[(O:min (t+1) n=min t n)];exact H,?_⟩;have:A t=0:=mR O;rw[sq,this,rX,oz];exact g
 let ⟨z,K,L⟩:=f<|i+1;exact⟨z,bm K<|eC _<|Nat.min_le_right _ _,L⟩
def Rx.Ht.neg{M}{A}(a:Ht M A):Ht M (-A):=by let ⟨D,d,h2,f⟩:=a;refine⟨D,d,h2,λi=>?_⟩;let ⟨z,k,g⟩:=f i;exact⟨-z,O,by rw[EH,IS,<-g];grind⟩
def Rx.Ht.add{M a}{A B}(d:Ht M A)(k:Ht a B):Ht (2*(M*a)) (A+B):=by have:=Ht.sub d k.neg;rwa[sub_def,Rx.neg_neg]at this
structure Pz(n t:Y)(a:V e):Prop where
 can:bI a
 len:a.length<=n
 ht:Ht (2^t) (lx a)
def Pz.le{n m t u}{a}(d:Pz n t a)(f:n<=m)(g:t<=u):Pz m u a:=⟨d.can,bm d.len f,d.ht.le<|eQ D g⟩
def Pz.qs{n t s}{a}(d:Pz n t a)(f:t<32*s) i:QS s (E a i 0):=d.ht.qs (mU f) i
def Pz.nil n t:Pz n t []:=⟨wa,aY _,by rw[kE];exact Ht.zero<|gQ D⟩
def IU t u v:2^v*(2^t*2^u)=2^(t+u+v):=by rw[<-k4,<-k4];congr 1;omega
def Ca a d:lx (fQ a d)=lx a-lx d:=ext λi=>by rw[lO];exact Tu a d i
def Pz.sub{n m t u}{a d}(f:Pz n t a)(k:Pz m u d):Pz (max n m) (t+u+1) (fQ a d):=by
 refine⟨mT _,?_,?_⟩
 .have:=f.len;have:=k.len;refine bm (qN _) ?_;rw[cy,mQ];have g:=qN<|(bX<|Z d).map λi=>((-1:G):e)*E d i 0;rw[cy,mQ]at g;show max (Z a) (Z<|eF _ d)<=_;have:Z (eF ((-1:G):e) d)<=Z d:=g;omega
 .rw[Ca,<-IU];exact f.ht.sub k.ht
def Pz.qP{n t u}{a}{d}(f:Pz n t a)(k:Ht (2^u) (K d)):Pz n (t+u) (eF d a):=by
 refine⟨mT _,?_,?_⟩
 .have:=f.len;refine bm (qN _) ?_;rw[cy,mQ];omega
 .rw[B8,k4];exact f.ht.smul k
def ml(a d:V e):V e:=jY a d<|Z a
def uJ a d:lx (ml a d)=lx a*lx d:=by rw[ml,Tl a _ _<|aO _,lH,qu]
def zI a d:bI (ml a d):=amS a d<|Z a
def abi a:ml [] a=[]:=rfl
def abj a:ml a []=[]:=oD (zI _ _) wa (by rw[uJ,kE,Rx.mul_zero])
def am4{a d}(f:bI a)(g:bI d)(i:a≠[])(k:d≠[]):Z (ml a d)+1=Z a+Z d:=by have:=eh (B2 f i)<|B2 g k;rwa[<-uJ,fY<|zI a d,fY f,fY g]at this
def IV{a d}(g:bI a)(i:bI d):Z (ml a d)<=Z a+Z d-1:=by
 by_cases a0:a=[]
 .subst a0;rw[abi];exact aY _
 .by_cases f:d=[]
  .subst f;rw[abj];exact aY _
  .have:=am4 g i a0 f;omega
def Pz.mul{n m t u}{a f}(d:Pz n t a)(k:Pz m u f)(g:n<=16):Pz (n+m-1) (t+u+4) (ml a f):=by
 refine⟨zI a f,?_,?_⟩
 .have:=IV d.can k.can;have:=d.len;have:=k.len;omega
 .rw[uJ,<-IU];refine(d.ht.mul k.ht (n:=2^4) ?_ D);rw[fY d.can];have:=d.len;omega
def am5 a d:ml a d=ml d a:=oD (zI _ _) (zI _ _) (by rw[uJ,uJ,Rx.mul_comm])
def Pz.rem{n m t u d}{a f}(g:Pz n t a)(k:Pz m u f)(i:f≠[])(l:Z a+1-Z f<=d):Pz m (t+(u+1)*d) (cx a f):=
 ⟨qM g.can,bm (yv<|pE i) k.len,(Fa k.can i g.ht k.ht).2.1.le<|eQ D<|Ns (fN _ l) _⟩
def Pz.quo{n m t u d}{a f}(i:Pz n t a)(k:Pz m u f)(l:f≠[])(g:Z a+1-Z f<=d):Pz d (t+(u+1)*d) (cM a f):=
 ⟨zD _ _,bm (IP a f) g,(Fa k.can l i.ht k.ht).1.le<|eQ D<|Ns (fN _ g) _⟩
def Pz.aJ{n t}{a}(d:Pz n t a):Pz n t (dr a):=⟨pJ _,by rw[B4 d.can];exact d.len,Tm d.can d.ht⟩
def Pz.zJ{n m t u d s}{a f}(g:Pz n t a)(k:Pz m u f)(l:f≠[])(p:Z a+1-Z f<=d)(v:n<=500)(x:m<=500)(B:t+u+(u+1)*d<32*s):xK s a f:=by
 have q:=Fa k.can l g.ht k.ht;have le:2^(t+(u+1)*(Z a+1-Z f))<=2^(t+(u+1)*d):=eQ D<|Ns (fN _ p) _;have o:t+(u+1)*d<32*s:=O;refine⟨bm g.len v,bm k.len x,k.can.ne l,λi=>k.qs O i,λj y i=>?_,λA=>(qM g.can).ne A,λi=>(q.2.1.le le).qs (mU o) i⟩;by_cases hl:Z f<=Z a
 .exact((q.2.2 hl j y).le le).qs (mU o) i
 .have:j=0:=by omega
  subst this;exact g.qs O i
def TB{a d m}(f:bI a)(g:bI d)(i:bI m)(l:m≠[])(n:Z a<Z m)(o:Z d<Z m)(k:lx m∣lx a-lx d):a=d:=by refine oD f g<|E0<|uG k ?_;rw[fY i];have:=IB (lx a)<|lx d;rw[fY f,fY g]at this;omega
def NB{a m:V e}(d:bI m)(f:m≠[]):lx m∣lx (cx a m)-lx a:=by have h:=B3 (a:=a) d f;refine nz ?_;rw[h,Rx.uC];exact dvd_mul_left _ _
def am6{a d m}(i:bI a)(k:bI d)(g:bI m)(f:m≠[])(l:Z d<Z m)(n:lx m∣lx a-lx d):cx a m=d:=
 TB (qM i) k g f (pE f) l (lT (NB g f) n)
abbrev U8:ET:= .int .u8
abbrev RW:ET:= .pr I8<|.pr I8 U8
def k9(k:G):G:=4611686018427387904+k
def zK(x:G×G×G):G:=if x.2.2%8=7 then x.1*k9 x.2.2*k9 x.2.2+x.2.2 else x.1
def oF(d:G):G:=if d=0 then 1 else d
def wi(x:G×G×G):G:=if x.2.2%8=6 then oF x.2.1*k9 x.2.2*k9 x.2.2 else oF x.2.1
def qQ(x:G×G×G):e:=jI (zK x)<|wi x
def lj(x:G×G×G):Prop:=(-128<=x.1/\x.1<=127)/\(-128<=x.2.1/\x.2.1<=127)/\0<=x.2.2/\x.2.2<=255
def abk d:oF d≠0:=by unfold oF;split<;>omega
def abl{x}(a:lj x):0<k9 x.2.2/\k9 x.2.2<4611686018427388160:=by unfold k9;have:=a.2.2;omega
def abm{x}(a:lj x):wi x≠0:=by
 unfold wi;split
 .have:=(abl a).1;exact zp (zp (abk _) O) O
 .exact abk _
def IW{x}(a:lj x):aH 2 (k9 x.2.2):=by have:=abl a;unfold aH;omega
def TC{x}(a:lj x):aH 1 (oF x.2.1):=aH.one (by unfold oF;have:=a.2.1;split<;>omega)
def am7{x}(h:lj x):aH 6 (zK x):=by
 unfold zK;have d:aH 1 x.1:=aH.one BN;split
 .have f:=(d.mul<|IW h).mul<|IW h;have g:aH (1+2+2) x.2.2:=(aH.one (a:=x.2.2)<|by have:=h.2.2;omega).le D;exact f.add g
 .exact d.le D
def am8{x}(a:lj x):aH 6 (wi x):=by
 unfold wi;split
 .exact((TC a).mul<|IW a).mul (IW a)|>.le D
 .exact(TC a).le D
def am9 x(p:lj x):r q 38 [.a [.I .i8 x.1,.I .i8 x.2.1,.I .u8 x.2.2]] (aQ<|qQ x):=by
 refine aI Tryz.func38 ?_;have A:(if x.2.2%8=7 then x.1*k9 x.2.2*k9 x.2.2+x.2.2 else x.1)=zK x:=rfl;have C:(if x.2.2%8=6 then oF x.2.1*k9 x.2.2*k9 x.2.2 else oF x.2.1)=wi x:=rfl;have l:=IW p;have s:=TC p;have m:=M5 (zK x) (wi x) (abm p) ((am7 p).sm D)<|(am8 p).sm D;rw[show jI (zK x) (wi x)=qQ x from J]at m;generalize zK x=n at*;generalize wi x=d at*;generalize qQ x=X at*;obtain⟨o,i,k⟩:=x;let ⟨⟨j,E⟩,⟨d1,d2⟩,H,G⟩:=p;simp only at*;have t:=jq o O O;have u:=jq i O O;have v:r q 84 [R (4611686018427387904+k)] (aZ<|k9 k):=jq _ O O;have y:=jq k O O;have K:aH 1 o:=aH.one O;have L:aH 5 k:=(aH.one (a:=k) O).le D;have M:=kZ o (k9 k) (K.sm D)<|l.sm D;have Q:=kZ (o*k9 k) (k9 k) ((K.mul l).sm D)<|l.sm D;have T:=xq (o*k9 k*k9 k) k (((K.mul l).mul l).sm D)<|L.sm D;have U:=kZ (oF i) (k9 k) (s.sm D)<|l.sm D;have W:=kZ (oF i*k9 k) (k9 k) ((s.mul l).sm D)<|l.sm D;refine N J<|F<|rc J J t (rc J J u (z J ?_) (hp:=aF)) (hp:=aF);refine jH ⟨[(1,.c<|.P 0 0),(2,.c<|.P 1000 0),(3,.c<|.P 1008000 0),(4,.c<|.P 1009000 0)],[(0,.box 57 0 [.I .i8 o,.I .i8 i,.I .u8 k]),(1000,.box 44 0 [.B ah,.V<|.slice none 0 0,.B ah,.V<|.slice none 0 0]),(1008000,.box 42 0<|av .z o),(1009000,.box 42 0<|av .z<|oF i)],10,[]⟩ ?_<|λg=>N J<|al J (λf=>?_)<|λf=>cP ?_;rotate_left
 .have f:i=0:=eq_of_beq f;have e:oF i=1:=by rw[f];rfl
  rw[e]at g;exact cu<|rc J J (jq 1 D D)<|z J<|dB g aM
 .have f:i≠0:=by have f:(i==0)=ah:=f;exact ne_of_beq_false f
  have e:oF i=i:=w f;rw[e]at g;exact dB g aM
 refine F<|rc J J v (z J ?_) (hp:=aF);refine jH ⟨[(1,.c<|.P 0 0),(2,.c<|.P 1000 0),(3,.c<|.P 1008000 0),(4,.c<|.P 1009000 0),(5,.c<|.P 10005000 0)],[(0,.box 57 0 [.I .i8 o,.I .i8 i,.I .u8 k]),(1000,.box 44 0 [.B ah,.V<|.slice none 0 0,.B ah,.V<|.slice none 0 0]),(1008000,.box 42 0<|av .z n),(1009000,.box 42 0<|av .z<|oF i),(10005000,.box 42 0<|av .z<|k9 k)],20,[]⟩ ?_<|λg=>N J<|al J (λf=>?_)<|λf=>cP ?_;rotate_left
 .have f:k%8=7:=by have f:(k.tmod 8==7)=true:=f;rw[me H]at f;exact eq_of_beq f
  rw[b f]at A;subst A;exact cu<|rc J J M<|rc J J Q<|rc J J y (rc J J T<|z J<|dB g aM) (hp:=aF)
 .have f:¬k%8=7:=by have f:(k.tmod 8==7)=ah:=f;rw[me H]at f;exact ne_of_beq_false f
  rw[w f]at A;subst A;exact dB g aM
 refine jH ⟨[(2,.c<|.P 1000 0),(3,.c<|.P 1008000 0),(4,.c<|.P 1009000 0)],[(1000,.box 44 0 [.B ah,.V<|.slice none 0 0,.B ah,.V<|.slice none 0 0]),(1008000,.box 42 0<|av .z n),(1009000,.box 42 0<|av .z d)],30,[]⟩ ?_<|λg=>N J<|al J (λf=>?_)<|λf=>cP ?_;rotate_left
 .have f:k%8=6:=by have f:(k.tmod 8==6)=true:=f;rw[me H]at f;exact eq_of_beq f
  rw[b f]at C;subst C;exact cu<|rc J J U<|rc J J W<|z J<|dB g aM
 .have f:¬k%8=6:=by have f:(k.tmod 8==6)=ah:=f;rw[me H]at f;exact ne_of_beq_false f
  rw[w f]at C;subst C;exact dB g aM
 exact F<|rc J J m<|z J<|cw J
def iQ(x:G):e:=(x:e)
def wj(l:V G)(a:Y):V e:=fC<|(c (a+1) l).map iQ
def zL(x:V (G×G×G))(a:Y):V e:=fC<|(c (a+1) x).map qQ
def xS(x:G×G×G):G×G×G:=(x.1,x.2.1,0)
def oG(x:V (G×G×G))(a:Y):V e:=zL (x.map xS) a
def Cb{a g:Type}(f:a->g) d l i(k:i<Z l):((c (i+1) l).map f)=((c i l).map f)++[f (E l i d)]:=by rw[sH,fM];simp[cO k,aK]
def abn(l:V G)(a:Y)(g:a<=1000)(m:∀x∈l,-128<=x/\x<=127):r q 61 [I I8 l,R a] (I .q<|wj l a):=by
 refine aI Tryz.func61<|vJ 0 J λk=>?_;have k:Z l*1<=140737488355328:=k;refine N J<|F<|fT .q [] J J (z J<|j<|N J ?_);refine au<|a8 (α:=Y) (λi=>⟨[(0,I I8 l),(1,R a),(5,.c<|.X 1000000),(6,R i)],[(1000000,.vec 44 .q<|(c i l).map iQ)],3,[]⟩) (λi=>i<=Z l/\i<=a+1) (λi=>Z l-i) 0 ⟨aY _,aY _⟩ aM ?_;rintro i ⟨p,n⟩;refine j<|F<|rg 12 J J (λh=>?_)<|λh=>?_
 .have h:i<Z l:=by have h:(i:G)<(Z l:G):=aU h;omega
  refine z J<|al J (λh2=>?_)<|λh2=>?_
  .have h2:i<=a:=by have h2:(i:G)<=a:=aU h2;omega
   have d:=Cb iQ 0 l i h;have s:=m (E l i 0) TD;have o:r q 30 [R (E l (af (i:G)) 0)] (aQ<|iQ<|E l i 0):=by rw[bY];exact zb _ O O
   have t: -9223372036854775808<=E l (af (i:G)) I8.dE/\E l (af (i:G)) I8.dE<=9223372036854775807:=by rw[bY];show-9223372036854775808<=E l i 0/\E l i 0<=9223372036854775807;omega
   refine aD<|j<|au<|cu<|rc J J o (rl .q [iQ (E l i 0)] J J (ra J J J J J J J J J ?_ ?_<|z J<|bw<|rt J<|aT (i+1) ⟨O,O⟩ wm<|Wk.trans (wk (st':=⟨[(0,I I8 l),(1,R a),(5,.c<|.X 4008000),(6,R ((i+1:Y):G))],[(4008000,.vec 44 .q<|(c (i+1) l).map iQ)],6,[]⟩) ⟨sR J,sR J,sR J,sE J ?_,aX⟩ ⟨bE J ?_,aX⟩)<|Wk.trans (fU 1000000 4008000 J J J) aM)) (hp:=?_)
   .show(_+1+(_+1)/4+192)*64<=_;simp only[cy,eL];omega
   .show(_+1)*4<=_;simp only[cy,eL];omega
   .rfl
   .rw[d]
   .simp only[Pr.an,Pr.h,num,gT,true_and,and_true];first|done|omega
  .have h2:¬i<=a:=by have h2:¬(i:G)<=a:=a6 h2;omega
   have f:=B5 ((c i l).map iQ) zN;rw[show fC ((c i l).map iQ)=wj l a by rw[wj,(O:i=a+1)]]at f;exact a7<|aL<|cY 1000000 J J J<|bt J J f J<|cw J
 .have h:i=Z l:=by have h:¬(i:G)<(Z l:G):=a6 h;omega
  have f:=B5 ((c i l).map iQ) zN;rw[show fC ((c i l).map iQ)=wj l a by rw[wj,iY O,iY O]]at f;refine z J<|al J (λh2=>mM)<|λ_=>?_;exact a7<|aL<|cY 1000000 J J J<|bt J J f J<|cw J
end Go.El
namespace Go.El
open Go Go.Proofs Go.RowKit
def abo(a:V G){X:Y}(d:∀i,(E a i 0).natAbs<=X):∀i,mh a i<=i*X
 |0=>by simp[mh]
 |i+1=>by have:=abo a d i;have:=d i;rw[mh,gO];omega
def abp a{d}(f:∀i,aH d (E a i 0)){i}(g:i<=13):aH (d+1) ((mh a i:Y):G):=by unfold aH at*;have k:=abo a (λi=>yv<|f i) i;have l:=eC (4294967296^d) g;have m:=gQ (n:=d) (D:0<4294967296);rw[px,fO];omega
end Go.El
