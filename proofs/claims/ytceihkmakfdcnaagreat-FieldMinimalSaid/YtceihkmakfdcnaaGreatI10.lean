/- Own work; no condition. -/
import Derived.Test.YtceihkmakfdcnaaGreatI9
import Derived.Test.YtceihkmakfdcnaaGreatI8
import Derived.Test.YtceihkmakfdcnaaGreatI7
import Derived.Test.YtceihkmakfdcnaaGreatI4
import Derived.Test.YtceihkmakfdcnaaGreatI3
import Derived.Test.YtceihkmakfdcnaaGreatI6
set_option linter.all false
set_option maxHeartbeats 16000000
set_option maxRecDepth 100000
noncomputable section
open Bool renaming true->af,false->ak
open Classical renaming choose->zC
open Go.El renaming rr->e,cS->S,xe->F,iA->L,re->O,bA->h,cI->y,akB->R,rb->w
open Go.Proofs.Tryz renaming prog->r
open Int renaming natAbs->aD,toNat->ah
open List renaming getD->I,range->cy,length->Z,replicate->bt,take->c
open Nat renaming lt_or_gt_of_ne->are,div_div_eq_div_mul->arf,one_pos->H4,add_mul_div_right->arh,testBit->oa
open Option renaming some->ae
open Quotient renaming liftOn₂->arq,liftOn->ars
open _root_ renaming Nat->G,Int->V,List->E
namespace Go.El
open Go Go.Proofs Go.RowKit
def K4:∀(b a:G)(f:G->G),b<a->(∀i,i<a->f i<b)->∃i d,i<d/\d<a/\f i=f d
 |0,a,f,s,l=>aJ (l 0 s) Y
 |b+1,a,f,s,l=>by
  by_cases m:∃i,i<a/\f i=b
  .let ⟨i0,x,h2⟩:=m;by_cases t:∃i,i<a/\i≠i0/\f i=b
   .let ⟨i1,u,v,n⟩:=t;rcases are v with p|p
    .exact⟨i1,i0,p,x,by rw[n,h2]⟩
    .exact⟨i0,i1,p,u,by rw[n,h2]⟩
   .have k:∀i,i<a->i≠i0->f i<b:=λi g z=>by
     have:=l i g;have:f i≠b:=λm=>t ⟨i,g,z,m⟩
     omega
    let ⟨i,d,u,v,n⟩:=K4 b (a-1) (λi=>if i<i0 then f i else f (i+1)) Y λi g=>by
     split
     .exact k i Y Y
     .exact k (i+1) Y Y
    refine⟨if i<i0 then i else i+1,if d<i0 then d else d+1,?_,?_,?_⟩
    .split<;>split<;>omega
    .split<;>omega
    .split<;>split<;>simp_all
  .exact K4 b a f Y λi g=>by
    have:=l i g;have:f i≠b:=λA=>m ⟨i,g,A⟩
    omega
def afs{K:G}(l:0<K):∀(C i a:G),i<K^C->a<K^C->(∀b,b<C->i/K^b%K=a/K^b%K)->i=a
 |0,i,a,d,f,_=>by rw[pW]at d f;omega
 |C+1,i,a,d,f,g=>by
  have k:=g 0 Y;rw[pW,Nat.div_one,Nat.div_one]at k;have m:=afs l C (i/K) (a/K) (Ax<|by rwa[gK,ic]at d) (Ax<|by rwa[gK,ic]at f) λb n=>by have:=g (b+1) Y;rwa[gK,ic,<-arf,<-arf]at this
  rw[<-sU i K,<-sU a K,k,m]
def code(K:G)(v:G->G):G->G
 |0=>0
 |a+1=>code K v a+v a*K^a
def K5{K:G}(v:G->G):∀a,(∀b,b<a->v b<K)->code K v a<K^a
 |0,_=>H4
 |a+1,d=>by
  have g:=K5 v a λb i=>d b Y
  have f:=eB (K^a) (show v a+1<=K from d a Y);rw[fZ,hY]at f;rw[code,gK,ic (K^a) K];omega
def WJ{K:G}(v d:G->G):∀a,(∀b,b<a->v b<K)->(∀b,b<a->d b<K)->code K v a=code K d a->∀b,b<a->v b=d b
 |0,_,_,_,b,g=>aJ g Y
 |a+1,hv,hw,i,b,g=>by
  have l:=K5 v a λb g=>hv b Y
  have m:=K5 d a λb g=>hw b Y
  rw[code,code]at i;have f:0<K^a:=Y;have k:v a=d a:=by
   have n:(code K v a+v a*K^a)/K^a=v a:=by rw[arh _ _ f,Dt l,fc]
   have p:(code K d a+d a*K^a)/K^a=d a:=by rw[arh _ _ f,Dt m,fc]
   rw[<-n,<-p,i]
  by_cases e:b=a
  .rw[e];exact k
  .exact WJ v d a (λb g=>hv b Y) (λb g=>hw b Y) (by rw[k]at i;omega) b Y
def afu{f:G->V}{g:G->G}{X:G}:∀n,(∀i,i<n->(f i).natAbs<=g i*X)->(sm f n).natAbs<=sN g n*X
 |0,_=>by simp[sm]
 |n+1,a=>by
  have b:=afu n λi d=>a i Y
  have k:=a n Y;rw[sm,sN,fZ];omega
def afv(f g:G->V):∀k,sm (λi=>f i-g i) k=sm f k-sm g k
 |0=>rfl
 |k+1=>by simp only[sm,afv f g k];omega
def ari(l:G->G->V) d W(H:∀b,b<d->sN (λa=>aD<|l b a) (d+1)<=W)(N:1<=W):
  ∃x:G->V,(∃a,a<d+1/\x a≠0)/\(∀a,a<d+1->aD (x a)<=(2*W)^d)/\∀b,b<d->sm (λa=>l b a*x a) (d+1)=0:=by
 obtain⟨X,A⟩:∃X,X=(2*W)^d:=⟨_,J⟩
 let f:G->G->V:=λi a=>((i/(X+1)^a%(X+1):G):V)
 have m:∀i a,0<=f i a/\f i a<=X:=λi a=>by have:=gJ (i/(X+1)^a) (Y:0<X+1);show 0<=((i/(X+1)^a%(X+1):G):V)/\((i/(X+1)^a%(X+1):G):V)<=X;omega
 have n:∀i b,b<d->(sm (λa=>l b a*f i a)<|d+1).natAbs<=W*X:=λi b k=>by refine bZ (afu (g:=λa=>aD<|l b a) (X:=X) (d+1) λa _=>?_)<|eB X<|H b k;rw[pX];have:=m i a;exact ja _ Y
 let v:G->G->G:=λi b=>(sm (λa=>l b a*f i a) (d+1)+((W*X:G):V)).toNat
 have p:∀i b,b<d->v i b<2*W*X+1/\((v i b:G):V)=sm (λa=>l b a*f i a) (d+1)+((W*X:G):V):=λi b k=>by
  have t:=n i b k;have e:v i b=(sm (λa=>l b a*f i a) (d+1)+((W*X:G):V)).toNat:=rfl;have o:2*W*X=W*X+W*X:=by rw[tn,Nat.two_mul]
  generalize sm (λa=>l b a*f i a) (d+1)=s at*;rw[e];omega
 have u:(2*W*X+1)^d<(X+1)^(d+1):=by
  have t:2*W*X+1<=2*W*(X+1):=by rw[Bl,qG];omega
  have B:=zA t d;rw[Nat.mul_pow,<-A]at B;have C:X*(X+1)^d<(X+1)*(X+1)^d:=V3 Y<|ko Y;rw[gK,ic<|(X+1)^d];omega
 let ⟨i,j,t,B,C⟩:=K4 _ _ (λi=>code (2*W*X+1) (v i) d) u λi _=>K5 (v i) d λb k=>(p i b k).1
 have P:=WJ (v i) (v j) d (λb k=>(p i b k).1) (λb k=>(p j b k).1) C
 refine⟨λa=>f i a-f j a,?_,λa _=>?_,λb k=>?_⟩
 .refine eR λQ=>?_
  have:i=j:=afs (K:=X+1) Y (d+1) i j Y Y λa T=>by
   have z:f i a-f j a=0:=eR λz=>Q ⟨a,T,z⟩
   have q:((i/(X+1)^a%(X+1):G):V)-((j/(X+1)^a%(X+1):G):V)=0:=z;omega
  omega
 .have D:=m i a;have h:=m j a;show aD (f i a-f j a)<=_;rw[<-A];omega
 .have D:=(p i b k).2;have h:=(p j b k).2;have e:sm (λa=>l b a*(f i a-f j a)) (d+1)=sm (λa=>l b a*f i a) (d+1)-sm (λa=>l b a*f j a) (d+1):=by rw[<-afv];exact g7 λa _=>GN _ _ _
  rw[e];rw[P b k]at D;omega
def DO(f g:PS)(n b a:G):V:=if a<n then(if a<=b then f (b-a)else 0)else if a<2*n+1 then(if a-n<=b then g (b-(a-n))else 0)else(if b=0 then-1 else 0)
def afw(f:G->V)(a:G):∀b,sm f (a+b)=sm f a+sm (λi=>f<|a+i) b
 |0=>by simp[sm]
 |b+1=>by rw[<-sJ,sm,afw f a b,sm];omega
def afx{f:G->G}{m:G}:∀n,(∀i,i<n->f i<=m)->sN f n<=n*m
 |0,_=>by simp[sN]
 |n+1,a=>by
  have b:=afx n λi d=>a i Y
  have g:=a n Y;rw[sN,fZ,hY];omega
def arj{f g}{n}{B}(s:1<=B)(H:∀i,n+1<i->f i=0)(N:∀i,n<i->g i=0)(P:∀i,(f i).natAbs<=B)(Q:∀i,(g i).natAbs<=B):
  ∃(u v:PS)(D:V),(∀i,n<=i->u i=0)/\(∀i,n+1<=i->v i=0)/\u*f+v*g=PS.K D/\aD D<=(2*((2*n+2)*B))^(2*n+1)/\(D=0->v=0->u=0->False)/\∀i,aD (v i)<=(2*((2*n+2)*B))^(2*n+1):=by
 let ⟨x,⟨c0,I,h2⟩,t,C⟩:=ari (DO f g n) (2*n+1) ((2*n+2)*B) (λr _=>afx _ λc _=>by
  unfold DO;split
  .split
   .exact P _
   .exact bm _
  .split
   .split
    .exact Q _
    .exact bm _
   .split
    .exact s
    .exact bm _) (by have:=jQ (Y:1<=2*n+2) s;omega)
 refine⟨λi=>if i<n then x i else 0,λi=>if i<n+1 then x (n+i)else 0,x (2*n+1),λi b=>j Y,λi b=>j Y,?_,t _ Y,?_,λi=>?_⟩
 .refine PS.ext λr=>?_
  have z:∀(h A:PS)(m k:G),(∀i,m<=i->A i=0)->(A*h) k=sm (λc=>(if c<=k then h (k-c)else 0)*A c) m:=λh A m k T=>by
   rw[PS.fV];have W:∀d,sm (λc=>(if c<=k then h (k-c)else 0)*A c) (k+1+d)=sm (λc=>(if c<=k then h (k-c)else 0)*A c) (k+1):=λd=>by
    induction d with
    |zero=>rfl
    |succ d l=>rw[<-sJ,sm,l,j Y,ox,tf]
   have X:∀d,sm (λc=>(if c<=k then h (k-c)else 0)*A c) (m+d)=sm (λc=>(if c<=k then h (k-c)else 0)*A c) m:=λd=>by
    induction d with
    |zero=>rfl
    |succ d l=>rw[<-sJ,sm,l,T _ Y,iy,tf]
   rw[<-X (k+1),IK m,W m];exact g7 λc a=>by rw[q Y,fo]
  rw[PS.dP,z f _ n r<|λi b=>j Y,z g _ (n+1) r<|λi b=>j Y];by_cases hr:r<2*n+1
  .have p:=C r hr;rw[(Y:2*n+1+1=n+(n+1)+1),sm,afw]at p;have o:sm (λc=>DO f g n r c*x c) n=sm (λc=>(if c<=r then f (r-c)else 0)*(if c<n then x c else 0)) n:=g7 λc a=>by rw[DO,q a,q a]
   have w:sm (λi=>DO f g n r (n+i)*x (n+i)) (n+1)=sm (λc=>(if c<=r then g (r-c)else 0)*(if c<n+1 then x (n+c)else 0)) (n+1):=g7 λc a=>by rw[DO,j Y,q Y,q a,Kk]
   rw[o,w,DO,j Y,j Y]at p;rw[PS.K,(Y:2*n+1=n+(n+1))];split at p
   .rename_i e;rw[q e];omega
   .rename_i e;rw[j e];omega
  .rw[PS.K,j Y,sa λc a=>?_,sa λc a=>?_]
   .rfl
   .split
    .exact(bl (·*_)<|N _ Y).trans<|ox _
    .rw[ox]
   .split
    .exact(bl (·*_)<|H _ Y).trans<|ox _
    .rw[ox]
 .intro y E F;refine h2 ?_;by_cases c1:c0<n
  .have:=congrFun F c0;rwa[q c1]at this
  .by_cases J:c0<2*n+1
   .have:=congrFun E<|c0-n;rwa[q Y,(Y:n+(c0-n)=c0)]at this
   .rw[(Y:c0=2*n+1)];exact y
 .show aD (if i<n+1 then x (n+i)else 0)<=_;split
  .exact t _ Y
  .exact bm _
def ark{f g}{n}{B}(a:1<=B)(b:∀i,n+1<i->f i=0)(d:∀i,n<i->g i=0)(k:∀i,(f i).natAbs<=B)(l:∀i,(g i).natAbs<=B):
  ∃(u v:PS)(D:V),(∀i,n<=i->u i=0)/\(∀i,n+1<=i->v i=0)/\u*f+v*g=PS.K D/\aD D<=(2*((2*n+2)*B))^(2*n+1)/\(D=0->v=0->u=0->False):=
 let ⟨u,v,D,m,h2,p,s,t,_⟩:=arj a b d k l
 ⟨u,v,D,m,h2,p,s,t⟩
def afy{D:G}:∀{l:E G},l.Nodup->(∀p∈l,eo p/\p∣D)->tG l∣D
 |[],_,_=>Nat.one_dvd D
 |p::l,t,f=>by
  let ⟨u,h2⟩:=Af.1 t;have i:=afy h2 λq k=>f q (by simp[k])
  have g:=(f p ax).1;have v:Nat.Coprime p (tG l):=g.coprime λd=>by
   have m:∀{l:E G},(∀q∈l,eo q/\q∣D)->p∣tG l->p∈l:=by
    intro l;induction l with
    |nil=>intro _ d;have x:=g.1;have:=uG H4 d;omega
    |cons q l i=>
     intro n d
     rcases g.dvd_mul (a:=q) (b:=tG l) d with e|e
     .rcases(n q ax).1.GZ e with s|s
      .have x:=g.1;omega
      .rw[s];simp
     .have:=i (λr z=>n r<|by simp[z]) e;simp[this]
   exact u<|m (λq k=>f q<|by simp[k]) d
  exact v.mul_dvd_of_dvd_of_dvd (f p ax).2 i
def arl:tF.Nodup:=by
 have h:(tF.zip<|tF.drop 1).all (λx=>Nat.blt x.1 x.2)=af:=e9;have f:∀(l:E G),(l.zip<|List.drop 1 l).all (λx=>Nat.blt x.1 x.2)=af->l.Pairwise (·<·):=by
  intro l;induction l with
  |nil=>intro _;exact .nil
  |cons a l i=>
   intro h
   cases l with
   |nil=>exact WK _ _
   |cons b l=>
    have h:(((a,b)::((b::l).zip l)).all λx=>Nat.blt x.1 x.2)=af:=h
    rw[List.all_cons,cG]at h
    have g:=i h.2
    refine kI.2 ⟨λc k=>?_,g⟩
    have d:a<b:=cQ h.1
    rcases b9.1 k with e|e
    .rw[e];exact d
    .exact Nat.lt_trans d<|(kI.1 g).1 c e
 exact(f tF h).imp λh=>Nat.ne_of_lt h
def zB:G:=2^3089
def arn:Nat.ble (zB+1) (tG tF)=af:=e9
def afz{a b}(d:Nat.ble (a+1) b=af):a<b:=Nat.lt_of_succ_le<|cQ d
def aro:zB<tG tF:=afz arn
def arp{l}(b:l.Nodup)(d:∀p∈l,eo p)(f:zB<tG l){D}(s:D≠0)(g:aD D<=zB):∃p∈l,¬(p:V)∣D:=eR λi=>by
 have k:=afy (D:=aD D) b λp a=>⟨d p a,WL.1<|eR λm=>i ⟨p,a,m⟩⟩
 have n:=uG Y k;exact aJ g<|Nat.not_le_of_lt<|fY f n
def WM(p:V):Setoid {A:PS//bC p A}:=⟨λA B=>Cg p A.1 B.1,⟨λA=>Cg.refl p A.1,Cg.symm,Cg.trans⟩⟩
def Fx(p:V):Type:=Quotient<|WM p
namespace Fx
variable{p:V}
def mk(A:PS)(a:bC p A):Fx p:=Quotient.mk (WM p) ⟨A,a⟩
def mk_eq{A B}{a:bC p A}{k:bC p B}:mk A a=mk B k↔Cg p A B:=⟨λe=>Quotient.exact e,λe=>Quotient.sound (s:=WM p) e⟩
def ex x:∃A,∃a:bC p A,x=mk A a:=by refine Quotient.inductionOn x<|λA=>?_;exact⟨A.1,A.2,J⟩
instance:Add (Fx p):=⟨λx y=>arq x y (λA B=>mk (A.1+B.1)<|A.2.add B.2)<|λ_ _ _ _ h k=>mk_eq.2<|Cg.add h k⟩
instance:Mul (Fx p):=⟨λx y=>arq x y (λA B=>mk (A.1*B.1)<|A.2.mul B.2)<|λ_ _ _ _ h k=>mk_eq.2<|Cg.mul h k⟩
instance:Neg (Fx p):=⟨λx=>ars x (λA=>mk (-A.1) A.2.neg)<|λ_ _ h=>mk_eq.2<|Cg.neg h⟩
instance:_root_.Sub (Fx p):=⟨λx y=>x+ -y⟩
instance:OfNat (Fx p) 0:=⟨mk 0<|bC.zero p⟩
instance:OfNat (Fx p) 1:=⟨mk 1<|bC.one p⟩
def afA{A B}{a:bC p A}{k:bC p B}:mk A a+mk B k=mk (A+B) (a.add k):=rfl
def afB{A B}{a:bC p A}{k:bC p B}:mk A a*mk B k=mk (A*B) (a.mul k):=rfl
def jU{A B:PS}(a:A=B)(b:bC p A)(k:bC p B):mk A b=mk B k:=mk_eq.2<|Cg.of_eq a
def js(x a:Fx p):x+a=a+x:=by obtain⟨A,h,rfl⟩:=ex x;obtain⟨B,k,rfl⟩:=ex a;exact jU (PS.js A B) _ _
def jR(x a z:Fx p):x+a+z=x+(a+z):=by obtain⟨A,h,rfl⟩:=ex x;obtain⟨B,k,rfl⟩:=ex a;obtain⟨C,l,rfl⟩:=ex z;exact jU (PS.jR A B C) _ _
def c8(x a:Fx p):x*a=a*x:=by obtain⟨A,h,rfl⟩:=ex x;obtain⟨B,k,rfl⟩:=ex a;exact jU (PS.c8 A B) _ _
def c9(x a z:Fx p):x*a*z=x*(a*z):=by obtain⟨A,h,rfl⟩:=ex x;obtain⟨B,k,rfl⟩:=ex a;obtain⟨C,l,rfl⟩:=ex z;exact jU (PS.c9 A B C) _ _
def fE(x a z:Fx p):x*(a+z)=x*a+x*z:=by obtain⟨A,h,rfl⟩:=ex x;obtain⟨B,k,rfl⟩:=ex a;obtain⟨C,l,rfl⟩:=ex z;exact jU (PS.fE A B C) _ _
def gh(x a z:Fx p):(x+a)*z=x*z+a*z:=by rw[c8,fE,c8 z x,c8 z a]
def im(x:Fx p):0+x=x:=by obtain⟨A,h,rfl⟩:=ex x;exact jU (PS.im A) ((bC.zero p).add h) h
def fq(x:Fx p):x+0=x:=by rw[js,im]
def cY(x:Fx p):1*x=x:=by obtain⟨A,h,rfl⟩:=ex x;exact jU (PS.cY A) ((bC.one p).mul h) h
def fv(x:Fx p):x*1=x:=by rw[c8,cY]
def dw(x:Fx p):0*x=0:=by obtain⟨A,h,rfl⟩:=ex x;exact jU (PS.dw A) ((bC.zero p).mul h)<|bC.zero p
def g8(x:Fx p):x*0=0:=by rw[c8,dw]
def kT(x:Fx p):x+ -x=0:=by obtain⟨A,h,rfl⟩:=ex x;exact jU (PS.kT A) (h.add h.neg)<|bC.zero p
def qO(x:Fx p): -x+x=0:=by rw[js,kT]
def eY(x a:Fx p):x-a=x+ -a:=rfl
instance:Std.Associative (α:=Fx p) (·+·):=⟨jR⟩
instance:Std.Commutative (α:=Fx p) (·+·):=⟨js⟩
instance:Std.Associative (α:=Fx p) (·*·):=⟨c9⟩
instance:Std.Commutative (α:=Fx p) (·*·):=⟨c8⟩
def DI{x a z:Fx p}(b:x+a=x+z):a=z:=by have:=bl (-x+·) b;simpa only[<-jR,qO,im]using this
def lE(x a:Fx p):x-a+a=x:=by rw[eY,jR,qO,fq]
def zm(x a:Fx p):x+a-a=x:=by rw[eY,jR,kT,fq]
def KI{x a z:Fx p}(b:x+a=z):x=z-a:=by rw[<-b,zm]
def sub_eq{x a z:Fx p}(b:x=z+a):x-a=z:=by rw[b,zm]
def sub_self(x:Fx p):x-x=0:=kT x
def sub_zero(x:Fx p):x-0=x:=sub_eq (fq x).symm
def Bo{x a:Fx p}(b:x-a=0):x=a:=by rw[<-lE x a,b,im]
def qT(x a z:Fx p):(x-a)*z=x*z-a*z:=KI (by rw[<-gh,lE])
def mul_sub(x a z:Fx p):x*(a-z)=x*a-x*z:=by rw[c8,qT,c8 a,c8 z]
def neg_mul(x a:Fx p): -x*a= -(x*a):=DI (x:=x*a) (by rw[<-gh,kT,kT,dw])
def mul_neg(x a:Fx p):x* -a= -(x*a):=by rw[c8,neg_mul,c8]
def neg_sub(x a:Fx p): -(x-a)=a-x:=DI (x:=x-a) (by rw[kT,eY,eY];have:x+ -a+(a+ -x)=(x+ -x)+(-a+a):=fF;rw[this,kT,qO,fq])
def KJ(x a z:Fx p):(x-a)+(a-z)=x-z:=by rw[eY,eY,eY];have:x+ -a+(a+ -z)=x+ -z+(-a+a):=fF;rw[this,qO,fq]
def PT(x b z a:Fx p):(x+b)-(z+a)=(x-z)+(b-a):=sub_eq (by have:x-z+(b-a)+(z+a)=(x-z+z)+(b-a+a):=fF;rw[this,lE,lE])
instance:Dvd (Fx p):=⟨λa b=>∃w,b=w*a⟩
def oD(a:Fx p):a∣a:=⟨1,(cY a).symm⟩
def uI(a:Fx p):a∣0:=⟨0,(dw a).symm⟩
def fG{a b d:Fx p}(f:a∣b)(k:b∣d):a∣d:=by obtain⟨w,rfl⟩:=f;obtain⟨v,rfl⟩:=k;exact⟨v*w,(c9 v w a).symm⟩
def jd(a b:Fx p):a∣b*a:=⟨b,J⟩
def nU(a b:Fx p):a∣a*b:=⟨b,c8 a b⟩
def eW{a b}(f:a∣b)(d:Fx p):a∣d*b:=fG f<|jd b d
def nj{a b}(f:a∣b)(d:Fx p):a∣b*d:=fG f<|nU b d
def iI{a b d:Fx p}(f:a∣b)(k:a∣d):a∣b+d:=by obtain⟨w,rfl⟩:=f;obtain⟨v,rfl⟩:=k;exact⟨w+v,(gh w v a).symm⟩
def dvd_neg{a b:Fx p}(d:a∣b):a∣-b:=by obtain⟨w,rfl⟩:=d;exact⟨-w,(neg_mul w a).symm⟩
def dvd_sub{a b d:Fx p}(f:a∣b)(k:a∣d):a∣b-d:=iI f<|dvd_neg k
def zn{a b d:Fx p}(f:a∣b+d)(k:a∣b):a∣d:=by have:=dvd_sub f k;rwa[js b d,zm]at this
def oE{a b d:Fx p}(f:a∣b-d):a∣d-b:=by rw[<-neg_sub];exact dvd_neg f
def mH{a b f d:Fx p}(g:a∣b-f)(k:a∣f-d):a∣b-d:=by rw[<-KJ b f d];exact iI g k
def Ha{a b f d g:Fx p}(i:a∣b-f)(k:a∣d-g):a∣(b+d)-(f+g):=by rw[PT];exact iI i k
def nk{a b f d g:Fx p}(i:a∣b-f)(k:a∣d-g):a∣b*d-f*g:=by
 have:b*d-f*g=(b-f)*d+f*(d-g):=by rw[qT,mul_sub,KJ]
 rw[this];exact iI (nj i d)<|eW k f
def kA(a b:Fx p):a∣b-b:=by rw[sub_self];exact uI a
def pk(a:Fx p):G->Fx p
 |0=>1
 |n+1=>pk a n*a
def se(a:Fx p):pk a 1=a:=cY a
def Bp(a:Fx p)(m:G):∀n,pk a (m+n)=pk a m*pk a n
 |0=>(fv _).symm
 |n+1=>by rw[<-sJ,pk,pk,Bp a m n,c9]
def wz(a:Fx p)(m:G):∀n,pk a (m*n)=pk (pk a m) n
 |0=>rfl
 |n+1=>by rw[Nat.mul_succ,Bp,pk,wz a m n]
def wA(a b:Fx p):∀n,pk (a*b) n=pk a n*pk b n
 |0=>(cY 1).symm
 |n+1=>by rw[pk,pk,pk,wA a b n];ac_rfl
def DJ:∀n,pk (1:Fx p) n=1
 |0=>rfl
 |n+1=>by rw[pk,DJ n,cY]
def afC{n}(a:0<n):pk (0:Fx p) n=0:=by obtain⟨m,rfl⟩:∃m,n=m+1:=⟨n-1,Y⟩;rw[pk,g8]
def K6{a b d:Fx p}(f:a∣b-d):∀n,a∣pk b n-pk d n
 |0=>kA a 1
 |n+1=>nk (K6 f n) f
def P7{A:PS}(a:bC p A):∀n(k:bC p (pw A n)),mk (pw A n) k=pk (mk A a) n
 |0,_=>rfl
 |n+1,k=>by
  have b:bC p (pw A n):=by
   clear k;induction n with
   |zero=>exact bC.one p
   |succ n d=>exact d.mul a
  rw[pk,<-P7 a n b,afB];rfl
def P8{A:PS}(a:bC p A):∀n,bC p (pw A n)
 |0=>bC.one p
 |n+1=>(P8 a n).mul a
def K(a:V):Fx p:=mk (PS.K a)<|bC.K p a
def Bt k:bC p (PS.X k):=⟨_,aqu p k⟩
def X:Fx p:=mk (PS.X 1)<|Bt 1
def fx(a:E V):Fx p:=mk (ps a)<|bC.ps p a
def dL a b:(K (a*b):Fx p)=K a*K b:=jU (PS.Bj a b) _ _
def kV:(K 0:Fx p)=0:=jU PS.kV _ _
def jE:(K 1:Fx p)=1:=rfl
def DP{a b}(d:a%p=b%p):(K a:Fx p)=K b:=mk_eq.2<|Cg.K d
def Ww{a b}(d:(K a:Fx p)=K b):a%p=b%p:=(mk_eq.1 d).at 0
def afD(a:V):∀n,pk (K a:Fx p) n=K (a^n)
 |0=>by rw[qN,jE];rfl
 |n+1=>by rw[pk,afD a n,gG,dL]
def lG:(fx []:Fx p)=0:=jU DH _ _
def DQ:(fx [1]:Fx p)=1:=jU PK _ _
def WN a:(fx [a]:Fx p)=K a:=jU (PS.ext λi=>by
 cases i with
 |zero=>rfl
 |succ i=>rfl) _ _
def art b a:ps (b::a)=PS.K b+PS.X 1*ps a:=PS.ext λi=>by
 rw[PS.dP,PS.kU];cases i with
 |zero=>rw[j Y];show b=PS.K b 0+0;rw[PS.K,q J];omega
 |succ i=>rw[q Y];show I a i 0=PS.K b (i+1)+I a i 0;rw[PS.K,j Y];omega
def K7 b a:(fx (b::a):Fx p)=K b+X*fx a:=jU (art b a) _ _
def P9{a b}(d:Cg p (ps a) (ps b)):(fx a:Fx p)=fx b:=mk_eq.2 d
def xW a b:(fx (cX a b p):Fx p)=fx a*fx b:=mk_eq.2<|G5 a b p
def Hk a:(fx (aU a):Fx p)=fx a:=jU (sd a) _ _
def afE a:(fx (md p a):Fx p)=fx a:=mk_eq.2<|aeK p a
def WO a b:(fx (aU<|gU a b p):Fx p)=fx a-fx b:=(show mk _ (bC.ps p _)=mk _ ((bC.ps p a).sub<|bC.ps p b)from mk_eq.2<|aeO a b p).trans<|jU (PS.eY _ _) _<|(bC.ps p a).add (bC.ps p b).neg
def wG{a b}(d:bJ p a)(f:bJ p b)(g:(fx a:Fx p)=fx b):a=b:=PJ d f<|mk_eq.1 g
def afF{a b}(d:(fx a:Fx p)=fx b) i:I a i 0%p=I b i 0%p:=(mk_eq.1 d).at i
def jS(b:0<p)(A:Fx p):∃a,bJ p a/\fx a=A:=by
 obtain⟨A,⟨n,f⟩,rfl⟩:=ex A;have d:∀i,I ((cy n).map λi=>A i%p) i 0=if i<n then A i%p else 0:=λi=>by
  rw[aO,jn];by_cases e:i<n
  .rw[q e,lp e];rfl
  .rw[j e,jB b6];rfl
 refine⟨aU<|(cy n).map λi=>A i%p,mh b<|λi=>?_,?_⟩
 .rw[d];split
  .exact⟨jq _ Y,jr _ b⟩
  .exact⟨iD _,b⟩
 .rw[Hk];refine mk_eq.2<|Cg.of λi=>?_;rw[cM,d];split
  .rw[nT]
  .rw[f i Y,iH]
open Classical in
def sz(A:Fx p):G:=if h:∃a,bJ p a/\fx a=A then Z (zC h)else 0
def dc{a}(d:bJ p a):sz (fx a:Fx p)=Z a:=by have h:∃b,bJ p b/\(fx b:Fx p)=fx a:=⟨a,d,J⟩;unfold sz;rw[dif_pos h];have f:=xN h;rw[wG f.1 d f.2]
def Bu{n}(f:0<p){A}(b:bC p A)(g:Dl p n A):sz (mk A b)<=n:=by let ⟨a,d,e⟩:=jS f<|mk A b;rw[<-e,dc d];exact d.len<|g.cg (mk_eq.1 e).symm
def PV(b:0<p) a:sz (fx a:Fx p)<=Z a:=Bu b _<|me p a
def je(a:0<p):sz (0:Fx p)=0:=by rw[<-lG,dc<|tx a];rfl
def Hb(b:0<p) a:sz (K a:Fx p)<=1:=Bu b _<|We p a
def Hc(d:0<p){A:Fx p}(b:sz A=0):A=0:=by obtain⟨a,f,rfl⟩:=jS d A;rw[dc f]at b;rw[gA b,lG]
def fe(a:0<p){A:Fx p}(b:A≠0):0<sz A:=by
 rcases r8 (sz A)with e|e
 .exact aJ (Hc a e) b
 .exact e
def xO(d:0<p)(A B:Fx p):sz (A+B)<=max (sz A) (sz B):=by obtain⟨a,f,rfl⟩:=jS d A;obtain⟨b,g,rfl⟩:=jS d B;rw[dc f,dc g];exact Bu d _<|((me p a).le Y).add<|(me p b).le Y
def Wy(b:0<p)(A:Fx p):sz (-A)<=sz A:=by obtain⟨a,d,rfl⟩:=jS b A;rw[dc d];exact Bu b _ (me p a).neg
def Hd(a:0<p)(A B:Fx p):sz (A-B)<=max (sz A) (sz B):=by have b:=xO a A<| -B;have d:=Wy a B;rw[eY];omega
end Fx
structure bF(p:G):Prop where
 hp:eo p
 le:p<=2147483648
def bF.pos{p}(H:bF p):(0:V)<(p:V):=DR
def bF.one{p}(H:bF p):(1:V)%(p:V)=1:=by have:=H.hp.1;exact ix o Y
namespace Fx
variable{p:G}
def pY(H:bF p):(1:Fx p)≠0:=λe=>by rw[<-jE,<-kV]at e;have:=Ww e;rw[H.one,iH]at this;cases this
def tC(H:bF p){c}(a:c%(p:V)≠0):∃d,(K d*K c:Fx p)=1:=by have b:=jq c (show(p:V)≠0 by have:=H.pos;omega);have f:=jr c H.pos;have e:(K c:Fx p)=K (c%(p:V)):=DP (by rw[nT]);refine⟨((jD (ah<|c%(p:V)) (ah ((p:G):V)):G):V),?_⟩;rw[e,<-dL,<-jE];refine DP ?_;rw[fo,G7 H.hp H.le b f a,H.one]
def tD(H:bF p){a}(f:a%(p:V)≠0):(K a:Fx p)≠0:=λe=>by let ⟨d,b⟩:=tC H f;rw[e,g8]at b;exact pY H b.symm
def dV(H:bF p){A B:Fx p}(t:A≠0)(u:B≠0):sz (A*B)+1=sz A+sz B:=by
 obtain⟨a,g,rfl⟩:=jS H.pos A;obtain⟨b,i,rfl⟩:=jS H.pos B;have v:=fe H.pos t;have x:=fe H.pos u;rw[dc g]at v⊢;rw[dc i]at x⊢;obtain⟨n,k⟩:∃n,Z a=n+1:=⟨Z a-1,Y⟩;obtain⟨m,l⟩:∃m,Z b=m+1:=⟨Z b-1,Y⟩;have d:=me (p:V) a;have f:=me (p:V) b;rw[k]at d⊢;rw[l]at f⊢;have z:=Bu H.pos ((bC.ps (p:V) a).mul<|bC.ps p b)<|d.mul f;rw[<-xW,dc<|oB H.pos a b];have s:=Bm H.hp d f (g.top k)<|i.top l;have C:=(G5 a b (p:V)).at (n+m);have D:Z (cX a b (p:V))<=n+(m+1):=by have e:sz (fx (cX a b p):Fx p)=Z (cX a b p):=dc<|oB H.pos a b;rw[xW]at e;rw[<-e];exact z
 by_cases e:Z (cX a b (p:V))<=n+m
 .exfalso;rw[<-C,cM,fQ _ e,iH]at s;exact s J
 .omega
def oA(H:bF p){A B:Fx p}(a:A≠0)(b:B≠0):A*B≠0:=λe=>by have h:=dV H a b;rw[e,je H.pos]at h;have d:=fe H.pos a;have f:=fe H.pos b;omega
def zq(H:bF p){A B C:Fx p}(a:A≠0)(b:B*A=C*A):B=C:=by
 refine Bo ?_;refine eR λd=>?_
 exact oA H d a (by rw[qT,b,sub_self])
def pn(H:bF p):sz (1:Fx p)=1:=by have a:=Hb H.pos 1 (p:=(p:V));have b:=fe H.pos<|pY H;rw[jE]at a;omega
def He(H:bF p){A:Fx p}(f:sz A=1):∃b:V,b%(p:V)≠0/\A=K b:=by
 obtain⟨a,d,rfl⟩:=jS H.pos A;rw[dc d]at f;match a,f,d with
 |[b],_,d=>exact⟨b,d.top (n:=0) J,WN b⟩
def xP(H:bF p){A}(a:sz A=1):∃B:Fx p,B*A=1:=by obtain⟨c,b,rfl⟩:=He H a;let ⟨d,f⟩:=tC H b;exact⟨_,f⟩
def zr(H:bF p){A B:Fx p}(a:B*A=1):sz A=1:=by
 have b:A≠0:=λe=>pY H (by rw[<-a,e,g8])
 have d:B≠0:=λe=>pY H (by rw[<-a,e,dw])
 have f:=dV H d b;rw[a,pn H]at f;have g:=fe H.pos b;have i:=fe H.pos d;omega
def dvd_one(H:bF p){A:Fx p}(a:A∣1):sz A=1:=by let ⟨w,hw⟩:=a;exact zr H hw.symm
def kX(H:bF p){A B:Fx p}(d:A∣B)(a:B≠0):sz A<=sz B:=by
 obtain⟨w,rfl⟩:=d;have b:w≠0:=λe=>a KM
 have f:A≠0:=λe=>a (by rw[e,g8])
 have g:=dV H b f;have pw:=fe H.pos b;omega
def uJ(H:bF p){A B:Fx p}(a:A∣B)(b:sz B<sz A):B=0:=
 eR λd=>by have:=kX H a d;omega
def PW(H:bF p) A{B:Fx p}(k:B≠0):∃Q f,A=Q*B+f/\sz f<sz B:=by
 obtain⟨a,g,rfl⟩:=jS H.pos A;obtain⟨b,i,rfl⟩:=jS H.pos B;have d:b≠[]:=λe=>k (by rw[e,lG])
 let ⟨d1,d2,d3,d4,d5,d6⟩:=nh H.hp H.le g.1 i d;refine⟨fx (aV a b p).1,fx (aV a b p).2,mk_eq.2 d1,?_⟩;rw[dc i,dc<|d5 g];have:=cR.2 d;omega
def DK(H:bF p):∀(n:G)(A B:Fx p),sz B<n->∃D b a,D∣A/\D∣B/\D=b*A+a*B
 |0,_,_,k=>by omega
 |n+1,A,B,k=>by
  by_cases f:B=0
  .subst f;exact⟨A,1,0,oD A,uI A,by rw[cY,g8,fq]⟩
  .let ⟨Q,d,g,h2⟩:=PW H A f;let ⟨D,b,a,i,l,m⟩:=DK H n B d Y;refine⟨D,a,b-a*Q,?_,i,?_⟩
   .rw[g];exact iI (eW i Q) l
   .rw[m,g,fE,qT];have:a*(Q*B)+a*d+(b*B-a*Q*B)=(b*B-a*Q*B+a*Q*B)+a*d:=fF;rw[this,lE]
def Co(A B:Fx p):Prop:=∃U V,U*A+V*B=1
def Co.symm{A B:Fx p}(a:Co A B):Co B A:=by let ⟨U,V,a⟩:=a;exact⟨V,U,by rw[js];exact a⟩
def aru{a b}:Co (fx a:Fx p) (fx b)↔zj p (ps a) (ps b):=by
 constructor
 .rintro⟨U,V,h⟩;obtain⟨U,d,rfl⟩:=ex U;obtain⟨V,f,rfl⟩:=ex V;exact⟨U,V,d,f,mk_eq.1 (h:mk _ ((d.mul<|bC.ps p a).add<|f.mul<|bC.ps p b)=mk 1 (bC.one p))⟩
 .rintro⟨U,V,d,f,h⟩;exact⟨mk U d,mk V f,mk_eq.2 h⟩
def Co.dvd{A B C:Fx p}(a:Co A B)(k:A∣B*C):A∣C:=by
 let ⟨U,V,a⟩:=a;have:C=C*U*A+V*(B*C):=by have b:C*(U*A)+C*(V*B)=C*U*A+V*(B*C):=fF;rw[<-b,<-fE,a,fv]
 rw[this];exact iI (jd A _)<|eW k V
def Co.arv{A B C:Fx p}(b:Co A B)(a:A∣C)(kb:B∣C):A*B∣C:=by obtain⟨w,rfl⟩:=kb;rw[c8 w B]at a;obtain⟨v,rfl⟩:=b.dvd a;exact⟨v,fF⟩
def Co.mul{A B C:Fx p}(a:Co A B)(k:Co A C):Co A (B*C):=by
 let ⟨U,V,a⟩:=a;let ⟨b,d,k⟩:=k;refine⟨U*b*A+U*(d*C)+V*B*b,V*d,?_⟩;have:(U*A+V*B)*(b*A+d*C)=1:=by rw[a,k,cY]
 rw[<-this];simp only[fE,gh];ac_rfl
def Co.unit{A B:Fx p}(H:bF p)(a:Co A B)(k:A∣B):sz A=1:=by let ⟨U,V,a⟩:=a;exact dvd_one H<|a▸iI (jd A U) (eW k V)
def bw(Q:Fx p):Prop:=2<=sz Q/\∀A B,Q=A*B->sz A=1\/sz B=1
def bw.ne{Q:Fx p}(H:bF p)(a:bw Q):Q≠0:=λe=>by have:=a.1;rw[e,je H.pos]at this;omega
def bw.or{Q}(H:bF p)(b:bw Q)(A:Fx p):Q∣A\/Co Q A:=by
 let ⟨D,U,V,d,h2,f⟩:=DK H _ Q A<|dO _;let ⟨w,hw⟩:=d;rcases b.2 _ _ hw with e|e
 .let ⟨B,a⟩:=xP H e;left;refine fG ⟨B,?_⟩ h2;rw[hw,<-c9,a,cY]
 .let ⟨B,a⟩:=xP H e;right;refine⟨B*U,B*V,?_⟩;rw[<-a,f,fE,c9,c9]
def bw.zs{Q:Fx p}(H:bF p)(a:bw Q):¬Q∣1:=λe=>by have:=dvd_one H e;have:=a.1;omega
def bw.nW{Q}(H:bF p)(a:bw Q){A B:Fx p}(k:Q∣A*B):Q∣A\/Q∣B:=by
 rcases a.or H A with e|e
 .exact .inl e
 .exact .inr<|e.dvd k
def uK(H:bF p):∀(n:G)(A:Fx p),sz A<n->2<=sz A->∃Q,bw Q/\Q∣A
 |0,_,k,_=>by omega
 |n+1,A,k,h2=>by
  by_cases b:bw A
  .exact⟨A,b,oD A⟩
  .have:∃B C,A=B*C/\¬(sz B=1\/sz C=1):=eR λl=>b ⟨h2,λB C e=>eR λd=>l ⟨B,C,e,d⟩⟩
   let ⟨B,C,e,d⟩:=this;have f:A≠0:=λe=>by rw[e,je H.pos]at h2;omega
   have g:B≠0:=λa=>f (by rw[e,a,dw])
   have i:C≠0:=λa=>f (by rw[e,a,g8])
   have m:=dV H g i;rw[<-e]at m;have t:=fe H.pos g;have u:=fe H.pos i;let ⟨Q,hQ,s⟩:=uK H n B Y Y;exact⟨Q,hQ,by rw[e];exact nj s C⟩
def Hf(H:bF p){A B:Fx p}(d:A≠0)(f:∀Q,bw Q->Q∣A->Q∣B->False):Co A B:=by
 let ⟨D,U,V,a,h2,g⟩:=DK H _ A B<|dO _;have i:D≠0:=λe=>by let ⟨w,hw⟩:=a;rw[e,g8]at hw;exact d hw
 have l:=fe H.pos i;by_cases e:sz D=1
 .let ⟨C,k⟩:=xP H e;refine⟨C*U,C*V,?_⟩;rw[<-k,g,fE,c9,c9]
 .let ⟨Q,hQ,b⟩:=uK H _ D (dO _) Y;exact(f Q hQ (fG b a)<|fG b h2).elim
def Kx(H:bF p)(A B:Fx p):pk (A+B) p=pk A p+pk B p:=by obtain⟨A,a,rfl⟩:=ex A;obtain⟨B,b,rfl⟩:=ex B;rw[afA,<-P7 (a.add b) _ (P8 (a.add b) _),<-P7 a _ (P8 a _),<-P7 b _ (P8 b _),afA];exact mk_eq.2<|H.hp.Kx A B
def G0(H:bF p) b:pk (K b:Fx p) p=K b:=by have d:=jq b (show(p:V)≠0 by have:=H.pos;omega);let ⟨a,f⟩:=Dy d;have e:(K b:Fx p)=K (a:V):=DP (by rw[<-f,nT]);rw[e,afD];exact DP<|H.hp.G0 a
def P'(H:bF p)(A B:Fx p):∀i,pk (A+B) (p^i)=pk A (p^i)+pk B (p^i)
 |0=>by simp only[pW,se]
 |i+1=>by rw[gK,wz,wz,wz,P' H A B i,Kx H]
def WQ(H:bF p)(a:V):∀i,pk (K a:Fx p) (p^i)=K a
 |0=>se _
 |i+1=>by rw[gK,wz,WQ H a i,G0 H]
def ev:E (Fx p)->Fx p->Fx p
 |[],_=>1
 |b::cs,a=>b+a*ev cs a
def afG(a:Fx p):∀(d:E (Fx p))(f:Fx p),∃g:E (Fx p),Z g=Z d/\∀b,ev (f::d) b=ev (f::d) a+(b-a)*ev g b
 |[],f=>⟨[],J,λb=>by show f+b*1=f+a*1+(b-a)*1;rw[fv,fv,fv,jR,js a,lE]⟩
 |i::d,f=>by let ⟨g,h1,h2⟩:=afG a d i;refine⟨ev (i::d) a::g,zw,λb=>?_⟩;show f+b*ev (i::d) b=f+a*ev (i::d) a+(b-a)*(ev (i::d) a+b*ev g b);rw[h2 b];generalize ev (i::d) a=w;generalize ev g b=v;rw[fE,fE,jR f,<-jR (a*w),<-gh a,js a,lE];congr 2;ac_rfl
def roots(H:bF p){Q:Fx p}(hQ:bw Q):∀(f:E (Fx p))(g:E (Fx p)),Z f<Z g->(∀d∈g,Q∣ev f d)->g.Pairwise (λa b=>¬Q∣a-b)->False
 |_,[],i,_,_=>by simp at i
 |[],d::_,_,i,_=>hQ.zs H<|i d ax
 |t::f,n::g,hl,i,hp=>by
  let ⟨ds,v,h2⟩:=afG n f t;let ⟨l,m⟩:=kI.1 hp;have u:=i n ax;have k:Z ds<Z g:=by simp only[iK]at hl;omega
  refine roots H hQ ds g k (λd hy=>?_) m;have s:=i d qD;rw[h2 d]at s;rcases hQ.nW H (zn s u)with e|e
  .exact aJ (oE e)<|l d hy
  .exact e
termination_by f=>Z f
decreasing_by simp only[iK];omega
def afH(a:Fx p):∀m,ev (bt m 0) a=pk a m
 |0=>rfl
 |m+1=>by rw[Aw,ev,afH a m,im,pk,c8]
def arw m(a:Fx p):ev (0:: -1::bt m 0) a=pk a (m+2)-a:=by rw[ev,ev,afH,im,fE,mul_neg,fv,pk,pk,eY,js];congr 1;ac_rfl
def oW(p:G):G->G->E V
 |0,_=>[]
 |n+1,k=>((k%p:G):V)::oW p n (k/p)
def afI(p:G):∀n k,Z (oW p n k)=n
 |0,_=>rfl
 |n+1,k=>by rw[oW,iK,afI p n]
def NB{p:G}(a:0<p):∀n k l,k<p^n->l<p^n->(∀i,I (oW p n k) i 0%(p:V)=I (oW p n l) i 0%(p:V))->k=l
 |0,k,l,b,d,_=>by rw[pW]at b d;omega
 |n+1,k,l,b,d,f=>by
  have g:=f 0;simp only[oW,List.getD_cons_zero]at g;have m:k%p=l%p:=by have:=gJ k a;have:=gJ l a;rw[ix Y Y,ix Y Y]at g;omega
  have s:=NB a n (k/p) (l/p) (Ax<|by rw[ic,<-gK];exact b) (Ax<|by rw[ic,<-gK];exact d) (λi=>by simpa only[oW,Vr]using f (i+1));rw[<-sU k p,<-sU l p,m,s]
def afJ(H:bF p){Q:Fx p}{i:G}(a:Q∣pk X (p^i)-X):∀l:E V,Q∣pk (fx l) (p^i)-fx l
 |[]=>by rw[lG,afC<|ko DR,sub_self];exact uI Q
 |b::l=>by rw[K7,P' H,WQ H,wA];exact Ha (kA Q _)<|nk a<|afJ H a l
def afK(H:bF p){Q:Fx p}(hQ:bw Q){i}(n:0<i)(D:i+1<sz Q):¬Q∣pk X (p^i)-X:=λh=>by
 have s:=H.hp.1;have d:0<p:=Y;have t:2<=p^i:=bZ s (by rw[<-Nat.pow_one p,<-G4,hY];exact eU d n);have u:p^i<p^(i+1):=WR Y Y;obtain⟨m,f⟩:∃m,p^i=m+2:=⟨p^i-2,Y⟩;refine roots H hQ (0:: -1::bt m 0) ((cy<|p^i+1).map λk=>fx<|oW p (i+1) k) (by simp[f]) (λy v=>?_) ?_
 .rw[arw,<-f];obtain⟨k,_,rfl⟩:=kf.1 v;exact afJ H h _
 .refine Hl.2<|Qa ?_ Mc;intro a b g l x z;have g:=ru.1 g;have l:=ru.1 l;have A:=uJ H z (by have K:=Hd H.pos (fx (oW p (i+1) a):Fx p)<|fx<|oW p (i+1) b;have B:=PV H.pos<|oW p (i+1) a;have C:=PV H.pos<|oW p (i+1) b;rw[afI]at B C;omega);have:=NB d (i+1) a b Y Y<|λj=>afF (Bo A) j;omega
end Fx
namespace Fx
variable{p:G}
def sk(a:Fx p):Prop:=∀Q,bw Q->¬Q*Q∣a
def sk.of_dvd{a b:Fx p}(d:sk a)(k:b∣a):sk b:=λQ hQ f=>d Q hQ<|fG f k
def zt{A B C D:Fx p}(a:A∣B)(k:C∣D):A*C∣B*D:=by obtain⟨w,rfl⟩:=a;obtain⟨v,rfl⟩:=k;exact⟨w*v,fF⟩
def wD(H:bF p){a}(b:a%(p:V)≠0):sz (K a:Fx p)=1:=by let ⟨d,f⟩:=tC H b;exact zr H f
end Fx
def qU(A:PS):PS:=λi=>((i:V)+1)*A (i+1)
def arx{p}{A B}(a:Cg p A B):Cg p (qU A) (qU B):=Cg.of λi=>by show((i:V)+1)*A (i+1)%p=((i:V)+1)*B (i+1)%p;rw[sb,a.at,<-sb]
def zD{p}{A}(a:bC p A):bC p (qU A):=by let ⟨n,a⟩:=a;exact⟨n,λi b=>PD<|a (i+1) Y⟩
def nX(p:G)(a:E V)(k:G):E V:=(cy k).map λj=>I a (j*p) 0
def DS(p:G)(a:E V):PS:=λi=>if i%p=0 then I a (i/p) 0 else 0
namespace Fx
variable{p:G}
def bG(A:Fx p):Fx p:=ars A (λA=>mk (qU A.1)<|zD A.2)<|λ_ _ h=>mk_eq.2<|arx h
def KN(x a:Fx p):bG (x+a)=bG x+bG a:=by obtain⟨A,h,rfl⟩:=ex x;obtain⟨B,k,rfl⟩:=ex a;exact jU (PS.ext λi=>by show((i:V)+1)*(A (i+1)+B (i+1))=_;rw[pU];rfl) _ _
def Hg a:bG (K a:Fx p)=0:=jU (PS.ext λi=>by show((i:V)+1)*PS.K a (i+1)=0;rw[PS.K,j Y,iy]) _ _
def Wz:bG (0:Fx p)=0:=by have h:=Hg (p:=p) 0;rwa[kV]at h
def Hh a(x:Fx p):bG (K a*x)=K a*bG x:=by obtain⟨A,h,rfl⟩:=ex x;exact jU (PS.ext λi=>by show((i:V)+1)*(PS.K a*A) (i+1)=(PS.K a*qU A) i;rw[PS.dL,PS.dL,qU,Int.mul_left_comm]) (zD<|(bC.K p a).mul h)<|(bC.K p a).mul<|zD h
def KO(x:Fx p):bG (X*x)=x+X*bG x:=by
 obtain⟨A,h,rfl⟩:=ex x;exact jU (PS.ext λi=>by
  show((i:V)+1)*(PS.X 1*A) (i+1)=A i+(PS.X 1*qU A) i;rw[PS.kU,PS.kU,q Y,eD];cases i with
  |zero=>simp
  |succ i=>
   rw[q Y,eD,qU,o0,mc,xJ];rfl) (zD<|(Bt 1).mul h) (h.add<|(Bt 1).mul<|zD h)
def KP(B:Fx p):∀a:E V,bG (fx a*B)=bG (fx a)*B+fx a*bG B
 |[]=>by rw[lG,dw,Wz,dw,dw,im]
 |d::a=>by have b:=KP B a;rw[K7,gh,KN,Hh,c9,KO,b,KN,Hg,im,KO];simp only[gh,fE];ac_rfl
def xQ(H:bF p)(A B:Fx p):bG (A*B)=bG A*B+A*bG B:=by obtain⟨a,_,rfl⟩:=jS H.pos A;exact KP B a
def KQ(H:bF p)(Q:Fx p):∀a,pk Q a∣bG (pk Q<|a+1)
 |0=>⟨bG<|pk Q 1,(fv _).symm⟩
 |a+1=>by show pk Q a*Q∣bG (pk Q (a+1)*Q);rw[xQ H];exact iI (zt (KQ H Q a)<|oD Q)<|nU _ _
def PX(H:bF p)(A:Fx p):sz (bG A)<=sz A-1:=by obtain⟨a,b,rfl⟩:=jS H.pos A;rw[dc b];exact Bu H.pos (zD<|bC.ps p a)<|λi d=>PD<|me (p:V) a (i+1) Y
def mult(H:bF p){Q:Fx p}(hQ:bw Q):∀(n:G)(a:Fx p),sz a<n->a≠0->∃e b,a=pk Q e*b/\¬Q∣b
 |0,_,b,_=>by omega
 |n+1,a,b,k=>by
  by_cases d:Q∣a
  .obtain⟨f,rfl⟩:=d;have i:f≠0:=λe=>k KM
   have m:=dV H i<|hQ.ne H;have s:=hQ.1;obtain⟨e,g,rfl,l⟩:=mult H hQ n f Y i;exact⟨e+1,g,by rw[pk];ac_rfl,l⟩
  .exact⟨0,a,(cY a).symm,d⟩
def DT(H:bF p){Q:Fx p}(hQ:Q≠0):∀a,pk Q a≠0
 |0=>pY H
 |a+1=>oA H (DT H hQ a) hQ
def afL(H:bF p){a D W U V:Fx p}(i:a≠0)(d:a=W*D)(k:D=U*a+V*bG a):sk W:=by
 intro Q hQ f;let ⟨e,h,b,g⟩:=mult H hQ _ a (dO _) i;cases e with
 |zero=>
  refine g ?_
  have b:a=1*h:=b
  rw[cY]at b
  rw[<-b,d]
  exact nj (fG (jd Q Q) f) D
 |succ e=>
  have l:pk Q e∣a:=by rw[b,pk];exact nj (nU _ _) h
  have m:pk Q e∣bG a:=by rw[b,xQ H];exact iI (nj (KQ H Q e) h)<|nj (by rw[pk];exact nU _ _)<|bG h
  have n:pk Q e∣D:=by rw[k];exact iI (eW l U)<|eW m V
  have s:Q*Q*pk Q e∣a:=by rw[d];exact zt f n
  let ⟨v,hv⟩:=s
  refine g ⟨v,?_⟩
  refine zq H (DT H (hQ.ne H)<|e+1) ?_
  rw[c8 h,<-b,hv,pk];ac_rfl
def afM:∀n,pk (X:Fx p) n=mk (PS.X n) (Bt n)
 |0=>rfl
 |n+1=>by rw[pk,afM n];exact jU (PS.DB n 1).symm ((Bt n).mul<|Bt 1)<|Bt<|n+1
def afN(b:0<p) a:bC p (DS p a):=⟨Z a*p,λi d=>by
 unfold DS;split
 .rw[fQ a ((Nat.le_div_iff_mul_le b).2 d),iH]
 .exact iH _⟩
def afO(H:bF p)(b:0<p):∀a:E V,pk (fx a) p=mk (DS p a) (afN b a)
 |[]=>by rw[lG,afC b];exact jU (PS.ext λi=>by unfold DS;split<;>rfl) (bC.zero p) _
 |g::a=>by
  rw[K7,Kx H,G0 H,wA,afO H b a,afM];refine jU (PS.ext λi=>?_) ((bC.K p g).add<|(Bt p).mul<|afN b a) _;rw[PS.dP,PS.kU];by_cases d:p<=i
  .obtain⟨f,rfl⟩:∃f,i=f+p:=⟨i-p,Y⟩;rw[q d,eD,PS.K,j Y,Dz];unfold DS;rw[Nat.add_mod_right,Nat.add_div_right _ b];rfl
  .rw[j d,tf,PS.K];unfold DS;rw[qK Y,Dt Y];rfl
def db(H:bF p){a}(d:bG (fx a:Fx p)=0){k}(t:Z a<=k*p):(fx a:Fx p)=pk (fx<|nX p a k) p:=by
 have f:0<p:=DR;have g:=mk_eq.1 (d:mk (qU<|ps a) (zD<|bC.ps p a)=mk 0 (bC.zero p));rw[afO H f];refine mk_eq.2<|Cg.of λi=>?_;unfold DS;by_cases e:i%p=0
 .rw[q e];congr 1;have l:i/p*p=i:=by have:=sU i p;rw[ic];omega
  unfold nX;by_cases m:i/p<k
  .rw[aO,jn,lp m];show _=I a (i/p*p) 0;rw[l];rfl
  .rw[fQ (List.map _ _) b6,cM,fQ a];have:k*p<=i/p*p:=eB p Y;omega
 .rw[j e,iH];cases i with
  |zero=>rw[Nat.zero_mod]at e;exact aJ J e
  |succ i=>
   have b:=g.at i
   rw[PS.lD,iH]at b
   refine eR λn=>?_
   refine H.hp.oA (a:=(i:V)+1) (λs=>e ?_) n b
   have:((i+1:G):V)%(p:V)=0:=by rw[y5];exact s
   omega
structure Mon(p:G)(a:E V):Prop where
 c:bJ p a
 ne:a≠[]
 one:a.getD (a.length-1) 0=1
def Mon.pos{a}(b:Mon p a):1<=Z a:=cR.2 b.ne
def Mon.lH(H:bF p){a}(b:Mon p a):(fx a:Fx p)≠0:=λe=>by rw[<-lG]at e;exact b.ne<|wG b.c (tx H.pos) e
def WS(H:bF p){a b}(l:Mon p a)(g:Mon p b)(B:Z b<=Z a):Mon p (aV a b p).1:=by
 let ⟨d1,d2,d3,d4,d5,d6⟩:=nh H.hp H.le l.c.1 g.c g.ne;have C:=g.pos;obtain⟨n,s⟩:∃n,Z b=n+1:=⟨Z b-1,Y⟩;obtain⟨m,z⟩:∃m,Z a=m+n+1:=⟨Z a-1-n,Y⟩;have i:(aV a b p).1.length=m+1:=Y;have t:=me (p:V) (aV a b p).1;have u:=me (p:V) b;rw[i]at t;rw[s]at u;have k:=d1.at<|m+n;have d:=l.one;have f:=g.one;rw[z,eD]at d;rw[s,eD]at f;have A:(ps (aV a b p).2) (m+n)=0:=by rw[cM];exact fQ _ Y
 rw[PS.dP,A,tf,t.top u,cM,cM,cM,d,f,oy]at k;have v:=d2 m;rw[H.one,ix v.1 v.2]at k;have x:(aV a b p).1.getD ((aV a b p).1.length-1) 0=1:=by rw[i,eD];exact k.symm
 refine⟨⟨d2,.inr<|by rw[x];decide⟩,λe=>by rw[e]at i;simp at i,x⟩
def Qb(H:bF p){a b}(f:bJ p a)(g:bJ p b)(d:b≠[]):(aV a b p).2=[]↔(fx b:Fx p)∣fx a:=by
 let ⟨d1,d2,d3,d4,d5,d6⟩:=nh H.hp H.le f.1 g d;have e:(fx a:Fx p)=fx (aV a b p).1*fx b+fx (aV a b p).2:=mk_eq.2 d1;have k:=cR.2 d;constructor
 .intro h;rw[e,h,lG,fq];exact jd _ _
 .intro h;rw[e]at h;have i:=uJ H (zn h<|jd _ _) (by rw[dc (d5 f),dc g];omega);rw[<-lG]at i;exact wG (d5 f) (tx H.pos) i
def DU(H:bF p){a b}(f:bJ p a)(g:bJ p b)(d:b≠[])(i:(fx b:Fx p)∣fx a):(fx a:Fx p)=fx (aV a b p).1*fx b:=by let ⟨d1,d2,d3,d4,d5,d6⟩:=nh H.hp H.le f.1 g d;have e:(fx a:Fx p)=fx (aV a b p).1*fx b+fx (aV a b p).2:=mk_eq.2 d1;rwa[(Qb H f g d).2 i,lG,fq]at e
def Qc(H:bF p){a b}(f:bJ p a)(g:bJ p b)(d:b≠[]):(fx b:Fx p)∣fx (aV a b p).2-fx a:=by let ⟨d1,_⟩:=nh H.hp H.le f.1 g d;have e:(fx a:Fx p)=fx (aV a b p).1*fx b+fx (aV a b p).2:=mk_eq.2 d1;refine oE ?_;rw[e,zm];exact jd _ _
def afP(H:bF p):∀(k:G)(f g:E V),bJ p f->bJ p g->Z g<k->(fx (qQ p k f g):Fx p)∣fx f/\(fx (qQ p k f g):Fx p)∣fx g/\∃b a,(fx (qQ p k f g):Fx p)=b*fx f+a*fx g
 |0,_,_,_,_,m=>by omega
 |k+1,f,g,i,hg,m=>by
  rw[qQ];split
  .rename_i d;subst d;exact⟨oD _,by rw[lG];exact uI _,1,0,by rw[cY,dw,fq]⟩
  .rename_i d;let ⟨d1,d2,d3,d4,d5,d6⟩:=nh H.hp H.le i.1 hg d;have n:=cR.2 d;have l:(fx f:Fx p)=fx (aV f g p).1*fx g+fx (aV f g p).2:=mk_eq.2 d1;let ⟨i1,i2,b,a,i3⟩:=afP H k g (aV f g p).2 hg (d5 i) Y;refine⟨by rw[l];exact iI (eW i1 _) i2,i1,a,b-a*fx (aV f g p).1,?_⟩;rw[i3,l,fE,qT];have:a*(fx (aV f g p).1*fx g)+a*fx (aV f g p).2+(b*fx g-a*fx (aV f g p).1*fx g)=(b*fx g-a*fx (aV f g p).1*fx g+a*fx (aV f g p).1*fx g)+a*fx (aV f g p).2:=fF;rw[this,lE]
def Qd(H:bF p){a}(f:bJ p a)(d:a≠[]):Mon p (mF p a)/\Z (mF p a)=Z a/\(fx (mF p a):Fx p)∣fx a/\(∃g,(fx (mF p a):Fx p)=K g*fx a)/\(fx a:Fx p)=K (I a (Z a-1) 0)*fx (mF p a):=by
 let ⟨m1,b,i,k,l⟩:=Wp H.hp H.le f d;have m:=cR.2 d;have e:(fx a:Fx p)=K (I a (Z a-1) 0)*fx (mF p a):=by rw[c8];exact mk_eq.2 l
 refine⟨⟨m1,λe=>by rw[e]at b;simp at b;omega,by rw[b];exact i⟩,b,⟨_,e⟩,⟨((jD (ah<|I a (Z a-1) 0) (ah ((p:G):V)):G):V),?_⟩,e⟩;rw[c8];exact mk_eq.2 k
def Bv(H:bF p){f g}(a:bJ p f)(l:bJ p g)(b:f≠[]):Mon p (gV p f g)/\(fx (gV p f g):Fx p)∣fx f/\(fx (gV p f g):Fx p)∣fx g/\∃d i,(fx (gV p f g):Fx p)=d*fx f+i*fx g:=by
 let ⟨k,h2,d,i,n⟩:=afP H (Z g+1) f g a l<|dO _;let ⟨s,_,_⟩:=Wo H.hp H.le (Z g+1) f g a l<|dO _;have t:qQ p (Z g+1) f g≠[]:=λe=>by rw[e,lG]at k;let ⟨w,hw⟩:=k;rw[g8,<-lG]at hw;exact b<|wG a (tx H.pos) hw
 let ⟨m1,v,m,⟨c,u⟩,_⟩:=Qd H s t;exact⟨m1,fG m k,fG m h2,K c*d,K c*i,by rw[gV,u,n,fE,c9,c9]⟩
end Fx
def aq.a1{P}{f}{x g}{xs}{a}(b:aq P f (g::xs) a)(d:bq x g):aq P f (x::xs) a:=
 ⟨b.call,b.iN,λH W vs i k=>b.spec H W vs i<|by obtain⟨v,a,rfl,l,m⟩:=k;exact⟨v,a,J,d.1 _ _ l,m⟩⟩
def zE(a:E V)(m:V)(b:E V):E V:=(cy<|max (Z a)<|Z b).map λi=>I a i 0+m*I b i 0
def ary(f:G->V) i:(cy<|i+1).map f=(cy i).map f++[f i]:=by rw[Ag,fL];rfl
def K8 a m(b:E V) u(x:u<=100000)(A:Z a<=1000)(B:Z b<=1000)(s:∀i,aK u (I a i 0))(p:aK u m)(t:∀i,0<=I b i 0/\I b i 0<4294967296):aq r 260 [S .z a,aZ m,S au b] (S .z<|aU<|zE a m b):=by
 refine aS Tryz.func260 ?_;generalize hM:max (Z a) (Z b)=M;have v:M<=1000:=Y;have f:zE a m b=(cy M).map λi=>I a i 0+m*I b i 0:=by rw[zE,hM]
 rw[f];refine e J<|w<|ij .z [] J J (O J<|h<|e J ?_);refine aA<|bx (α:=G) (λi=>⟨[(0,S .z a),(2,S au b),(4,.c<|.P 0 0),(7,.c<|.X 1000000),(8,y i)],[(0,.box 42 0<|av .z m),(1000000,.vec 42 .z<|(cy i).map λi=>I a i 0+m*I b i 0)],3,[]⟩) (λi=>i<=M) (λi=>M-i) 0 (bm _) (wk (bP J) ⟨bE J J,bR J,ll⟩) ?_;intro i C;have D:Z ((cy i).map λi=>I a i 0+m*I b i 0)=i:=ax;by_cases l:i<M
 .refine nP ⟨[(0,S .z a),(2,S au b),(4,.c<|.P 0 0),(7,.c<|.X 1000000),(8,y i)],[(0,.box 42 0<|av .z m),(1000000,.vec 42 .z<|(cy i).map λi=>I a i 0+m*I b i 0)],4,[]⟩ ?_ (λg=>w<|rg 14 J J (λd=>O J<|F J (λ_=>dk<|fp g aY)<|λh2=>sc)<|λd=>O J<|F J (λ_=>dk<|fp g aY)<|λh2=>?_)
  .have h2:=t i;have k:aK 1 (I b i 0):= .one Y;refine h<|aA<|cL ?_;refine rc J J (J7 a i)<|rc J J (Ky b i)<|rc J J (jO (I b i 0) Y Y) (hp:=aH)<|rc J J (mb m (I b i 0) (p.sm Y)<|k.sm Y)<|rc J J (yZ (I a i 0) (m*I b i 0) ((s i).sm Y)<|(p.mul k).sm Y) ?_;refine rl .z [I a i 0+m*I b i 0] J J (ra J J J J J J J J J ?_ ?_<|O J ?_)
   .show(_+1+(_+1)/4+192)*32<=_;omega
   .show(_+1)*2<=_;omega
   refine bU<|rt J<|a6 (i+1) l yY<|Wk.trans (wk (st':=⟨[(0,S .z a),(2,S au b),(4,.c<|.P 0 0),(7,.c<|.X 4013000),(8,y ((i+1:G):V))],[(0,.box 42 0<|av .z m),(4013000,.vec 42 .z<|(cy<|i+1).map λi=>I a i 0+m*I b i 0)],8,[]⟩) (bP J) ⟨bR J,bE J ?_,ll⟩)<|Wk.trans (iw 1000000 4013000 J J J) aY;exact bl (aC.vec 42 .z) (ary _ i).symm
  .exfalso;have d:¬(i:V)<(Z a:V):=bh d;have h2:¬(i:V)<(Z b:V):=bh h2;omega
 .have n:i=M:=by omega
  subst n;refine h<|w<|rg 14 J J (λd=>?_)<|λd=>?_
  .exfalso;have d:(i:V)<(Z a:V):=aX d;omega
  .refine O J (F J (λh2=>?_)<|λh2=>?_)
   .exfalso;have h2:(i:V)<(Z b:V):=aX h2;omega
   .exact bD<|aR<|dm 1000000 J J J<|bL J J (OW _) J<|di J
def arz m b:zE [] m b=b.map (m*·):=by refine vz (by simp[zE])<|λi d h2=>?_;have a:i<Z b:=rK;simp only[zE,CA,M4];rw[aO (l:=b),cT a];simp
def afQ(b:E V)(a:Z b<=1000)(d:∀i,0<=I b i 0/\I b i 0<4294967296):aq r 259 [S au b] (S .z<|aU b):=by refine aS Tryz.func259 ?_;have h:=K8 [] 1 b 1 o ax a (λi=>aK.zero 1) (.one o) d;rw[arz,show(λx:V=>1*x)=id from funext λx=>mc x,List.map_id]at h;exact e J<|w<|rc J J (jO 1 o o)<|rc J J (h.a1<|bq.nil .z)<|O J<|di J
def WT(p k:G)(d:p<4294967296)(f:k<=100000):aq r 177 [cU p,y k] (aZ<|(p:V)^k):=by
 refine aS Tryz.func177 ?_;have b:aK 1 (p:V):= .one Y;refine e J<|bL J J (jO 1 o o) J<|h<|e J ?_;refine aA<|bx (α:=G) (λi=>⟨[(0,cU p),(1,y k),(4,.c<|.P 0 0),(5,.c<|.P 1001000 0),(6,y i)],[(0,.box 42 0 [.B ak,.V<|.slice none 0 0]),(1001000,.box 42 0<|av .z<|(p:V)^i)],3,[]⟩) (λi=>i<=k) (λi=>k-i) 0 (bm _) (wk (bP J) ⟨bE J J,bE J ?_,M⟩) ?_
 .rw[qN];rfl
 intro i g;refine h<|e J<|F J (λa=>?_)<|λa=>?_
 .have a:i<k:=by have a:(i:V)<(k:V):=aX a;omega
  refine aG<|h<|aA<|cL ?_;refine rc J J (jO p Y Y) (hp:=aH)<|rc J J (mb ((p:V)^i) p ((b.pow i).sm Y)<|b.sm Y)<|O J ?_;refine bU<|rt J<|a6 (i+1) a Qe<|wk (bP J) ⟨bE J J,bE J ?_,M⟩;rw[gG];rfl
 .have a:i=k:=by have a:¬(i:V)<(k:V):=bh a;omega
  subst a;exact bD<|aR<|e J<|cd J J
def dW(a m:V):V:=if a%m+a%m>m then a%m-m else a%m
def WU{n}{a m}(b:0<m)(d:aK n m):aK n (dW a m):=by have f:=jq a (Y:m≠0);have g:=jr a b;unfold dW aK at*;split<;>omega
def afR{a b}:eE a b>0↔a>b:=by
 unfold eE;split
 .omega
 .split<;>omega
def WV a m u(v:u<=100000)(x:Z a<=1000)(k:0<m)(s:∀i,aK u (I a i 0))(l:aK u m):aq r 211 [S .z a,aZ m] (S .z<|aU<|a.map (dW · m)):=by
 refine aS Tryz.func211 ?_;refine e J<|w<|ij .z [] J J (O J<|h<|e J ?_);refine aA<|bx (α:=G) (λi=>⟨[(0,S .z a),(3,.c<|.P 0 0),(5,.c<|.X 1000000),(6,y i)],[(0,.box 42 0<|av .z m),(1000000,.vec 42 .z<|(c i a).map (dW · m))],3,[]⟩) (λi=>i<=Z a) (λi=>Z a-i) 0 (bm _) (wk (bP J) ⟨bE J J,bR J,M⟩) ?_;intro i A;have B:((c i a).map (dW · m)).length=i:=b6;refine h<|e J<|F J (λb=>?_)<|λb=>?_
 .have b:i<Z a:=by have b:(i:V)<(Z a:V):=aX b;omega
  have n:aq r 183 [.a (av .z<|I a (ah<|(i:V)) 0),aZ m] (.t [(af,av .z<|I a i 0/m),(af,av .z<|I a i 0%m),(ak,[.I .i64 0])]):=by rw[cx];exact GQ (I a i 0) m Y ((s i).sm Y)<|l.sm Y
  have p:aK u (I a i 0%m):=aK.emod k l;have f:=yZ (I a i 0%m) (I a i 0%m) (p.sm Y)<|p.sm Y;refine aG<|h<|aA<|w<|rc J J n (hp:=aH)<|O J ?_;refine nP ⟨[(0,S .z a),(3,.c<|.P 0 0),(5,.c<|.X 1000000),(6,y i),(8,.c<|.P 4011000 0)],[(0,.box 42 0<|av .z m),(1000000,.vec 42 .z<|(c i a).map (dW · m)),(4011000,.box 42 0<|av .z<|dW (I a i 0) m)],7,[]⟩ ?_<|λg=>?_
  .refine cL (rl .z [dW (I a i 0) m] J J (ra J J J J J J J J J ?_ ?_<|O J ?_))
   .show(_+1+(_+1)/4+192)*32<=_;omega
   .show(_+1)*2<=_;omega
   refine bU<|rt J<|a6 (i+1) b r6<|Wk.trans (wk (st':=⟨[(0,S .z a),(3,.c<|.P 0 0),(5,.c<|.X 7003000),(6,y ((i+1:G):V))],[(0,.box 42 0<|av .z m),(7003000,.vec 42 .z<|(c (i+1) a).map (dW · m))],9,[]⟩) (bP J) ⟨bR J,bE J ?_,M⟩)<|Wk.trans (iw 1000000 7003000 J J J) aY;refine bl (aC.vec 42 .z) ?_;rw[tv a i b,fL];rfl
  .refine w (rc J J f<|rc J J (OS (I a i 0%m+I a i 0%m) m)<|O J<|F J (λd=>?_)<|λd=>?_)
   .have d:eE (I a i 0%m+I a i 0%m) m>0:=aX d;rw[afR]at d;refine cL<|rc J J (V0 (I a i 0%m) m (p.sm Y)<|l.sm Y)<|O J<|fp g<|wk (bP J) ⟨bE J J,bR J,bE J ?_,M⟩;rw[dW,q d];rfl
   .have d:¬eE (I a i 0%m+I a i 0%m) m>0:=bh d;rw[afR]at d;refine dk<|fp g<|wk (bP J) ⟨bE J J,bR J,bE J ?_,M⟩;rw[dW,j d];rfl
 .have b:i=Z a:=by have b:¬(i:V)<(Z a:V):=bh b;omega
  subst b;rw[ik];exact bD<|aR<|dm 1000000 J J J<|bL J J (OW _) J<|di J
def arA{a b}(d:cv a=cv b)(f:eX a=eX b):a=b:=by have g:val (R<|aD a)=val (R<|aD b):=bl val f;rw[fa,fa]at g;have i:=A' a;have k:=A' b;rw[<-i,<-k,d,(Y:aD a=aD b)]
def afS{x a:Bool}:(x !=a)=af↔x≠a:=by cases x<;>cases a<;>decide
def Bx(a b:E V)(i:G):G->E V->E V
 |0,f=>f
 |d+1,f=>(Bx a b i d f).set (i+d)<|I (Bx a b i d f) (i+d) 0+I a i 0*I b d 0
def zF(a b:E V):G->E V
 |0=>bt (Z a+Z b-1) 0
 |i+1=>Bx a b i (Z b)<|zF a b i
def uO(a b:E V)(m:V):E V:=(zF a b<|Z a).map (·%m)
def WW(a b:E V)(i:G)(d:E V):∀f,Z (Bx a b i f d)=Z d
 |0=>rfl
 |f+1=>by rw[Bx,oQ,WW a b i d f]
def WY(a b:E V):∀i,Z (zF a b i)=Z a+Z b-1
 |0=>by simp[zF]
 |i+1=>by rw[zF,WW,WY a b i]
def afT(a b:E V)(i:G)(f:E V):∀d,i+d<=Z f->ps (Bx a b i d f)=ps f+PS.K (I a i 0)*PS.X i*ps (c d b)
 |0,_=>by rw[Bx,KF,PS.g8,PS.fq]
 |d+1,k=>by rw[Bx,KD _ (by rw[WW];omega),KE,PS.fE,<-PS.jR,afT a b i f d Y];congr 1;rw[show∀x g:V,x+g-x=g by intros;omega];rw[PS.Bj,PS.DB];ac_rfl
def afU(a b:E V):∀i,i<=Z a->ps (zF a b i)=ps (c i a)*ps b
 |0,_=>by rw[zF,PL,KF,PS.dw]
 |i+1,f=>by have d:=afT a b i (zF a b i) (Z b) (by rw[WY];omega);rw[ik]at d;rw[zF,d,afU a b i Y,KE,PS.gh]
def WZ a b m:Cg m (ps<|uO a b m) (ps a*ps b):=by have h:=afU a b (Z a)<|aN _;rw[ik]at h;rw[<-h];exact aeK m _
def W0 a b m:Z (uO a b m)=Z a+Z b-1:=by rw[uO,c7,WY]
section
variable{P:Program}{tt:TT}
def arB(cC:cw P tt=af){ops}{i}{aF}(ho:ops[i]? =ae aF)(hg:aF.guard=none)(hd:aF.dst=none){n}{t:TypeId}{x p}(bW:aF.op= .store t x p)
 {B}{D f u}{bp}{bz:G} {cs:E C} {E2:TypeId} {T:ET} {xs:E T.den} (hx:B.ev x=ae (.c<|.P D f)) (hy:B.ev p=ae (.c<|.X u)) (hl:L D B.mem=ae (.box bp bz cs)) (hj:L u B.mem=ae (.vec E2 T xs)) {ag:Bool} (E5:pJ tt t=ae (1,ag)) (h1:f<Z cs) (new:G):
  iJ P n ops i (cH B x++cH B p++fK B [D,u]) [(.m D,ae<|.b<|.box bp bz<|cK cs [.X u] f)] new:=by
 intro F ly Q Y σ g W a K w d v hK
 have vE:=dJ d B x _ hx<|λI cq=>v I eK
 have M:=dJ d B p _ hy<|λI cq=>v I eK
 have hmy:=sH d B p _ hy<|λI cq=>v I eK
 have s:σ (.m D)=ae (.b<|.box bp bz cs):=v (.m D,.b<|.box bp bz cs) rB
 have O:σ (.m u)=ae (.b<|.vec E2 T xs):=v (.m u,.b<|.vec E2 T xs) (by simp[fK,hj])
 let ⟨b,vs,rest,N,hh,hr,hN,hz,vJ⟩:=d.cE D _ s
 have R:=d.cE u _ O
 let ⟨b',A,hv⟩:=vE
 rw[N]at A
 simp only[ar]at A
 subst A
 have S:a.eval p=g.γ u:=M
 have U:oO (a.eval p)=af:=by rw[S];rcases R with⟨e,_⟩|⟨_,_,_,e,_⟩<;>rw[e]<;>rfl
 have H:(a.eval p).cells=[a.eval p].toArray:=by rw[S];rcases R with⟨e,_⟩|⟨_,_,_,e,_⟩<;>rw[e]<;>rfl
 have H8:a4 g [.X u] [a.eval p]:=⟨_,_,J,M,J⟩
 let ⟨_,⟨ti,oP,ZM⟩,_⟩:=Im cC E5
 have alc:=hr.length
 have V:(Instr.storeAt t (a.eval x)<|a.eval p).run P W= .ok () (ji W b (cK (vs++rest) [a.eval p] f) bp):=by rw[hv];simp only[Instr.storeAt,Instr.sureAddr,storeVar,Sem.run_bind,Sem.run_pure,Result.andThen,run_sizeOf oP,H];have:¬([a.eval p].toArray.size≠ti.size):=b6;simp only[this,bV];have:=Al (P:=P) b [a.eval p] W (vs++rest) f 0 hh b6 (by simpa using U);simp only[jZ]at this;simpa using this
 unfold wpOp
 simp only[ho,Region.wanted,hg,cr]
 refine .inl ?_
 unfold Oper.wp
 have hex:(execOp a.eval aF).run P W= .ok .skip (ji W b (cK (vs++rest) [a.eval p] f) bp):=by rw[execOp,bW];simp[V,Sem.run,pure]
 rw[hex]
 simp only[Oper.upon,hd,Act.put]
 have hb:b<W.heap.size:=(fJ.1 hh).1
 refine hK g _ a<|d.step (chg:=λu=>u=D) (g':=g) ⟨⟨cD.refl _,λ_ _=>rfl⟩,λ_ _ _=>rfl,Am d.sub hz,An,?_,J,J,J⟩ _ new w J d.defers (λ_ _=>rfl) ?_ ?_ ?_ ?_ ?_
 .intro k hk ew;have:b≠k:=λe=>ew D J (by rw[N,e])
  exact ym this
 .intro u hj;subst hj;exact⟨yp,_,s⟩
 .intro t' v' ht;simp[aE]at ht
 .intro q bk r;simp only[aE]at r;split at r
  .rename_i e;simp only[Key.m.injEq]at e;subst e;simp only[ar,Info.b.injEq]at r;subst r;have sL:cK (vs++rest) [a.eval p] f=cK vs [a.eval p] f++rest:=Mz vs rest _ f b6;exact⟨⟨b,cK vs [a.eval p] f,rest,N,MA,hr.cK H8 f,hN,hz,λh0=>by let ⟨c,e1,e2⟩:=vJ h0;refine⟨c,e1,?_⟩;rw[<-sL,yn _ _ _ b6];exact e2⟩,.inl ⟨d.dI _ _ s,_,s⟩⟩
  .simp at r
 .intro k z l;simp only[aE]at l;split at l
  .simp only[ar]at l;subst l;intro q r;rcases EY _ _ _ q r with h|h
   .exact .inl<|d.al _ _ s q h
   .exact .inl (hmy q<|by simpa[b8,AV.al]using h)
  .simp at l
 .intro q z l;simp only[aE]at l;split at l
  .rename_i e;simp only[Key.m.injEq]at e;subst e;exact .inl<|d.dI _ _ s
  .simp at l
def arD{a:Type} vs(u:a) off(b:off<Z vs):cK vs [u] off=vs.set off u:=by unfold cK;rw[List.set_eq_take_append_cons_drop,q b,mX];rfl
def arE{n}{u}{a}{H i}{t:TypeId}{x p}{ty}{pos}{v}{N}{b}{mem}{d}{f}{W}{Q:St->Prop}(z:cw P tt=af)
 {g l s}{bp}{bz}{A}{E2}{T}{xs}(hx:St.ev ⟨b,mem,d,f⟩ x=ae (.c<|.P g l)) (hy:St.ev ⟨b,mem,d,f⟩ p=ae (.c<|.X s)) (hl:L g mem=ae (.box bp bz A)) (hj:L s mem=ae (.vec E2 T xs)) {ag}(B:pJ tt t=ae (1,ag)) (h1:l<Z A)
  (h:RG P n u a H (i+1) N ⟨b,(g,.box bp bz<|A.set l<|.X s)::mem,d,f⟩ (g5 a W (bH [x,p]++cV [g,s],[.m g])) Q):
  RG P n u a H i (⟨none,.store t x p,ty,pos,v,none⟩::N) ⟨b,mem,d,f⟩ W Q:=by
 refine mY (λK=>⟨_,_,arB z K J J J hx hy hl hj B h1 _,?_,?_,?_,λk hk=>kK⟩)<|mZ h
 .intro C D;rcases bg.1 D with h|h
  .rcases bg.1 h with h|h
   .exact eC _ x C h
   .exact eC _ p C h
  .exact k9 _ [g,s] C h
 .rw[arD _ _ _ h1];exact MG ⟨b,mem,d,f⟩ g _
 .intro k hk;simp only[dz,fL,bg]at hk;rcases hk with(h|h)|h
  .exact eH _<|eP ⟨b,mem,d,f⟩ [x,p] k uf
  .exact eH _<|eP ⟨b,mem,d,f⟩ [x,p] k xc
  .exact gx _<|kg ⟨b,mem,d,f⟩ [g,s] k h
end
def lq(b:G->G):C->C
 | .P id a=> .P (b id) a
 | .X id=> .X<|b id
 | .Y id n i a=> .Y (b id) n i a
 | .L id a l d=> .L (b id) a l d
 | .W id a l=> .W (b id) a l
 |d=>d
def By(b:G->G):AV->AV
 | .c x=> .c<|lq b x
 | .a cs=> .a<|cs.map<|lq b
 | .t d=> .t<|d.map λs=>(s.1,s.2.map<|lq b)
def pZ(d:G->G):aC->aC
 | .box g i cs=> .box g i<|cs.map<|lq d
 | .vec g T xs=> .vec g T xs
 | .dS f a b=> .dS f (a.map λs=>(s.1,s.2.map<|lq d))<|b.map λs=>(s.1,s.2.map<|lq d)
 | .fz g cs=> .fz g<|cs.map<|lq d
 | .mp k l xs=> .mp k l<|xs.map λx=>(x.1.map<|lq d,x.2.map<|lq d)
 | .it m n seen=> .it (d m) n seen
def W4{g:Gh}{b:G->G}:∀{d:C}{v:Value},c6 g (lq b d) v->c6 ⟨g.H,λf=>g.γ<|b f⟩ d v
 | .any,_,a=>a
 | .B _,_,a=>a
 | .I _ _,_,a=>a
 | .V _,_,a=>a
 | .S _ _,_,a=>a
 | .P _ _,_,a=>a
 | .X _,_,a=>a
 | .Y _ _ _ _,_,a=>a
 | .E _ _ _,_,a=>a
 | .M _,_,a=>a
 | .L _ _ _ (ae _),_,a=>a
 | .L _ _ _ none,_,a=>a
 | .W _ _ _,_,a=>a
def DV{g:Gh}{b:G->G}:∀{d:E C}{vs:E Value},a4 g (d.map<|lq b) vs->a4 ⟨g.H,λf=>g.γ<|b f⟩ d vs
 |[],_,a=>a
 |_::_,_,a=>by let ⟨v,i,k,l,h2⟩:=a;exact⟨v,i,k,W4 l,DV h2⟩
def Qf{g:Gh}{k:G->G}:∀{l:E (Bool×E C)}{vs:E Value},dy g (l.map λs=>(s.1,s.2.map<|lq k)) vs->dy ⟨g.H,λm=>g.γ<|k m⟩ l vs
 |[],_,d=>d
 | (b,f)::_,_,d=>by
  let ⟨v,n,i,a,h2⟩:=d;refine⟨v,n,i,?_,Qf h2⟩;match b,f,a with
  |true,f,a=>let ⟨vs,i,d⟩:=a;exact⟨vs,i,DV d⟩
  |false,[f],a=>exact W4 a
  |false,[],a=>exact a.elim
  |false,_::_::_,a=>exact a.elim
def W5{g}{d:G->G}{x}{v}(b:bf g (By d x) v):bf ⟨g.H,λf=>g.γ<|d f⟩ x v:=by
 cases x with
 |c y=>exact W4 b
 |a cs=>let ⟨vs,e,b⟩:=b;exact⟨vs,e,DV b⟩
 |t i=>let ⟨vs,e,b⟩:=b;exact⟨vs,e,Qf b⟩
def afV{g:Gh}{a:G->G}{i k:Bool}:∀{n:G}{xs:E (E C×E C)}{l:E MapEntry},iX g i k n (xs.map λx=>(x.1.map<|lq a,x.2.map<|lq a)) l->iX ⟨g.H,λm=>g.γ<|a m⟩ i k n xs l
 |_,[],_,b=>b
 |_,_::_,_,b=>by let ⟨p,s,t,h2,⟨u,v,d⟩,⟨vs,z,f⟩,A⟩:=b;exact⟨p,s,t,h2,⟨u,v,DV d⟩,⟨vs,z,DV f⟩,afV A⟩
def W6{N:G->Prop}{g}{W}{t:G->G}{s}{b}(l:gL N g W (t s) (pZ t b)):gL N ⟨g.H,λs=>g.γ<|t s⟩ W s b:=by
 cases b with
 |box E z cs=>
  let ⟨k,vs,rest,a,d,i,p,u,x⟩:=l
  exact⟨k,vs,rest,a,d,DV i,p,u,x⟩
 |vec E T A=>
  rcases l with⟨a,d⟩|⟨k,v,vs,a,d⟩
  .exact .inl ⟨a,d⟩
  .exact .inr ⟨k,v,vs,a,d⟩
 |dS f first caps=>
  let ⟨us,ws,a,d,i⟩:=l
  exact⟨us,ws,a,Qf d,Qf i⟩
 |fz E cs=>
  let ⟨k,vs,rest,a,d,i,p,u⟩:=l
  exact⟨k,vs,rest,a,d,DV i,p,u⟩
 |mp B C xs=>
  let ⟨k,es,a,d,i,p⟩:=l
  exact⟨k,es,a,by simpa using d,afV i,p⟩
 |it m n seen=>exact l
def K9(a:G->G)(l:E (G×AV)):E (G×AV)->Prop
 |[]=>True
 | (t,b)::d=>(∃v,L t l=ae v/\bq v (By a b))/\K9 a l d
def La(a:G->G)(l:E (G×aC)):E (G×aC)->Prop
 |[]=>True
 | (t,b)::d=>(∃v,L (a t) l=ae v/\lS v (pZ a b))/\La a l d
def K9.get{d:G->G}{l:E (G×AV)}:∀{m:E (G×AV)},K9 d l m->∀{t b},L t m=ae b->∃v,L t l=ae v/\bq v (By d b)
 |[],_,_,_,a=>by simp[L]at a
 | (k,x)::m,hw,t,b,a=>by
  simp only[L]at a;split at a
  .rename_i f;subst f;cases a;exact hw.1
  .exact K9.get hw.2 a
def La.get{b:G->G}{l:E (G×aC)}:∀{m:E (G×aC)},La b l m->∀{t d},L t m=ae d->∃v,L (b t) l=ae v/\lS v (pZ b d)
 |[],_,_,_,a=>by simp[L]at a
 | (k,x)::m,hw,t,d,a=>by
  simp only[L]at a;split at a
  .rename_i f;subst f;cases a;exact hw.1
  .exact La.get hw.2 a
def xX(K:G)(m:E (G×aC)):Prop:=∀t v,L t m=ae v->t<K/\∀a∈v.al,a<K
def arF(l:G->G){z d}(T:K9 l z.sl d.sl)(hm:La l z.mem d.mem)(h0:l 0=0)(A:∀f i,(L f d.mem).isSome=af->(L i d.mem).isSome=af->l f=l i->f=i)
  (D:xX (1000000*d.nx) d.mem) (N:At (1000000*d.nx) d.sl=af:=by rfl) (B:Nat.ble 1 d.nx=af:=by rfl):Wk z d:=by
 intro F X g W a h
 have B:=cQ B
 let o:Gh:=⟨g.H,λf=>g.γ<|l f⟩
 have Q:∀t n,d.kn (.s t)=ae (.v n)->(∃v,z.kn (.s t)=ae (.v v)/\bq v (By l n))/\∀f∈n.al,f<1000000*d.nx:=by intro t n e;simp only[St.kn,bS]at e;let ⟨x,hx,he⟩:=e;cases he;let ⟨v,hv,hle⟩:=T.get hx;exact⟨⟨v,rI,hle⟩,Fj N t n hx⟩
 have C:∀f p,d.kn (.m f)=ae (.b p)->(∃b,z.kn (.m<|l f)=ae (.b b)/\lS b (pZ l p))/\(f<1000000*d.nx/\∀j∈p.al,j<1000000*d.nx)/\(L f d.mem).isSome=af:=by intro t n e;simp only[St.kn,bS]at e;let ⟨x,hx,he⟩:=e;cases he;let ⟨v,hv,hle⟩:=hm.get hx;exact⟨⟨v,rI,hle⟩,D t n hx,by rw[hx];rfl⟩
 refine⟨o,h.size,h.defers,?_,?_,?_,?_,?_,h.sub,h.below,h.le,h.fresh,?_⟩
 .intro t n e;let ⟨⟨v,hv,hle⟩,_⟩:=Q t n e;exact W5<|hle.1 _ _<|h.dH t v hv
 .intro f p e;let ⟨⟨b,q,hle⟩,_⟩:=C f p e;exact W6<|hle.1 _ _ _ _<|h.cE (l f) b q
 .intro f i b p k e r w K;let ⟨⟨c,hc,_⟩,_,y⟩:=C f b e;let ⟨⟨E,P,_⟩,_,h2⟩:=C i p r;exact A f i y h2<|h.inj (l f) (l i) c E k hc P w K
 .intro k x e f u;cases k with
  |s t=>
   cases x with
   |v n=>exact(Q t n e).2 f u
   |b p=>simp only[St.kn,bS]at e;let ⟨_,_,he⟩:=e;cases he
  |m j=>
   cases x with
   |v n=>simp only[St.kn,bS]at e;let ⟨_,_,he⟩:=e;cases he
   |b p=>exact(C j p e).2.1.2 f u
 .intro f x e;cases x with
  |v n=>simp only[St.kn,bS]at e;let ⟨_,_,he⟩:=e;cases he
  |b p=>exact(C f p e).2.1.1
 .intro f u;have I:f=0:=Y;subst I;refine⟨?_,?_⟩
  .show 0<1000000*d.nx;omega
  .show g.γ (l 0)=_;rw[h0];exact(h.fB 0 u).2
def xX.of{K}{m}(a:uh K m=af):xX K m:=Fk a
def Qg{d:Type}(t:G):∀(a b:E (G×d)),L t (a++b)=(L t a).or (L t b)
 |[],_=>rfl
 | (k,x)::a,b=>by
  simp only[lO,L];split
  .rfl
  .exact Qg t a b
def Qh(m:G)(b:Ks):E Ks->G->Bool
 |[],_=>af
 |a::l,i=>(oa m i|| !oR a b)&&Qh m b l (i+1)
def Qi:E G->E Ks->E Ks->Bool
 |m::ms,b::a,done=>Qh m b done 0&&Qi ms a (done++[b])
 |[],[],_=>af
 |_,_,_=>ak
def W7(a:E Oper)(b:E Ks):Bool:=Fb a 0&&Qi (rC a []) b []
def afW(m:G)(b:Ks):∀(l:E Ks)(i:G),Qh m b l i=Cs m b l i
 |[],_=>rfl
 |a::l,i=>by rw[Qh,Cs,afW m b l,Bool.or_comm]
def afX:∀(a:E G)(d done:E Ks),Qi a d done=yr a d done
 |[],[],_=>rfl
 |[],_::_,_=>rfl
 |_::_,[],_=>rfl
 |m::a,b::d,done=>by rw[Qi,yr,afW,afX a d]
def arG{b}{a}{d}(f:(!b||W7 a d)=af):(!b||rE a d)=af:=by
 have:W7 a d=rE a d:=by rw[W7,rE,afX]
 rwa[this]at f
def afY{a:Type}{k t}{x}{l:E (G×a)}(b:k≠t):L t ((k,x)::l)=L t l:=by simp only[L,j b]
def Qj{a b:E V}(g:Z a=Z b)(i:∀d,d<Z a->I a d 0=I b d 0):a=b:=by refine vz g<|λd f k=>?_;have:=i d f;rw[aO,aO,cT f,cT k]at this;exact this
def arH a b{m}(d:0<m) k:0<=I (uO a b m) k 0/\I (uO a b m) k 0<m:=by rw[uO,getD_map<|iH m];exact⟨jq _ Y,jr _ d⟩
def W8 a b i:I (mE a b) i 0=if i<Z a+Z b-1 then conv (λi=>I a i 0) (λi=>I b i 0) i else 0:=by
 unfold mE;rw[aO,jn];split
 .rename_i h;rw[lp h];rfl
 .rename_i h;rw[jB b6];rfl
def Lb a b:Z (mE a b)=Z a+Z b-1:=by simp[mE]
def afZ a b(d:a≠[])(f:b≠[]):ps (mE a b)=ps a*ps b:=PS.ext λi=>by
 have g:=cR.2 d;have k:=cR.2 f;rw[cM,W8];show _=conv (λi=>I a i 0) (λi=>I b i 0) i
 split
 .rfl
 .symm;refine VF _ _ i (i+1) λj l=>?_
  by_cases e:j<Z a
  .show I a j 0*I b (i-j) 0=0;rw[fQ b Y,iy]
  .show I a j 0*I b (i-j) 0=0;rw[fQ a Y,ox]
def arI a b(d:a≠[])(f:b≠[]):I (mE a b) (Z (mE a b)-1) 0=I a (Z a-1) 0*I b (Z b-1) 0:=by have k:=cR.2 d;have l:=cR.2 f;rw[Lb,W8,q Y,(Y:Z a+Z b-1-1=(Z a-1)+(Z b-1))];exact apq (λi g=>fQ a Y)<|λi g=>fQ b Y
def af0 a b u v(d:∀i,aK u (I a i 0))(f:∀i,aK v (I b i 0))(g:Z a<=1000)(k:Z b<=1000) i:aK (u+v+1) (I (mE a b) i 0):=by
 rw[W8];split
 .exact aeT a b u v d f i (i+1) Y
 .exact aK.zero _
def aL(a:E V):Prop:=a≠[]/\I a (Z a-1) 0=1
def aL.can{a}(b:aL a):can a:= .inr (by rw[b.2];decide)
def aL.trim{a}(b:aL a):aU a=a:=xL b.can
def aL.af1{a b}(d:aL a)(f:aL b):aL (mE a b):=by have i:=cR.2 d.1;have k:=cR.2 f.1;refine⟨λe=>?_,by rw[arI a b d.1 f.1,d.2,f.2];rfl⟩;have g:=Lb a b;rw[e]at g;simp at g;omega
def aL.md{p}(d:1<p){a}(b:aL a):aL (md p a):=by refine⟨λe=>b.1 (gA<|by rw[<-zg p a,e];rfl),?_⟩;rw[zg,Kz,b.2];exact ix o d
namespace Rx
def zx(a:E V):Rx:=lx (a.map λx:V=>(x:Rat))
def lI a i:zx a i=((I a i 0:V):Rat):=by show I (a.map λx:V=>(x:Rat)) i 0=_;rw[aO,jn,aO];cases a[i]? <;>rfl
def zG a:dt (zx a):=dt.of λi=>⟨_,lI a i⟩
def Lc a:nu (zx a)=ps a:=PS.ext λi=>by show(zx a i).num=_;rw[lI];rfl
def arJ{a}(b:can a):bM (a.map λx:V=>(x:Rat)):=by
 rcases b with b|b
 .subst b;exact .inl J
 .right;rw[c7];intro e;have d:=lI a<|Z a-1;rw[show zx a (Z a-1)=0 from e]at d;exact b<|W9.1 d.symm
def mi{a}(b:can a):sz (zx a)=Z a:=by rw[zx,eJ<|arJ b,c7]
def aL.can{a}(b:aL a):can a:= .inr (by rw[b.2];decide)
def p7{a}(b:aL a):Mo (zx a):=by rw[Mo,mi<|aL.can b,lI,b.2];rfl
def arK{a b}(g:can a)(k:can b)(d:zx a=zx b):a=b:=by
 have l:∀i,I a i 0=I b i 0:=λi=>by
  have e:zx a i=zx b i:=by rw[d]
  rw[lI,lI]at e;exact xV.1 e
 refine Qj ?_ λj _=>l j
 have f:=mi g;rw[d,mi k]at f;exact f.symm
def Ld{A}(d:dt A):∃a,can a/\zx a=A:=by
 obtain⟨a,b,rfl⟩:=jS A;have e:∀i,I (a.map Rat.num) i 0=(I a i 0).num:=λi=>by rw[aO,jn,aO];cases a[i]? <;>rfl
 refine⟨a.map Rat.num,?_,ext λi=>?_⟩
 .rcases b with b|b
  .subst b;exact .inl J
  .right;rw[c7,e];exact λf=>b<|Rat.num_eq_zero.1 f
 .rw[lI,e];exact(d i).symm
def Qk{a}(f:can a)(b:Mo (zx a)):aL a:=by have d:=b;rw[Mo,mi f,lI]at d;refine⟨λe=>?_,xV.1 (d.trans Rat.intCast_one.symm)⟩;subst e;exact b.ne<|show zx []=0 from mI
def Ql{a b d}(f:zx a*zx b=zx d):ps a*ps b=ps d:=by rw[<-Lc,<-Lc,<-DN (zG a) (zG b),f,Lc]
def qV(A:PS){n:G}(a:∀i,n<=i->A i=0):Rx:=⟨λi=>(A i:Rat),n,λi b=>by rw[a i b];rfl⟩
def Qm A{n}(a:∀i,n<=i->A i=0):dt (qV A a):=λ_=>rfl
def Qn A{n}(a:∀i,n<=i->A i=0):nu (qV A a)=A:=rfl
def arL{A B}(a:dt A)(b:dt B)(d:nu A=nu B):A=B:=ext λi=>by rw[a.at,b.at,d]
def Xa{A B}(a:dt A)(b:dt B):dt (A+B)/\nu (A+B)=nu A+nu B:=by
 have e:∀i,(A+B) i=(((nu A+nu B) i:V):Rat):=λi=>by rw[dP,a.at,b.at,<-KZ];rfl
 exact⟨dt.of λi=>⟨_,e i⟩,PS.ext λi=>by show((A+B) i).num=_;rw[e];rfl⟩
def Hm a:dt (bG<|zx a)/\nu (bG<|zx a)=qU (ps a):=by
 have e:∀i,bG (zx a) i=((qU (ps a) i:V):Rat):=λi=>by rw[si,lI];show _=((((i:V)+1)*ps a (i+1):V):Rat);rw[fW];rfl
 exact⟨dt.of λi=>⟨_,e i⟩,PS.ext λi=>by show(bG (zx a) i).num=_;rw[e];rfl⟩
end Rx
def Qo{a b m}(d:a%m=b%m):dW a m=dW b m:=by unfold dW;rw[d]
def Bz{m}(b:0<m) a:dW a m%m=a%m:=by
 unfold dW;split
 .rw[zi,nT,Int.emod_self,Dp,nT]
 .exact nT _ _
def af2{m}(a:1<m):dW 1 m=1:=by unfold dW;rw[ix o a,j Y]
def arM m(a:0<m):dW 0 m=0:=by unfold dW;rw[iH,j Y]
def sn a{m}(b:0<m) i:(a.map (dW · m)).getD i 0=dW (I a i 0) m:=getD_map (f:=(dW · m)) (arM m b) a i
def arN{a b}{m}(d:0<m)(f:Z a=Z b)(g:∀i,I a i 0%m=I b i 0%m):a.map (dW · m)=b.map (dW · m):=Qj (by rw[c7,c7,f]) λj _=>by rw[sn a d,sn b d];exact Qo<|g j
def DW{a}{m}(d:1<m)(b:aL a):aL (a.map (dW · m)):=by refine⟨λe=>b.1<|List.map_eq_nil_iff.1 e,?_⟩;rw[c7,sn a Y,b.2];exact af2 d
open Fx
def af3{p}(H:bF p){b}{d}(f:bC p b)(k:b d=1)(l:∀i,d<i->b i=0):sz (mk b f)=d+1:=by
 have m:sz (mk b f)<=d+1:=Bu H.pos f λi s=>by rw[l i Y,iH]
 let ⟨a,n,e⟩:=jS H.pos<|mk b f;have g:=(mk_eq.1 (e:mk (ps a) (bC.ps p a)=mk b f)).at d;rw[<-e,dc n]at m⊢;by_cases hl:Z a<=d
 .rw[cM,fQ a hl,k,iH,H.one]at g;cases g
 .omega
def Xb{p}{A}{n}(a:∀i,n<=i->A i=0):bC p A:=⟨n,λi b=>by rw[a i b,iH]⟩
structure MD(d:G)(a:PS):Prop where
 one:a d=1
 z:∀i,d<i->a i=0
def MD.Qp{d}{a}(b:MD d a) p:bC p a:=Xb (n:=d+1) λi f=>b.z i Y
def af4{p:G}(H:bF p){a k K l:PS}{d x:G}(s:MD d a)(u:MD d k)(B:MD x K)(v:MD x l)(D:Co (mk a<|s.Qp p) (mk K<|B.Qp p))(c1:Cg p a k)(c2:Cg p K l):∀b,1<=b->Cg ((p:V)^b) (a*K) (k*l)->Cg ((p:V)^b) a k/\Cg ((p:V)^b) K l
 |0,N,_=>aJ N Y
 |1,_,_=>by rw[gG,qN,mc];exact⟨c1,c2⟩
 |b+1+1,_,N=>by
  have hp:=H.hp.1;have C:Cg ((p:V)^(b+1)) (a*K) (k*l):=Cg.of λi=>by have m:=uQ ((a*K) i) (show((p:V)^(b+1))∣(p:V)^(b+1+1)from⟨p,gG _ _⟩);have P:=uQ ((k*l) i) (show((p:V)^(b+1))∣(p:V)^(b+1+1)from⟨p,gG _ _⟩);rw[<-m,N.at,P]
  let ⟨i1,i2⟩:=af4 H s u B v D c1 c2 (b+1) Y C;obtain⟨q,eq⟩:∃q,q=(p:V)^(b+1):=⟨_,J⟩;have o:q≠0:=by rw[eq];exact Int.ne_of_gt<|ow Y
  rw[<-eq]at i1 i2;rw[gG,<-eq]at N⊢;let ⟨U,r⟩:=i1.symm;let ⟨f,y⟩:=i2.symm;have zU:∀i,d<=i->U i=0:=λi E=>by
   have m:k i=a i+q*U i:=by rw[r,PS.dP,PS.dL]
   have P:k i=a i:=by
    by_cases x:i=d
    .subst x;rw[s.one,u.one]
    .rw[s.z i Y,u.z i Y]
   have Q:q*U i=0:=Y;exact(Int.mul_eq_zero.1 Q).resolve_left o
  have zV:∀i,x<=i->f i=0:=λi E=>by
   have m:l i=K i+q*f i:=by rw[y,PS.dP,PS.dL]
   have P:l i=K i:=by
    by_cases F:i=x
    .subst F;rw[B.one,v.one]
    .rw[B.z i Y,v.z i Y]
   have Q:q*f i=0:=Y;exact(Int.mul_eq_zero.1 Q).resolve_left o
  have T:bC p U:=Xb zU;have I:bC p f:=Xb zV;have L:(p:V)∣q:=by rw[eq,gG];exact DX _ _
  have M:Cg p (a*f+U*K) 0:=Cg.Wc λi=>by
   have m:=N.symm.dvd i;have F:k*l=a*K+PS.K q*(a*f+U*K)+PS.K q*(PS.K q*(U*f)):=by rw[r,y];simp only[PS.fE,PS.gh];ac_rfl
   rw[F,PS.dP,PS.dP,PS.dL,PS.dL,PS.dL]at m;let ⟨w,hw⟩:=m;have P:q*((a*f+U*K) i+q*(U*f) i)=q*(p*w):=by rw[pU,<-jP q (p:V) w,<-hw];omega
   have Q:=Int.eq_of_mul_eq_mul_left o P;let ⟨z,hz⟩:=L;refine⟨w-z*(U*f) i,?_⟩;rw[PS.lD,Dp,GN,<-Q,hz,jP];omega
  have g:=s.Qp p;have X:=B.Qp p;have O:mk a g*mk f I+mk U T*mk K X=0:=mk_eq.2 M;have d1:mk a g∣mk U T*mk K X:=zn (by rw[O];exact uI _)<|nU _ _;have sG:sz (mk a g)=d+1:=af3 H g s.one s.z;have u0:mk U T=0:=by
   refine uJ H (D.dvd<|by rw[c8];exact d1) ?_;have:=Bu H.pos T (n:=d) λi E=>by rw[zU i E,iH]
   omega
  rw[u0,dw,fq]at O;have R:mk a g≠0:=λe0=>by rw[e0,je H.pos]at sG;omega
  have v0:mk f I=0:=eR λhv=>oA H R hv O
  have c:∀{A S W:PS}(Z:bC p W),S=A+PS.K q*W->mk W Z=0->Cg (q*p) A S:=λ{A S W} Z hA hW0=>Cg.symm (Cg.Wc λi=>by have m:=(mk_eq.1 (hW0:mk W Z=mk 0 (bC.zero p))).dvd i;rw[PS.lD,Dp]at m;let ⟨t,ht⟩:=m;refine⟨t,?_⟩;rw[hA,PS.dP,PS.dL,ht,jP];omega)
  exact⟨c T r u0,c I y v0⟩
def bN(b:G->Bool):G->E (E V)->E (E V)
 |_,[]=>[]
 |i,f::l=>if b i then f::bN b (i+1) l else bN b (i+1) l
def lJ(m:V)(g:E V):E (E V)->E V
 |[]=>g
 |f::l=>lJ m (uO g f m) l
def qW:E (E V)->PS
 |[]=>1
 |f::l=>ps f*qW l
def dQ:E (E V)->G
 |[]=>0
 |f::l=>(Z f-1)+dQ l
def af5(b:G->Bool):∀(l a:E (E V))(i:G),bN b i (l++a)=bN b i l++bN b (i+Z l) a
 |[],a,i=>rfl
 |f::l,a,i=>by rw[lO,bN,bN,af5 b l a<|i+1,iK,(Y:i+1+Z l=i+(Z l+1))];split<;>rfl
def af6(m:V):∀(l a:E (E V))(g:E V),lJ m g (l++a)=lJ m (lJ m g l) a
 |[],_,_=>rfl
 |f::l,a,g=>af6 m l a<|uO g f m
def zH{b:G->Bool}{x:E V}:∀{l:E (E V)}{i:G},x∈bN b i l->x∈l
 |[],_,a=>a
 |f::l,i,a=>by
  rw[bN]at a;split at a
  .rcases b9.1 a with rfl|a
   .simp
   .simp[zH a]
  .simp[zH a]
def Le{b:G->Bool}{d:E V->E V->Prop}:∀{l:E (E V)}{i:G},l.Pairwise d->(bN b i l).Pairwise d
 |[],_,a=>a
 |f::l,i,a=>by
  let ⟨g,h2⟩:=kI.1 a;rw[bN];split
  .exact kI.2 ⟨λy k=>g y<|zH k,Le h2⟩
  .exact Le h2
def Xc(b:G->Bool):∀(l:E (E V))(i:G),qW (bN b i l)*qW (bN (λi=> !b i) i l)=qW l
 |[],_=>PS.fv 1
 |f::l,i=>by
  have a:=Xc b l<|i+1;rw[bN,bN];cases b i
  .simp only[Fu,cr,jh,bV,qW];rw[<-a];ac_rfl
  .simp only[Qq,cr,jh,bV,qW];rw[<-a];ac_rfl
def Qr(b:G->Bool):∀(l:E (E V))(i:G),dQ (bN b i l)+dQ (bN (λi=> !b i) i l)=dQ l
 |[],_=>rfl
 |f::l,i=>by
  have a:=Qr b l<|i+1;rw[bN,bN];cases b i
  .simp only[Fu,cr,jh,bV,dQ];omega
  .simp only[Qq,cr,jh,bV,dQ];omega
def Qs(m:V):∀(l:E (E V))(g:E V),Cg m (ps<|lJ m g l) (ps g*qW l)
 |[],g=>Cg.of_eq (PS.fv _).symm
 |f::l,g=>by refine(Qs m l<|uO g f m).trans<|((WZ g f m).DD _).trans<|Cg.of_eq ?_;rw[qW];ac_rfl
def arP{a b}{m}(l:1<m)(f:aL a)(g:aL b):aL (uO a b m):=by
 have u:=cR.2 f.1;have v:=cR.2 g.1;have d:=W0 a b m;have n:=Cg.trans (WZ a b m)<|Cg.refl m _;have k:=n.at<|Z a-1+(Z b-1);have p:(ps a*ps b) (Z a-1+(Z b-1))=1:=by
  rw[PS.fV,zy (a:=Z a-1) Y λi x s=>?_]
  .rw[(Y:Z a-1+(Z b-1)-(Z a-1)=Z b-1),cM,cM,f.2,g.2];rfl
  .by_cases e:Z a<=i
   .rw[cM,fQ a e,ox]
   .rw[cM b,fQ b Y,iy]
 let ⟨r1,t⟩:=arH a b (by omega:0<m)<|Z a-1+(Z b-1);rw[p,cM,ix r1 t,ix o l]at k;refine⟨λe=>by rw[e]at d;simp at d;omega,?_⟩;rw[d,(Y:Z a+Z b-1-1=Z a-1+(Z b-1))];exact k
def BA{m:V}(a:1<m):∀{l:E (E V)}{g:E V},aL g->(∀f∈l,aL f)->aL (lJ m g l)/\Z (lJ m g l)=Z g+dQ l
 |[],g,hg,_=>⟨hg,J⟩
 |f::l,g,hg,b=>by
  have d:=b f ax;have k:=cR.2 d.1;have n:=cR.2 hg.1;let ⟨i,h2⟩:=BA a (l:=l) (arP a hg d) λx hx=>b x k7
  refine⟨i,?_⟩;rw[lJ,h2,W0,dQ];omega
def DY:aL [1]:=⟨ax,J⟩
def aL.wH{a}(b:aL a):MD (Z a-1) (ps a):=⟨b.2,λi d=>fQ a Y⟩
def gS(m:V)(l:E (E V))(b:G->Bool):E V:=(lJ m [1] (bN b 0 l)).map (dW · m)
section
variable{p:G}
def gN:E (E V)->Fx p
 |[]=>1
 |f::l=>fx f*gN l
def arQ l:bC p (qW l):=by
 induction l with
 |nil=>exact bC.one p
 |cons f l a=>exact(bC.ps p f).mul a
def Ho:∀l:E (E V),(gN l:Fx p)=mk (qW l) (arQ l)
 |[]=>rfl
 |f::l=>by rw[gN,Ho l];rfl
def BB l m(a:(p:V)∣m):(fx (lJ m [1] l):Fx p)=gN l:=by rw[Ho];refine mk_eq.2 ?_;have h:=Qs m l [1];rw[PK,PS.cY]at h;exact Cg.of λi=>by have b:=h.at i;rw[<-uQ _ a,b,uQ _ a]
def wI(H:bF p){g}(a:aL g):sz (fx g:Fx p)=Z g:=by have:=cR.2 a.1;have b:=af3 H (bC.ps p g) a.wH.one a.wH.z;rw[(Y:Z g-1+1=Z g)]at b;exact b
def af7(H:bF p){g a}(b:aL g)(d:aL a){f:Fx p}(m:sz f=1)(i:fx g=f*fx a):(fx g:Fx p)=fx a:=by
 have t:=wI H b;have s2:=wI H d;have u:=cR.2 b.1;have k:f≠0:=λe=>by rw[e,je H.pos]at m;omega
 have l:(fx a:Fx p)≠0:=λe=>by rw[e,je H.pos]at s2;have:=cR.2 d.1;omega
 have s:=dV H k l;rw[<-i]at s;obtain⟨c,v,rfl⟩:=He H m;have n:ps g (Z g-1)%(p:V)=(PS.K c*ps a) (Z g-1)%(p:V):=(mk_eq.1 (i:mk (ps g) (bC.ps p g)=mk (PS.K c*ps a) ((bC.K p c).mul<|bC.ps p a))).at (Z g-1);rw[PS.dL,cM,cM,b.2,(Y:Z g-1=Z a-1),d.2,oy]at n;rw[i,(DP n.symm:(K c:Fx p)=K 1),jE,cY]
def Xd(H:bF p){d:Fx p}:∀{l:E (E V)},l.Pairwise (λx a=>Co (fx x:Fx p)<|fx a)->(∀f∈l,(fx f:Fx p)∣d)->(gN l:Fx p)∣d
 |[],_,_=>⟨d,(fv d).symm⟩
 |f::l,hp,b=>by
  let ⟨i,h2⟩:=kI.1 hp;refine Co.arv ?_ (b f ax)<|Xd H h2 λx hx=>b x k7;have g:∀{l:E (E V)},(∀a∈l,Co (fx f:Fx p) (fx a))->Co (fx f:Fx p) (gN l):=by
   intro l;induction l with
   |nil=>intro _;exact⟨0,1,by rw[dw,im];exact cY 1⟩
   |cons a l k=>intro b;exact(b a ax).mul (k λz m=>b z<|by simp[m])
  exact g i
def Lf{b:G->Bool}{x:E V}:∀{l:E (E V)}{i:G},x∈bN b i l->∃a,a<Z l/\b (i+a)=af/\l.getD a []=x
 |[],_,d=>by cases d
 |f::l,i,d=>by
  rw[bN]at d;split at d
  .rename_i k;rcases b9.1 d with rfl|d
   .exact⟨0,ax,k,J⟩
   .let ⟨a,m,h2,g⟩:=Lf d;exact⟨a+1,b6,by rw[(Y:i+(a+1)=i+1+a)];exact h2,g⟩
  .let ⟨a,m,h2,g⟩:=Lf d;exact⟨a+1,b6,by rw[(Y:i+(a+1)=i+1+a)];exact h2,g⟩
def Xe{b:G->Bool}:∀{l:E (E V)}{i j:G},j<Z l->b (i+j)=af->l.getD j []∈bN b i l
 |[],_,_,h,_=>by simp at h
 |f::l,i,0,_,h=>by rw[bN,q eQ];simp
 |f::l,i,j+1,h,a=>by
  have:=Xe (l:=l) (i:=i+1) (j:=j) (by simp at h;omega) (by rw[(Y:i+1+j=i+(j+1))];exact a);rw[bN];split
  .exact kJ _ this
  .exact this
end
def arR{x m}(a:2*(aD x:V)<m):dW x m=x:=by
 unfold dW;by_cases hx:0<=x
 .rw[ix hx Y,j Y]
 .have e:x%m=x+m:=by rw[<-Int.add_emod_right,ix Y Y]
  rw[e,q Y];omega
end Go.El
namespace Go.El
open Go Go.Proofs Go.RowKit
namespace Rx
def Xf{d A B}(f:Mo d)(a:d=A*B)(s:sz A≠1)(t:sz B≠1):∃u v,Mo u/\Mo v/\d=u*v/\2<=sz u/\2<=sz v:=by
 have g:A≠0:=λi=>f.ne (by rw[a,i,dw])
 have k:B≠0:=λi=>f.ne (by rw[a,i,g8])
 let ⟨c,hc,hm⟩:=ae' g;have l:d=(K c⁻¹ *B)*(K c*A):=by have m:K c⁻¹ *B*(K c*A)=(K c⁻¹ *K c)*(A*B):=fF;rw[m,tC hc,cY,<-a]
 have n:Mo (K c⁻¹ *B):=by rw[l]at f;exact f.zu hm
 have x:=fe g;have z:=fe k;have p:=dV (tD hc) g;have b:c⁻¹ ≠0:=λa=>by have:=nV _ hc;rw[a,ni]at this;exact aJ this o
 have s2:=dV (tD b) k;rw[wD hc]at p;rw[wD b]at s2;exact⟨K c*A,K c⁻¹ *B,hm,n,by rw[l,c8],Y,Y⟩
def Qt{u v}(l:Mo u)(m:Mo v)(n:dt (u*v)):dt u/\dt v:=by
 let ⟨a,f⟩:=K1 u;let ⟨b,g⟩:=K1 v;have one:∀A:Rx,K ((1:G):Rat)*A=A:=λA=>cY A
 have p:Dn (u*v) 1:=⟨o,by rw[one];exact n,λd _=>Nat.one_dvd d⟩;have e:=afn l m f g p;have s:a=1:=Nat.dvd_one.1 ⟨b,e⟩;have t:b=1:=Nat.dvd_one.1 ⟨a,by rw[ic];exact e⟩;subst s t;have i:=f.int;have k:=g.int;rw[one]at i k;exact⟨i,k⟩
def qX:E (E V)->Rx
 |[]=>1
 |f::l=>zx f*qX l
end Rx
open Fx
def cj(b:G->Bool):G->G
 |0=>0
 |n+1=>cj b n+(if b n then 1 else 0)
def Lg{b a:G->Bool}:∀{n:G},(∀i,i<n->b i=a i)->cj b n=cj a n
 |0,_=>rfl
 |n+1,d=>by rw[cj,cj,Lg<|λi f=>d i Y,d n Y]
def af8{b a:G->Bool}:∀{n:G},(∀i,i<n->b i=af->a i=af)->cj b n<=cj a n
 |0,_=>aN _
 |n+1,d=>by
  have k:=af8 (n:=n) λi l=>d i Y
  have f:=d n Y;rw[cj,cj];cases g:b n
  .simp only[jh,bV];omega
  .rw[f g];simp only[cr];omega
def Xg{b c:G->Bool}:∀{n:G},(∀i,i<n->b i=af->c i=af)->(∃i,i<n/\b i=ak/\c i=af)->cj b n<cj c n
 |0,_,⟨i,a,_⟩=>aJ a Y
 |n+1,a,⟨i,m,h2,d⟩=>by
  rw[cj,cj];by_cases f:i=n
  .subst f;have:=af8 (n:=i) λj g=>a j Y
   rw[h2,d];simp;omega
  .have p:=Xg (n:=n) (λj g=>a j Y) ⟨i,Y,h2,d⟩;have k:=a n Y;cases l:b n
   .simp only[jh,bV];omega
   .rw[k l];simp only[cr];omega
def Xh(b:G->Bool):∀n,cj b n+cj (λi=> !b i) n=n
 |0=>rfl
 |n+1=>by have:=Xh b n;rw[cj,cj];cases b n<;>simp<;>omega
def af9{b:G->Bool}:∀{n:G},0<cj b n->∃i,i<n/\b i=af
 |0,h=>aJ h (by simp[cj])
 |n+1,h=>by
  cases a:b n
  .rw[cj,a]at h;obtain⟨i,f,d⟩:=af9 (n:=n) eQ;exact⟨i,Y,d⟩
  .exact⟨n,Y,a⟩
def Xi{b:G->Bool}{n i}(a:i<n)(d:b i=af):0<cj b n:=by have:=Xg (b:=λ_=>ak) (c:=b) (n:=n) (λj _ f=>by cases f) ⟨i,a,J,d⟩;omega
def qY(b:G->Bool):G->G
 |0=>0
 |n+1=>(if b n then 2^n else 0)+qY b n
def Qu(b:G->Bool):∀n,qY b n<2^n
 |0=>H4
 |n+1=>by have:=Qu b n;rw[qY,gK];split<;>omega
def Xj(b:G->Bool):∀{n i:G},i<n->oa (qY b n) i=b i
 |0,_,a=>aJ a Y
 |n+1,i,a=>by
  rw[qY];by_cases g:i=n
  .subst g;have d:=Nat.testBit_lt_two_pow<|Qu b i;cases k:b i
   .simp only[jh,bV,fc];exact d
   .simp only[cr];rw[Nat.testBit_two_pow_add_eq,d];rfl
  .have f:=Xj b (n:=n) (i:=i) Y;cases k:b n
   .simp only[jh,bV,fc];exact f
   .simp only[cr];rw[Nat.testBit_two_pow_add_gt Y];exact f
def wJ(n s:G):E G:=(cy<|2^n).filter λS=>cj S.testBit n==s
def nl(n:G):E G:=(cy<|n/2).flatMap λs=>wJ n<|s+1
def BC{n T}:T∈nl n↔T<2^n/\1<=cj T.testBit n/\cj T.testBit n<=n/2:=by
 unfold nl wJ;simp only[iY,ru,qj,beq_iff_eq];constructor
 .rintro⟨s,a,b,d⟩;omega
 .rintro⟨a,b,d⟩;exact⟨cj T.testBit n-1,Y,a,Y⟩
def arS n:(nl n).Pairwise (λx a=>cj x.testBit n<=cj a.testBit n):=by
 have d:∀k,((cy k).flatMap λs=>wJ n<|s+1).Pairwise (λx a=>cj x.testBit n<=cj a.testBit n):=by
  intro k;induction k with
  |zero=>exact .nil
  |succ k g=>
   rw[Ag,FC]
   refine zI.2 ⟨g,?_,λx b a f=>?_⟩
   .simp only[lQ,Qv,iO];refine Qa ?_ (List.pairwise_of_forall (R:=λ_ _=>True) (λ_ _=>trivial):(wJ n<|k+1).Pairwise λ_ _=>True);intro x a b f _;simp only[wJ,qj,beq_iff_eq]at b f;omega
   .simp only[iY,ru,lQ,Qv,iO,wJ,qj,beq_iff_eq]at b f;let ⟨s,i,h2,l⟩:=b;omega
 exact d _
structure iz(p:G)(m:V)(a:E V)(l:E (E V)):Prop where
 H:bF p
 pm:∃e,1<=e/\m=(p:V)^e
 am:aL a
 lm:∀f∈l,aL f
 gI:∀f∈l,bw (fx f:Fx p)
 pair:l.Pairwise (λx b=>Co (fx x:Fx p)<|fx b)
 pr:Cg m (ps a) (qW l)
 mJ:sk (fx a:Fx p)
 len:a.length=1+dQ l
 bd:∀g,aL g->Rx.zx g∣Rx.zx a->∀i,2*((g.getD i 0).natAbs:V)<m
section
variable{p:G}{m:V}{a:E V}{l:E (E V)}
def iz.m1(b:iz p m a l):1<m/\(p:V)∣m:=by obtain⟨e,f,rfl⟩:=b.pm;have g:=b.H.hp.1;obtain⟨e,rfl⟩:∃d,e=d+1:=⟨e-1,Y⟩;have i:(0:V)<(p:V)^e:=ow Y;rw[gG];refine⟨?_,DX _ _⟩;have k:=iE (Y:(1:V)<=(p:V)^e) (Y:(0:V)<=p);omega
def iz.co(n:iz p m a l){i b}(d:i<Z l)(f:b<Z l)(g:i≠b):Co (fx (l.getD i []):Fx p) (fx<|l.getD b []):=by
 have k:=List.pairwise_iff_getElem.1 n.pair;rw[aO,aO,cT d,cT f];rcases are g with e|e
 .exact k i b d f e
 .exact(k b i f d e).symm
def iz.Lh(d:iz p m a l){i}(b:i<Z l):l.getD i []∈l:=by rw[aO,cT b];exact sW b
def af'{Q:Fx p}(H:bF p)(hQ:bw Q):∀{l:E (E V)},Q∣gN l->∃f∈l,Q∣fx f
 |[],b=>aJ b<|hQ.zs H
 |f::l,b=>by
  rcases hQ.nW H b with d|d
  .exact⟨f,ax,d⟩
  .let ⟨x,h1,h2⟩:=af' H hQ d;exact⟨x,zw,h2⟩
def iz.arT(d:iz p m a l)(b:G->Bool):(fx (gS m l b):Fx p)=gN (bN b 0 l):=by let ⟨f,h2⟩:=d.m1;rw[<-BB (bN b 0 l) m h2];refine P9<|Cg.of λi=>?_;rw[cM,cM,gS,sn _ Y,<-uQ _ h2,Bz Y,uQ _ h2]
def iz.DZ(d:iz p m a l)(b:G->Bool):aL (gS m l b)/\Z (gS m l b)=1+dQ (bN b 0 l):=by let ⟨g,h2⟩:=d.m1;let ⟨i,k⟩:=BA g DY (λf n=>d.lm f (zH n):∀f∈bN b 0 l,aL f);refine⟨DW g i,?_⟩;rw[gS,c7,k];rfl
def iz.aga(d:iz p m a l)(b:G->Bool){k}(n:k<Z l):(fx (l.getD k []):Fx p)∣fx (gS m l b)↔b k=af:=by
 rw[d.arT];constructor
 .intro v;let ⟨f,g,x⟩:=af' d.H (d.gI _<|d.Lh n) v;let ⟨i,h2,t,z⟩:=Lf g;rw[fc]at t;by_cases e:k=i
  .rw[e];exact t
  .have u:=d.co n h2 e;rw[z]at u;have:=u.unit d.H x;have:=(d.gI _<|d.Lh n).1;omega
 .intro A;have:=Xe (b:=b) (l:=l) (i:=0) (j:=k) n (by rw[fc];exact A);have s:∀{l:E (E V)}{f:E V},f∈l->(fx f:Fx p)∣gN l:=by
   intro l;induction l with
   |nil=>intro f g;cases g
   |cons y l B=>
    intro f g
    rcases b9.1 g with rfl|g
    .exact nU _ _
    .exact eW (B g) _
  exact s this
def D0{b c:G->Bool}:∀{l:E (E V)}{i:G},(∀d,d<Z l->b (i+d)=c (i+d))->bN b i l=bN c i l
 |[],_,_=>rfl
 |f::l,i,g=>by
  have k:=D0 (b:=b) (c:=c) (l:=l) (i:=i+1) λd n=>by have:=g (d+1) b6;rwa[(Y:i+(d+1)=i+1+d)]at this
  rw[bN,bN,k];have:=g 0 ax;rw[jZ]at this;rw[this]
def Xk{x b z}(d:ps x*ps b=ps z):(fx z:Fx p)=fx x*fx b:=(jU d ((bC.ps p x).mul<|bC.ps p b)<|bC.ps p z).symm
def iz.mask(n:iz p m a l){g k}(D:aL g)(hk:aL k)(cJ:Rx.zx a=Rx.zx g*Rx.zx k):
  ∃b:G->Bool,g=gS m l b/\k=gS m l (λi=> !b i)/\(∀d,d<Z l->(b d=af↔(fx (l.getD d []):Fx p)∣fx g))/\Cg m (ps g) (qW<|bN b 0 l)/\Cg m (ps k) (qW<|bN (λi=> !b i) 0 l):=by
 let ⟨C,u⟩:=n.m1
 have H:=n.H
 have K:(1:V)<p:=DR
 have N:=Rx.Ql cJ.symm
 have v:(fx a:Fx p)=fx g*fx k:=Xk N
 classical
 let b:G->Bool:=λd=>decide<|(fx (l.getD d []):Fx p)∣fx g
 have hb:∀d,b d=af↔(fx (l.getD d []):Fx p)∣fx g:=λd=>decide_eq_true_iff
 have x:∀c:G->Bool,∀f∈bN c 0 l,aL f:=λc f s=>n.lm f<|zH s
 have d1:(gN (bN b 0 l):Fx p)∣fx g:=Xd H (Le n.pair) λf s=>by let ⟨d,_,h2,h3⟩:=Lf s;rw[fc]at h2;rw[<-h3];exact(hb d).1 h2
 have eA:(fx a:Fx p)=gN l:=by rw[Ho];refine mk_eq.2<|Cg.of λi=>?_;have:=n.pr.at i;rw[<-uQ _ u,this,uQ _ u]
 have P:∀{l:E (E V)}{f:E V},f∈l->(fx f:Fx p)∣gN l:=by
  intro l;induction l with
  |nil=>intro f s;cases s
  |cons y l ih=>
   intro f s
   rcases b9.1 s with rfl|s
   .exact nU _ _
   .exact eW (ih s) _
 have d2:(gN (bN (λi=> !b i) 0 l):Fx p)∣fx k:=Xd H (Le n.pair) λf s=>by
  let ⟨d,z,h2,h3⟩:=Lf s;rw[fc]at h2;have T:=n.Lh z;rw[<-h3];have hd:(fx (l.getD d []):Fx p)∣fx g*fx k:=by rw[<-v,eA];exact P T
  rcases(n.gI _ T).nW H hd with e1|e1
  .rw[(hb d).2 e1]at h2;cases h2
  .exact e1
 have e2:(gN (bN b 0 l)*gN (bN (λi=> !b i) 0 l):Fx p)=gN l:=by rw[Ho,Ho,Ho,afB];exact jU (Xc b l 0) _ _
 let ⟨w,hw⟩:=d1
 let ⟨W,B⟩:=d2
 have X:(fx a:Fx p)≠0:=λo=>by have z:=wI H n.am;rw[o,je H.pos]at z;have:=cR.2 n.am.1;omega
 have ww:w*W=1:=by refine zq H (A:=(gN l:Fx p)) (by rw[<-eA];exact X) ?_;rw[cY,<-e2];have e3:w*W*(gN (bN b 0 l)*gN (bN (λi=> !b i) 0 l))=w*gN (bN b 0 l)*(W*gN (bN (λi=> !b i) 0 l)):=fF;rw[e3,<-hw,<-B,<-v,eA,e2]
 have sw:sz w=1:=zr H (by rw[c8];exact ww:W*w=1)
 have sw':sz W=1:=zr H ww
 let ⟨q,tl1⟩:=BA K DY<|x b
 let ⟨r,tl2⟩:=BA K DY<|x λi=> !b i
 have eg:(fx g:Fx p)=gN (bN b 0 l):=by have hp:=BB (p:=p) (bN b 0 l) p<|Li _;rw[<-hp]at hw⊢;exact af7 H D q sw hw
 have ek:(fx k:Fx p)=gN (bN (λi=> !b i) 0 l):=by have hp:=BB (p:=p) (bN (λi=> !b i) 0 l) p<|Li _;rw[<-hp]at B⊢;exact af7 H hk r sw' B
 have lg:Z g=1+dQ (bN b 0 l):=by have z:=wI H D;rw[eg,<-BB (p:=p) (bN b 0 l) p (Li _),wI H q,tl1]at z;rw[<-z];rfl
 have lk:Z k=1+dQ (bN (λi=> !b i) 0 l):=by have z:=wI H hk;rw[ek,<-BB (p:=p) (bN (λi=> !b i) 0 l) p (Li _),wI H r,tl2]at z;rw[<-z];rfl
 let ⟨um1,F⟩:=BA C DY<|x b
 let ⟨um2,L⟩:=BA C DY<|x λi=> !b i
 have c1:Cg p (ps g) (ps<|lJ m [1] (bN b 0 l)):=mk_eq.1 (eg.trans (BB (bN b 0 l) m u).symm:Fx.mk (ps g) (bC.ps p g)=Fx.mk (ps<|lJ m [1] (bN b 0 l)) (bC.ps p _))
 have c2:Cg p (ps k) (ps<|lJ m [1] (bN (λi=> !b i) 0 l)):=mk_eq.1 (ek.trans (BB (bN (λi=> !b i) 0 l) m u).symm:Fx.mk (ps k) (bC.ps p k)=Fx.mk (ps<|lJ m [1] (bN (λi=> !b i) 0 l)) (bC.ps p _))
 have Xl:Co (fx g:Fx p) (fx k):=Hf H (λo=>X<|by rw[v,o,dw]) λQ hQ q1 q2=>n.mJ Q hQ (by rw[v];exact zt q1 q2)
 have M:MD (Z g-1) (ps<|lJ m [1] (bN b 0 l)):=by have:=um1.wH;rwa[F,show Z ([1]:E V)=1 from J,<-lg]at this
 have O:MD (Z k-1) (ps<|lJ m [1] (bN (λi=> !b i) 0 l)):=by have:=um2.wH;rwa[L,show Z ([1]:E V)=1 from J,<-lk]at this
 let ⟨o,Qw,R⟩:=n.pm
 have t1:=Qs m (bN b 0 l) [1]
 have t2:=Qs m (bN (λi=> !b i) 0 l) [1]
 rw[PK,PS.cY]at t1 t2
 have AS:Cg m (ps g*ps k) (ps (lJ m [1] (bN b 0 l))*ps (lJ m [1] (bN (λi=> !b i) 0 l))):=by rw[N];refine n.pr.trans ?_;rw[<-Xc b l 0];exact(t1.mul t2).symm
 have S:=af4 H D.wH M hk.wH O Xl c1 c2 o Qw<|R▸AS
 rw[<-R]at S
 have U:∀{g:E V}{t:E V},aL g->Rx.zx g∣Rx.zx a->Z g=Z t->Cg m (ps g) (ps t)->g=t.map (dW · m):=by
  intro g t D hd hl hc;refine Qj (by rw[c7,hl]) λd _=>?_
  rw[sn _ Y,<-Qo (a:=I g d 0) (b:=I t d 0) (hc.at d)];exact(arR<|n.bd g D hd d).symm
 refine⟨b,U D (by rw[cJ];exact Rx.nU _ _) (by rw[F,lg];rfl) S.1,U hk (by rw[cJ];exact Rx.jd _ _) (by rw[L,lk];rfl) S.2,λd _=>hb d,S.1.trans t1,S.2.trans t2⟩
def iz.agb(d:iz p m a l){b:G->Bool}(n:0<cj b (Z l)):1<=dQ (bN b 0 l):=by
 let ⟨j,f,h2⟩:=af9 n;have s:=Xe (b:=b) (l:=l) (i:=0) f (by rw[fc];exact h2);have t:=(d.gI _<|d.Lh f).1;rw[wI d.H (d.lm _<|d.Lh f)]at t;have g:∀{L:E (E V)},l.getD j []∈L->1<=dQ L:=by
  intro L;induction L with
  |nil=>intro k;cases k
  |cons y L u=>
   intro k
   rw[dQ]
   rcases b9.1 k with e|e
   .rw[<-e];omega
   .have:=u e;omega
 exact g s
def iz.GZ(t:iz p m a l){u v}(b:Rx.Mo u)(d:Rx.Mo v)(i:Rx.zx a=u*v):∃g k,aL g/\aL k/\Rx.zx g=u/\Rx.zx k=v:=by let ⟨i1,i2⟩:=Rx.Qt b d<|i▸Rx.zG a;let ⟨g,n,g2⟩:=Rx.Ld i1;let ⟨k,s,f⟩:=Rx.Ld i2;exact⟨g,k,Rx.Qk n<|g2▸b,Rx.Qk s<|f▸d,g2,f⟩
def iz.first(f:iz p m a l){d}(hS:d∈nl (Z l))(hd:Rx.zx (gS m l d.testBit)∣Rx.zx a)(hf:∀T∈nl (Z l),cj T.testBit (Z l)<cj d.testBit (Z l)->¬Rx.zx (gS m l T.testBit)∣Rx.zx a):Rx.bw (Rx.zx<|gS m l d.testBit):=by
 let ⟨_,U,hS2⟩:=BC.1 hS;let ⟨K,gl⟩:=f.DZ d.testBit;have Ge:=f.agb (b:=d.testBit) Y;refine⟨by rw[Rx.mi K.can];omega,λA B e=>eR λI=>?_⟩;let ⟨u,v,hu,hv,N,su,sv⟩:=Rx.Xf (Rx.p7 K) e (λf=>I<|.inl f)<|λf=>I<|.inr f;let ⟨k,J⟩:=hd;have Q:Rx.Mo k:=by have:=Rx.p7 f.am;rw[J]at this;exact this.zu<|Rx.p7 K
 have W:Rx.zx a=u*(k*v):=by rw[J,N];ac_rfl
 let ⟨t,k',M,k1,g2,k2⟩:=f.GZ hu (Q.mul hv) W;let ⟨b,O,b2,b3,_⟩:=f.mask M k1 (by rw[g2,k2];exact W);have X:∃x,aL x/\Rx.zx x=v:=by let ⟨_,i2⟩:=Rx.Qt hu hv<|N▸Rx.zG _;let ⟨x,v1,v2⟩:=Rx.Ld i2;exact⟨x,Rx.Qk v1<|v2▸hv,v2⟩
 let ⟨x,_,v2⟩:=X;have q:(fx (gS m l d.testBit):Fx p)=fx t*fx x:=Xk (Rx.Ql<|by rw[g2,v2];exact N.symm);have sub:∀i,i<Z l->b i=af->oa d i=af:=λi P C=>(f.aga d.testBit P).1 (by rw[q];exact nj ((b3 i P).1 C) _)
 have s:Z t=1+dQ (bN b 0 l):=by rw[O];exact(f.DZ b).2
 have sg':Rx.sz u=Z t:=by rw[<-g2,Rx.mi M.can]
 have r:Z t<Z (gS m l d.testBit):=by have:=Rx.dV hu.ne hv.ne;rw[<-N,Rx.mi K.can]at this;omega
 have w:∃i,i<Z l/\b i=ak/\oa d i=af:=eR λF=>by
  have:bN b 0 l=bN d.testBit 0 l:=D0 λg D=>by
   rw[fc];cases C:b g
   .cases hs:oa d g
    .rfl
    .exact aJ ⟨g,D,C,hs⟩ F
   .exact(sub g D C).symm
  rw[s,this]at r;omega
 have qk:=Xg sub w;have vJ:0<cj b (Z l):=by
  rcases r8 (cj b<|Z l)with R|R
  .have:bN b 0 l=bN (λ_=>ak) 0 l:=D0 λg D=>by
    rw[fc];cases C:b g
    .rfl
    .have:=Xi D C;omega
   have z:∀(L:E (E V))(i:G),bN (λ_=>ak) i L=[]:=by
    intro L;induction L with
    |nil=>intro i;rfl
    |cons y L ih=>intro i;rw[bN,j o,ih]
   rw[this,z]at s;have:Z t=1:=s;omega
  .exact R
 have n:∀i,i<Z l->oa (qY b<|Z l) i=b i:=λi P=>Xj b P
 have C9:cj (qY b<|Z l).testBit (Z l)=cj b (Z l):=Lg n;have H:gS m l (qY b<|Z l).testBit=t:=by rw[O,gS,gS,D0 (b:=(qY b<|Z l).testBit) (c:=b) λg D=>by rw[fc];exact n g D]
 refine hf (qY b<|Z l) (BC.2 ⟨Qu b _,Y,Y⟩) Y ?_;rw[H,g2,W];exact Rx.nU _ _
def iz.none(d:iz p m a l)(hl:l≠[])(hf:∀T∈nl (Z l),¬Rx.zx (gS m l T.testBit)∣Rx.zx a):Rx.bw (Rx.zx a):=by
 have t:=cR.2 hl;have n:=d.agb (b:=λ_=>af)<|Xi (i:=0) t J;have U:∀(L:E (E V))(i:G),bN (λ_=>af) i L=L:=by
  intro L;induction L with
  |nil=>intro i;rfl
  |cons y L C=>intro i;rw[bN,q J,C]
 rw[U]at n;have P:=d.len;refine⟨by rw[Rx.mi d.am.can];omega,λA B e=>eR λQ=>?_⟩;let ⟨u,v,hu,hv,s,W,X⟩:=Rx.Xf (Rx.p7 d.am) e (λd=>Q<|.inl d)<|λd=>Q<|.inr d;let ⟨g,k,r,w,g2,D⟩:=d.GZ hu hv s;let ⟨b,F,I,b3,_⟩:=d.mask r w (by rw[g2,D];exact s);have pos:∀{c:G->Bool}{x:E V},x=gS m l c->2<=Z x->0<cj c (Z l):=by
  intro c x H h2;rcases r8 (cj c<|Z l)with M|M
  .have e1:bN c 0 l=bN (λ_=>ak) 0 l:=D0 λK N=>by
    rw[fc];cases hb:c K
    .rfl
    .have:=Xi N hb;omega
   have z:∀(L:E (E V))(i:G),bN (λ_=>ak) i L=[]:=by
    intro L;induction L with
    |nil=>intro i;rfl
    |cons y L C=>intro i;rw[bN,j o,C]
   have O:=(d.DZ c).2;rw[<-H,e1,z]at O;have:Z x=1:=O;omega
  .exact M
 have p1:=pos F (by rw[<-g2,Rx.mi r.can]at W;exact W);have p2:=pos I (by rw[<-D,Rx.mi w.can]at X;exact X);have R:=Xh b<|Z l;have S:∀(c:G->Bool)(x:E V),x=gS m l c->0<cj c (Z l)->cj c (Z l)<=Z l/2->Rx.zx x∣Rx.zx a->False:=by
  intro c x H hp hle hd;have f:∀i,i<Z l->oa (qY c<|Z l) i=c i:=λi hi=>Xj c hi
  have C9:cj (qY c<|Z l).testBit (Z l)=cj c (Z l):=Lg f;refine hf (qY c<|Z l) (BC.2 ⟨Qu c _,Y,Y⟩) ?_;rw[show gS m l (qY c<|Z l).testBit=x by rw[H,gS,gS,D0 (b:=(qY c<|Z l).testBit) (c:=c) λK N=>by rw[fc];exact f K N]];exact hd
 by_cases hh:cj b (Z l)<=Z l/2
 .exact S b g F p1 hh (by rw[g2,s];exact Rx.nU _ _)
 .exact S _ k I p2 Y (by rw[D,s];exact Rx.jd _ _)
end
open Classical in
def nY(a g:E V):E V:=if h:∃q,aL q/\Rx.zx a=Rx.zx g*Rx.zx q then zC h else[]
open Classical in
def uR(m:V)(a:E V)(l:E (E V)):Option G:=(nl<|Z l).find? λS=>decide<|Rx.zx (gS m l S.testBit)∣Rx.zx a
def tH(m:V):G->E V->E (E V)->E (E V)
 |0,a,_=>[a]
 |k+1,a,l=>match uR m a l with
  |some b=>gS m l b.testBit::tH m k (nY a<|gS m l b.testBit) (bN (λi=> !b.testBit i) 0 l)
  |none=>[a]
open Classical in
def agc{m}{a}{l}{d}(g:uR m a l=ae d):∃b f,nl (Z l)=b++d::f/\Rx.zx (gS m l d.testBit)∣Rx.zx a/\∀T∈b,¬Rx.zx (gS m l T.testBit)∣Rx.zx a:=by unfold uR at g;let ⟨i,b,f,h2,k⟩:=List.find?_eq_some_iff_append.1 g;refine⟨b,f,h2,aX i,λT n p=>?_⟩;have:=k T n;rw[IC]at this;exact bh this p
open Classical in
def ar0{m}{a}{l}(b:uR m a l=none):∀T∈nl (Z l),¬Rx.zx (gS m l T.testBit)∣Rx.zx a:=by unfold uR at b;intro T d f;exact List.find?_eq_none.1 b T d<|tk f
section
variable{p:G}{m:V}{a:E V}{l:E (E V)}
def iz.ar1(i:iz p m a l){b}(k:uR m a l=ae b):Rx.bw (Rx.zx<|gS m l b.testBit):=by
 let ⟨us,ws,d,h2,n⟩:=agc k;have s:b∈nl (Z l):=by rw[d];simp
 refine i.first s h2 λT f t=>?_
 have g:=arS<|Z l;rw[d]at f g;rcases bg.1 f with e|e
 .exact n T e
 .exfalso;rcases b9.1 e with e|e
  .subst e;omega
  .have:=(kI.1 (zI.1 g).2.1).1 T e;omega
def iz.rest(s:iz p m a l){d}(hS:d∈nl (Z l))(hd:Rx.zx (gS m l d.testBit)∣Rx.zx a):Rx.zx a=Rx.zx (gS m l d.testBit)*Rx.zx (nY a<|gS m l d.testBit)/\iz p m (nY a<|gS m l d.testBit) (bN (λi=> !d.testBit i) 0 l)/\bN (λi=> !d.testBit i) 0 l≠[]/\Z (bN (λi=> !d.testBit i) 0 l)<Z l:=by
 let ⟨_,w,F⟩:=BC.1 hS;let ⟨B,gl⟩:=s.DZ d.testBit;have u:∃q,aL q/\Rx.zx a=Rx.zx (gS m l d.testBit)*Rx.zx q:=by
  let ⟨k,C⟩:=hd;have D:Rx.Mo k:=by have:=Rx.p7 s.am;rw[C]at this;exact this.zu<|Rx.p7 B
  let ⟨I,o,J,_,M,_⟩:=s.GZ D (Rx.p7 B) C;exact⟨I,J,by rw[M,C,Rx.c8]⟩
 let ⟨K,v⟩:=xN u;have O:nY a (gS m l d.testBit)=zC u:=by unfold nY;rw[dif_pos u]
 rw[<-O]at K v;generalize hg:gS m l d.testBit=g at*;generalize nY a g=q at*;let ⟨b,b1,R,U,b4,b5⟩:=s.mask B K v;have N:∀j,j<Z l->b j=oa d j:=λj A=>by
  have P:=U j A;rw[<-hg,s.aga d.testBit A]at P;cases Q:b j
  .cases hs:oa d j
   .rfl
   .rw[P.2 hs]at Q;cases Q
  .exact(P.1 Q).symm
 have t:bN (λi=> !b i) 0 l=bN (λi=> !d.testBit i) 0 l:=D0 λj A=>by rw[fc,N j A]
 have x:∀(c:G->Bool)(L:E (E V))(i:G),Z (bN c i L)=cj (λj=>c<|i+j) (Z L):=by
  intro c L;induction L with
  |nil=>intro i;rfl
  |cons y L ih=>
   intro i
   have sh:∀n,cj (λj=>c<|i+j) (n+1)=(if c i then 1 else 0)+cj (λj=>c<|i+1+j) n:=by
    intro n;induction n with
    |zero=>rw[cj,cj,cj];simp
    |succ n T=>rw[cj,T,cj,(Y:i+(n+1)=i+1+n)];omega
   rw[bN,iK,sh]
   have:=ih<|i+1
   split
   .rw[iK];omega
   .omega
 have z:Z (bN (λi=> !d.testBit i) 0 l)=cj (λi=> !d.testBit i) (Z l):=by rw[x];exact Lg λi _=>by rw[fc]
 have r:=Xh d.testBit<|Z l;refine⟨v,?_,λe=>by rw[e]at z;simp at z;omega,Y⟩;have W:Rx.zx q∣Rx.zx a:=by rw[v];exact Rx.jd _ _
 refine⟨s.H,s.pm,K,λf X=>s.lm f<|zH X,λf X=>s.gI f<|zH X,Le s.pair,t▸b5,?_,?_,λo g1 g2=>s.bd o g1<|Rx.fG g2 W⟩
 .refine s.mJ.of_dvd ?_;rw[Xk (Rx.Ql v.symm)];exact jd _ _
 .rw[R,(s.DZ _).2,t]
def iz.all:∀(k:G){a:E V}{l:E (E V)},Z l<=k->l≠[]->iz p m a l->(∀b∈tH m k a l,aL b/\Rx.bw (Rx.zx b))/\Rx.qX (tH m k a l)=Rx.zx a
 |0,_,l,i,h2,_=>aJ (gA Y) h2
 |k+1,a,l,i,h2,d=>by
  rw[tH];cases f:uR m a l with
  |none=>
   have n:=d.none h2<|ar0 f
   refine⟨λb g=>?_,Rx.fv _⟩
   rw[iM.1 g]
   exact⟨d.am,n⟩
  |some S=>
   let ⟨us,ws,s1,s2,_⟩:=agc f
   have s:S∈nl (Z l):=by rw[s1];simp
   let ⟨r1,t,u,v⟩:=d.rest s s2
   let ⟨i1,i2⟩:=iz.all k Y u t
   refine⟨λb g=>?_,by rw[Rx.qX,i2,<-r1]⟩
   rcases b9.1 g with e|e
   .rw[e];exact⟨(d.DZ _).1,d.ar1 f⟩
   .exact i1 b e
end
end Go.El
namespace Go.El
open Go Go.Proofs Go.RowKit
def agd{m}(b:Z (R m)<=2):m<18446744073709551616:=by have a:=wa (n:=m);have d:(4294967296:V)^2=18446744073709551616:=rfl;have f:(4294967296:V)^1=4294967296:=rfl;have g:(4294967296:V)^0=1:=rfl;rcases(Y:Z (R m)=0\/Z (R m)=1\/Z (R m)=2)with e|e|e<;>rw[e]at a<;>omega
def ar2 a b(t:Sm a)(z:Sm b):aq r 157 [aZ a,aZ b] (aZ ((Int.gcd a b:G):V)):=by
 refine aS Tryz.func157 ?_;refine e J<|w<|rc J J (ze<|aD a)<|rc J J (O0 _ t)<|rc J J (ze<|aD b)<|rc J J (O0 _ z)<|O J ?_ (ho:=arG e9);refine h<|aA<|bx (α:=G×G) (λx=>⟨[(4,.c<|.P 2000 0),(5,S ao<|R x.1),(6,S ao<|R x.2)],[(2000,.box 42 0 [.B ak,.V<|.slice none 0 0])],2,[]⟩) (λx=>Nat.gcd x.1 x.2=Int.gcd a b/\Z (R x.1)<=1099511627776/\Z (R x.2)<=1099511627776) (λx=>x.2) (aD a,aD b) ⟨J,t,z⟩ (wk (bP J) ⟨bE J J,M⟩) ?_;rintro⟨m,k⟩ ⟨hg,hm,n⟩;simp only at hg hm n;refine h<|e J<|F J (λd=>?_)<|λd=>?_
 .have d:k≠0:=by have d:(Z (R k):V)>0:=aX d;exact qJ.1 Y
  refine aG<|aA<|nP ⟨[(4,.c<|.P 2000 0),(5,S ao<|R m),(6,S ao<|R k)],[(2000,.box 42 0 [.B ak,.V<|.slice none 0 0])],8,[]⟩ ?_<|λg=>w<|rg 25 J J (λi=>O J<|F J (λh2=>?_)<|λh2=>dk<|fp g<|wk (bP J) ⟨bE J J,M⟩)<|λi=>O J<|F J (λh2=>sc)<|λh2=>dk<|fp g<|wk (bP J) ⟨bE J J,M⟩
  .refine bL J J (aei m k d hm) J (rt J<|fT<|a6 (k,m%k) ⟨?_,n,?_⟩ (gJ _ Y)<|wk (bP J) ⟨bE J J,M⟩)
   .show Nat.gcd k (m%k)=_;rw[<-hg,Ba m k,Nat.gcd_rec k m,Ba]
   .exact bZ (uE<|Di<|gJ _ Y) n
  .have i:Z (R m)<=2:=by have i:(Z (R m):V)<=2:=aX i;omega
   have h2:Z (R k)<=2:=by have h2:(Z (R k):V)<=2:=aX h2;omega
   have A:=agd i;have C:=agd h2;refine w<|rc J J (aek m A)<|rc J J (aek k C)<|O J ?_;refine h<|aA<|bx (α:=G×G) (λx=>⟨[(4,.c<|.P 2000 0),(7,cU x.1),(8,cU x.2)],[(2000,.box 42 0 [.B ak,.V<|.slice none 0 0])],10,[]⟩) (λx=>Nat.gcd x.1 x.2=Int.gcd a b/\x.1<18446744073709551616/\x.2<18446744073709551616) (λx=>x.2) (m,k) ⟨hg,A,C⟩ (wk (bP J) ⟨bE J J,M⟩) ?_;rintro⟨u,v⟩ ⟨l,g2,D⟩;simp only at l g2 D;refine h<|e J<|F J (λf=>?_)<|λf=>?_
   .have f:0<v:=by have f:(v:V)>0:=aX f;omega
    have p:=gJ u f;refine aG<|aA<|rt J (fT<|a6 (v,u%v) ⟨?_,D,by show u%v<_;omega⟩ p<|wk ⟨sR J,sR J,sE J ?_,M⟩ ⟨bE J J,M⟩) (hp:=?_)
    .show Nat.gcd v (u%v)=_;rw[<-l,Ba u v,Nat.gcd_rec v u,Ba]
    .exact bY<|nQ u v
    .simp only[Pr.an,Pr.h,num,gy,true_and,and_true];omega
   .have f:v=0:=by have f:¬(v:V)>0:=bh f;omega
    subst f;rw[OT]at l;subst l;refine bD<|aR<|w<|rc J J (OY _ g2)<|rc J J (qL ak _)<|O J<|bX ?_;repeat(first|refine da ?_|refine mz ?_|refine m0 ?_)
    exact atR J
 .have d:k=0:=by have d:¬(Z (R k):V)>0:=bh d;exact Decidable.byContradiction λs=>by have:=qJ.2 s;omega
  subst d;rw[OT]at hg;subst hg;exact bD<|aR<|bL J J (qL ak _) J<|di J
def ar3{m}(a:Z (R m)=1):(m:V)=I (R m) 0 0:=by
 have:=fa m;rw[<-this];match hw:R m,a with
 |[w],_=>show w+4294967296*0=w;omega
def Hp a:aq r 156 [aZ a] (cB<|decide<|a=1):=by
 refine aS Tryz.func156 ?_;refine e J<|w<|rg 6 J J (λh=>?_)<|λh=>?_
 .have f:0<=a:=by have h:(!cv a)=af:=h;simpa[cv]using h
  refine rg 12 J J (λb=>?_)<|λb=>?_
  .have b:Z (R<|aD a)=1:=by have b:(Z (R<|aD a):V)=1:=eS b;omega
   have g:Z (eX a)=1:=b;refine O J (cd J<|bl cB ?_) (hp:=?_)
   .show((I (R<|aD a) 0 0)==1)=decide (a=1);have:=ar3 b;by_cases d:a=1
    .subst d;rfl
    .rw[tj d];exact beq_eq_false_iff_ne.2<|λi=>d Y
   .simp only[Pr.an,Pr.h,num,gy,true_and,and_true];first|done|omega
  .refine O J<|cd J<|bl cB ?_;rw[tj];intro d;subst d;cases b
 .have f:a<0:=by have h:(!cv a)=ak:=h;simpa[cv]using h
  refine rg 12 J J (λb=>by cases b)<|λb=>?_;refine O J<|cd J<|bl cB ?_;rw[tj Y]
def Lj x a(d:Sm x)(f:Sm a):aq r 127 [S .z [x,a]] (aZ<|x*a):=by
 refine aS Tryz.func127 ?_;refine e J<|bL J J (VH 1 o o) J<|bA<|e J ?_;refine aA<|bx (α:=G) (λi=>⟨[(7,S .z [x,a]),(2,.c<|.P 0 0),(3,.c<|.P 1001000 0),(8,y 2),(9,y i)],[(0,.box 42 0 [.B ak,.V<|.slice none 0 0]),(1001000,.box 42 0<|av .z (if i=0 then 1 else if i=1 then x else x*a))],3,[]⟩) (λi=>i<=2) (λi=>2-i) 0 o (wk (bP J) ⟨bE J J,bE J J,M⟩) ?_;intro i g;rcases(Y:i=0\/i=1\/i=2)with b|b|b
 .subst b;refine e J<|bA<|F J (λ_=>aG ?_)<|λh=>gD;refine bA (aA<|e J (aA<|bL J J (Hp x) J<|F J (λh=>dk ?_)<|λh=>?_) (hp:=age))
  .have h:x=1:=aX h;subst h;exact fT<|bU<|rt J (hp:=aH)<|a6 1 o o<|wk (bP J) ⟨bE J J,bE J J,M⟩
  .refine bL J J (Hp 1) J<|F J (λh=>?_)<|λh=>gD;exact rt J<|fT<|bU<|rt J (hp:=aH)<|a6 1 o o<|wk (bP J) ⟨bE J J,bE J J,M⟩
 .subst b;refine e J<|bA<|F J (λ_=>aG ?_)<|λh=>gD;refine bA (aA<|e J (aA<|bL J J (Hp a) J<|F J (λh=>dk ?_)<|λh=>?_) (hp:=age))
  .have h:a=1:=aX h;subst h;refine fT<|bU<|rt J (hp:=aH)<|a6 2 o o<|wk (bP J) ⟨bE J J,bE J ?_,M⟩;show aC.box 42 0 (av .z x)=aC.box 42 0 (av .z<|x*1);rw[oy]
  .refine bL J J (Hp x) J (F J (λh=>?_)<|λh=>?_)
   .have h:x=1:=aX h;subst h;refine rt J<|fT<|bU<|rt J (hp:=aH)<|a6 2 o o<|wk (bP J) ⟨bE J J,bE J ?_,M⟩;show aC.box 42 0 (av .z a)=aC.box 42 0 (av .z<|1*a);rw[mc]
   .exact cL<|rc J J (apw x a d f)<|O J<|fT<|bU<|rt J (hp:=aH)<|a6 2 o o<|wk (bP J) ⟨bE J J,bE J J,M⟩
 .subst b;refine e J<|bA<|F J (λh=>gD)<|λ_=>?_;exact bD<|aR<|e J<|di J
end Go.El
end
