/- Own work; no condition. -/
import Derived.Test.YtceihkmakfdcnaaGreatC9
import Derived.Test.YtceihkmakfdcnaaGreatC8
import Derived.Test.YtceihkmakfdcnaaGreatC7
import Derived.Test.YtceihkmakfdcnaaGreatC4
import Derived.Test.YtceihkmakfdcnaaGreatC3
import Derived.Test.YtceihkmakfdcnaaGreatC6
set_option linter.all false
set_option maxHeartbeats 16000000
set_option maxRecDepth 100000
noncomputable section
open Bool renaming true->ae,false->ah
open Classical renaming choose->Ak
open Go.El renaming cS->e,rr->U,iJ->o,re->M,bI->h,cI->c,rb->R,jz->w,NB->F
open Go.Proofs.Tryz renaming prog->O
open Int renaming natAbs->aC,toNat->af
open List renaming getD->I,range->bJ,length->Z,replicate->bx,take->r
open Nat renaming lt_or_gt_of_ne->asW,div_div_eq_div_mul->asX,one_pos->IU,add_mul_div_right->asY,testBit->oH
open Option renaming some->ad
open Quotient renaming liftOn₂->as5,liftOn->as6
open _root_ renaming Nat->G,Int->V,List->E
namespace Go.El
open Go Go.Proofs Go.RowKit
def LN:∀(b a:G)(f:G->G),b<a->(∀i,i<a->f i<b)->∃i d,i<d/\d<a/\f i=f d
 |0,a,f,s,l=>aF (l 0 s) Y
 |b+1,a,f,s,l=>by
  by_cases m:∃i,i<a/\f i=b
  .let ⟨i0,x,h2⟩:=m;by_cases t:∃i,i<a/\i≠i0/\f i=b
   .let ⟨i1,u,v,n⟩:=t;rcases asW v with p|p
    .exact⟨i1,i0,p,x,by rw[n,h2]⟩
    .exact⟨i0,i1,p,u,by rw[n,h2]⟩
   .have k:∀i,i<a->i≠i0->f i<b:=λi g z=>by
     have:=l i g;have:f i≠b:=λm=>t ⟨i,g,z,m⟩
     omega
    let ⟨i,d,u,v,n⟩:=LN b (a-1) (λi=>if i<i0 then f i else f (i+1)) Y λi g=>by
     split
     .exact k i Y Y
     .exact k (i+1) Y Y
    refine⟨if i<i0 then i else i+1,if d<i0 then d else d+1,?_,?_,?_⟩
    .split<;>split<;>omega
    .split<;>omega
    .split<;>split<;>simp_all
  .exact LN b a f Y λi g=>by
    have:=l i g;have:f i≠b:=λA=>m ⟨i,g,A⟩
    omega
def agI{K:G}(l:0<K):∀(C i a:G),i<K^C->a<K^C->(∀b,b<C->i/K^b%K=a/K^b%K)->i=a
 |0,i,a,d,f,_=>by rw[qx]at d f;omega
 |C+1,i,a,d,f,g=>by
  have k:=g 0 Y;rw[qx,Nat.div_one,Nat.div_one]at k;have m:=agI l C (i/K) (a/K) (Bc<|by rwa[fG,gA]at d) (Bc<|by rwa[fG,gA]at f) λb n=>by have:=g (b+1) Y;rwa[fG,gA,<-asX,<-asX]at this
  rw[<-tJ i K,<-tJ a K,k,m]
def code(K:G)(v:G->G):G->G
 |0=>0
 |a+1=>code K v a+v a*K^a
def LO{K:G}(v:G->G):∀a,(∀b,b<a->v b<K)->code K v a<K^a
 |0,_=>IU
 |a+1,d=>by
  have g:=LO v a λb i=>d b Y
  have f:=dS (K^a) (show v a+1<=K from d a Y);rw[gY,je]at f;rw[code,fG,gA (K^a) K];omega
def XI{K:G}(v d:G->G):∀a,(∀b,b<a->v b<K)->(∀b,b<a->d b<K)->code K v a=code K d a->∀b,b<a->v b=d b
 |0,_,_,_,b,g=>aF g Y
 |a+1,hv,hw,i,b,g=>by
  have m:=LO d a λb g=>hw b Y
  rw[code,code]at i;have f:0<K^a:=Y;have k:v a=d a:=by
   have n:(code K v a+v a*K^a)/K^a=v a:=by rw[asY _ _ f,D7 (LO v a λb g=>hv b Y),fD]
   have p:(code K d a+d a*K^a)/K^a=d a:=by rw[asY _ _ f,D7 m,fD]
   rw[<-n,<-p,i]
  by_cases e:b=a
  .rw[e];exact k
  .exact XI v d a (λb g=>hv b Y) (λb g=>hw b Y) (by rw[k]at i;omega) b Y
def agJ{f:G->V}{g:G->G}{X:G}:∀n,(∀i,i<n->(f i).natAbs<=g i*X)->(sm f n).natAbs<=sN g n*X
 |0,_=>by simp[sm]
 |n+1,a=>by
  have b:=agJ n λi d=>a i Y
  have k:=a n Y;rw[sm,sN,gY];omega
def agK(f g:G->V):∀k,sm (λi=>f i-g i) k=sm f k-sm g k
 |0=>rfl
 |k+1=>by simp[sm,agK f g k];omega
def asZ(l:G->G->V) d W(H:∀b,b<d->sN (λa=>aC<|l b a) (d+1)<=W)(N:1<=W):
  ∃x:G->V,(∃a,a<d+1/\x a≠0)/\(∀a,a<d+1->aC (x a)<=(2*W)^d)/\∀b,b<d->sm (λa=>l b a*x a) (d+1)=0:=by
 obtain⟨X,A⟩:∃X,X=(2*W)^d:=⟨_,J⟩
 let f:G->G->V:=λi a=>((i/(X+1)^a%(X+1):G):V)
 have m:∀i a,0<=f i a/\f i a<=X:=λi a=>by have:=gU (i/(X+1)^a) (Y:0<X+1);show 0<=((i/(X+1)^a%(X+1):G):V)/\((i/(X+1)^a%(X+1):G):V)<=X;omega
 have n:∀i b,b<d->(sm (λa=>l b a*f i a)<|d+1).natAbs<=W*X:=λi b k=>by refine br (agJ (g:=λa=>aC<|l b a) (X:=X) (d+1) λa _=>?_)<|dS X<|H b k;rw[tZ];have:=m i a;exact gD _ Y
 let v:G->G->G:=λi b=>(sm (λa=>l b a*f i a) (d+1)+((W*X:G):V)).toNat
 have p:∀i b,b<d->v i b<2*W*X+1/\((v i b:G):V)=sm (λa=>l b a*f i a) (d+1)+((W*X:G):V):=λi b k=>by
  have t:=n i b k;have e:v i b=(sm (λa=>l b a*f i a) (d+1)+((W*X:G):V)).toNat:=rfl;have o:2*W*X=W*X+W*X:=by rw[mz,Nat.two_mul]
  generalize sm (λa=>l b a*f i a) (d+1)=s at*;rw[e];omega
 have u:(2*W*X+1)^d<(X+1)^(d+1):=by
  have t:2*W*X+1<=2*W*(X+1):=by rw[yk,rh];omega
  have B:=B6 t d;rw[Nat.mul_pow,<-A]at B;have C:X*(X+1)^d<(X+1)*(X+1)^d:=WY Y<|gG Y;rw[fG,gA<|(X+1)^d];omega
 let ⟨i,j,t,B,C⟩:=LN _ _ (λi=>code (2*W*X+1) (v i) d) u λi _=>LO (v i) d λb k=>(p i b k).1
 refine⟨λa=>f i a-f j a,?_,λa _=>?_,λb k=>?_⟩
 .refine fe λQ=>?_
  have:i=j:=agI (K:=X+1) Y (d+1) i j Y Y λa T=>by
   have z:f i a-f j a=0:=fe λz=>Q ⟨a,T,z⟩
   have q:((i/(X+1)^a%(X+1):G):V)-((j/(X+1)^a%(X+1):G):V)=0:=z;omega
  omega
 .have D:=m i a;have h:=m j a;show aC (f i a-f j a)<=_;rw[<-A];omega
 .have D:=(p i b k).2;have h:=(p j b k).2;have e:sm (λa=>l b a*(f i a-f j a)) (d+1)=sm (λa=>l b a*f i a) (d+1)-sm (λa=>l b a*f j a) (d+1):=by rw[<-agK];exact iz λa _=>HC _ _ _
  rw[e];rw[(XI (v i) (v j) d (λb k=>(p i b k).1) (λb k=>(p j b k).1) C) b k]at D;omega
def EB(f g:PS)(n b a:G):V:=if a<n then(if a<=b then f (b-a)else 0)else if a<2*n+1 then(if a-n<=b then g (b-(a-n))else 0)else(if b=0 then-1 else 0)
def agL(f:G->V)(a:G):∀b,sm f (a+b)=sm f a+sm (λi=>f<|a+i) b
 |0=>by simp[sm]
 |b+1=>by rw[<-tC,sm,agL f a b,sm];omega
def agM{f:G->G}{m:G}:∀n,(∀i,i<n->f i<=m)->sN f n<=n*m
 |0,_=>by simp[sN]
 |n+1,a=>by
  have b:=agM n λi d=>a i Y
  have g:=a n Y;rw[sN,gY,je];omega
def agN{f g}{n}{B}(hB:1<=B)(z:∀i,n+1<i->f i=0)(H:∀i,n<i->g i=0)(N:∀i,(f i).natAbs<=B)(P:∀i,(g i).natAbs<=B):
  ∃(u v:PS)(D:V),(∀i,n<=i->u i=0)/\(∀i,n+1<=i->v i=0)/\u*f+v*g=PS.K D/\aC D<=(2*((2*n+2)*B))^(2*n+1)/\(D=0->v=0->u=0->False)/\∀i,aC (v i)<=(2*((2*n+2)*B))^(2*n+1):=by
 let ⟨x,⟨c0,F,h2⟩,s,C⟩:=asZ (EB f g n) (2*n+1) ((2*n+2)*B) (λr _=>agM _ λc _=>by
  unfold EB;split
  .split
   .exact N _
   .exact bg _
  .split
   .split
    .exact P _
    .exact bg _
   .split
    .exact hB
    .exact bg _) (kw<|mA (Y:1<=2*n+2) hB)
 refine⟨λi=>if i<n then x i else 0,λi=>if i<n+1 then x (n+i)else 0,x (2*n+1),λi b=>y Y,λi b=>y Y,?_,s _ Y,?_,λi=>?_⟩
 .refine PS.ext λr=>?_
  have t:∀(h A:PS)(m k:G),(∀i,m<=i->A i=0)->(A*h) k=sm (λc=>(if c<=k then h (k-c)else 0)*A c) m:=λh A m k Q=>by
   rw[PS.fM];have T:∀d,sm (λc=>(if c<=k then h (k-c)else 0)*A c) (k+1+d)=sm (λc=>(if c<=k then h (k-c)else 0)*A c) (k+1):=λd=>by
    induction d with
    |zero=>rfl
    |succ d l=>rw[<-tC,sm,l,y Y,oU,tV]
   have W:∀d,sm (λc=>(if c<=k then h (k-c)else 0)*A c) (m+d)=sm (λc=>(if c<=k then h (k-c)else 0)*A c) m:=λd=>by
    induction d with
    |zero=>rfl
    |succ d l=>rw[<-tC,sm,l,Q _ Y,iO,tV]
   rw[<-W (k+1),JB m,T m];exact iz λc a=>by rw[q Y,fL]
  rw[PS.ef,t f _ n r<|λi b=>y Y,t g _ (n+1) r<|λi b=>y Y];by_cases hr:r<2*n+1
  .have p:=C r hr;rw[(Y:2*n+1+1=n+(n+1)+1),sm,agL]at p;have X:sm (λc=>EB f g n r c*x c) n=sm (λc=>(if c<=r then f (r-c)else 0)*(if c<n then x c else 0)) n:=iz λc a=>by rw[EB,q a,q a]
   have j:sm (λi=>EB f g n r (n+i)*x (n+i)) (n+1)=sm (λc=>(if c<=r then g (r-c)else 0)*(if c<n+1 then x (n+c)else 0)) (n+1):=iz λc a=>by rw[EB,y Y,q Y,q a,Lb]
   rw[X,j,EB,y Y,y Y]at p;rw[PS.K,(Y:2*n+1=n+(n+1))];split at p
   next e=>rw[q e];omega
   next e=>rw[y e];omega
  .rw[PS.K,y Y,sU λc a=>?_,sU λc a=>?_]
   .rfl
   .split
    .exact(bm (·*_)<|H _ Y).trans<|oU _
    .rw[oU]
   .split
    .exact(bm (·*_)<|z _ Y).trans<|oU _
    .rw[oU]
 .intro o w E;refine h2 ?_;by_cases c1:c0<n
  .have:=congrFun E c0;rwa[q c1]at this
  .by_cases I:c0<2*n+1
   .have:=congrFun w<|c0-n;rwa[q Y,(Y:n+(c0-n)=c0)]at this
   .rw[(Y:c0=2*n+1)];exact o
 .show aC (if i<n+1 then x (n+i)else 0)<=_;split
  .exact s _ Y
  .exact bg _
def as0{f g}{n}{B}(hB:1<=B)(a:∀i,n+1<i->f i=0)(b:∀i,n<i->g i=0)(d:∀i,(f i).natAbs<=B)(k:∀i,(g i).natAbs<=B):
  ∃(u v:PS)(D:V),(∀i,n<=i->u i=0)/\(∀i,n+1<=i->v i=0)/\u*f+v*g=PS.K D/\aC D<=(2*((2*n+2)*B))^(2*n+1)/\(D=0->v=0->u=0->False):=
 let ⟨u,v,D,l,h2,m,p,s,_⟩:=agN hB a b d k
 ⟨u,v,D,l,h2,m,p,s⟩
def agO{D:G}:∀{l:E G},l.Nodup->(∀p∈l,eO p/\p∣D)->tb l∣D
 |[],_,_=>Nat.one_dvd D
 |p::l,t,f=>by
  let ⟨u,h2⟩:=AT.1 t;have i:=agO h2 λq k=>f q (by simp[k])
  have g:=(f p au).1;have v:Nat.Coprime p (tb l):=g.coprime λd=>by
   have m:∀{l:E G},(∀q∈l,eO q/\q∣D)->p∣tb l->p∈l:=by
    intro l;induction l with
    |nil=>intro _ d;have x:=g.1;have:=wZ IU d;omega
    |cons q l i=>
     intro n d
     rcases g.dvd_mul (a:=q) (b:=tb l) d with e|e
     .rcases(n q au).1.HO e with s|s
      .have x:=g.1;omega
      .rw[s];simp
     .have:=i (λr z=>n r<|by simp[z]) e;simp[this]
   exact u<|m (λq k=>f q<|by simp[k]) d
  exact v.mul_dvd_of_dvd_of_dvd (f p au).2 i
def as1:uk.Nodup:=by
 have h:(uk.zip<|uk.drop 1).all (λx=>Nat.blt x.1 x.2)=ae:=fh;have f:∀(l:E G),(l.zip<|List.drop 1 l).all (λx=>Nat.blt x.1 x.2)=ae->l.Pairwise (·<·):=by
  intro l;induction l with
  |nil=>intro _;exact .nil
  |cons a l i=>
   intro h
   cases l with
   |nil=>exact XJ _ _
   |cons b l=>
    have h:(((a,b)::((b::l).zip l)).all λx=>Nat.blt x.1 x.2)=ae:=h
    rw[List.all_cons,cP]at h
    have g:=i h.2
    refine lq.2 ⟨λc k=>?_,g⟩
    have d:a<b:=c7 h.1
    rcases b7.1 k with e|e
    .rw[e];exact d
    .exact Nat.lt_trans d<|(lq.1 g).1 c e
 exact(f uk h).imp λh=>Nat.ne_of_lt h
def Aj:G:=2^3089
def as2:Nat.ble (Aj+1) (tb uk)=ae:=fh
def agP{a b}(d:Nat.ble (a+1) b=ae):a<b:=Nat.lt_of_succ_le<|c7 d
def as3:Aj<tb uk:=agP as2
def as4{l}(b:l.Nodup)(d:∀p∈l,eO p)(f:Aj<tb l){D}(s:D≠0)(g:aC D<=Aj):∃p∈l,¬(p:V)∣D:=fe λi=>by
 exact aF g<|Nat.not_le_of_lt<|gK f<|wZ Y<|agO (D:=aC D) b λp a=>⟨d p a,XK.1<|fe λm=>i ⟨p,a,m⟩⟩
def XL(p:V):Setoid {A:PS//bC p A}:=⟨λA B=>Cg p A.1 B.1,⟨λA=>Cg.refl p A.1,Cg.symm,Cg.trans⟩⟩
def Fx(p:V):Type:=Quotient<|XL p
namespace Fx
variable{p:V}
def mk(A:PS)(a:bC p A):Fx p:=Quotient.mk (XL p) ⟨A,a⟩
def mk_eq{A B}{a:bC p A}{k:bC p B}:mk A a=mk B k↔Cg p A B:=⟨λe=>Quotient.exact e,λe=>Quotient.sound (s:=XL p) e⟩
def ex x:∃A,∃a:bC p A,x=mk A a:=by exact Quotient.inductionOn x<|λA=>⟨A.1,A.2,J⟩
instance:Add (Fx p):=⟨λx y=>as5 x y (λA B=>mk (A.1+B.1)<|A.2.add B.2)<|λ_ _ _ _ h k=>mk_eq.2<|Cg.add h k⟩
instance:Mul (Fx p):=⟨λx y=>as5 x y (λA B=>mk (A.1*B.1)<|A.2.mul B.2)<|λ_ _ _ _ h k=>mk_eq.2<|Cg.mul h k⟩
instance:Neg (Fx p):=⟨λx=>as6 x (λA=>mk (-A.1) A.2.neg)<|λ_ _ h=>mk_eq.2<|Cg.neg h⟩
instance:_root_.Sub (Fx p):=⟨λx y=>x+ -y⟩
instance:OfNat (Fx p) 0:=⟨mk 0<|bC.zero p⟩
instance:OfNat (Fx p) 1:=⟨mk 1<|bC.one p⟩
def agQ{A B}{a:bC p A}{k:bC p B}:mk A a+mk B k=mk (A+B) (a.add k):=rfl
def agR{A B}{a:bC p A}{k:bC p B}:mk A a*mk B k=mk (A*B) (a.mul k):=rfl
def kv{A B:PS}(a:A=B)(b:bC p A)(k:bC p B):mk A b=mk B k:=mk_eq.2<|Cg.of_eq a
def jS(x a:Fx p):x+a=a+x:=by obtain⟨A,h,rfl⟩:=ex x;obtain⟨B,k,rfl⟩:=ex a;exact kv (PS.jS A B) _ _
def kq(x a z:Fx p):x+a+z=x+(a+z):=by obtain⟨A,h,rfl⟩:=ex x;obtain⟨B,k,rfl⟩:=ex a;obtain⟨C,l,rfl⟩:=ex z;exact kv (PS.kq A B C) _ _
def dk(x a:Fx p):x*a=a*x:=by obtain⟨A,h,rfl⟩:=ex x;obtain⟨B,k,rfl⟩:=ex a;exact kv (PS.dk A B) _ _
def dc(x a z:Fx p):x*a*z=x*(a*z):=by obtain⟨A,h,rfl⟩:=ex x;obtain⟨B,k,rfl⟩:=ex a;obtain⟨C,l,rfl⟩:=ex z;exact kv (PS.dc A B C) _ _
def fN(x a z:Fx p):x*(a+z)=x*a+x*z:=by obtain⟨A,h,rfl⟩:=ex x;obtain⟨B,k,rfl⟩:=ex a;obtain⟨C,l,rfl⟩:=ex z;exact kv (PS.fN A B C) _ _
def gQ(x a z:Fx p):(x+a)*z=x*z+a*z:=by rw[dk,fN,dk z x,dk z a]
def iI(x:Fx p):0+x=x:=by obtain⟨A,h,rfl⟩:=ex x;exact kv (PS.iI A) ((bC.zero p).add h) h
def fA(x:Fx p):x+0=x:=by rw[jS,iI]
def c8(x:Fx p):1*x=x:=by obtain⟨A,h,rfl⟩:=ex x;exact kv (PS.c8 A) ((bC.one p).mul h) h
def fO(x:Fx p):x*1=x:=by rw[dk,c8]
def dy(x:Fx p):0*x=0:=by obtain⟨A,h,rfl⟩:=ex x;exact kv (PS.dy A) ((bC.zero p).mul h)<|bC.zero p
def g6(x:Fx p):x*0=0:=by rw[dk,dy]
def k6(x:Fx p):x+ -x=0:=by obtain⟨A,h,rfl⟩:=ex x;exact kv (PS.k6 A) (h.add h.neg)<|bC.zero p
def rB(x:Fx p): -x+x=0:=by rw[jS,k6]
def fB(x a:Fx p):x-a=x+ -a:=rfl
instance:Std.Associative (α:=Fx p) (·+·):=⟨kq⟩
instance:Std.Commutative (α:=Fx p) (·+·):=⟨jS⟩
instance:Std.Associative (α:=Fx p) (·*·):=⟨dc⟩
instance:Std.Commutative (α:=Fx p) (·*·):=⟨dk⟩
def Er{x a z:Fx p}(b:x+a=x+z):a=z:=by have:=bm (-x+·) b;simpa only[<-kq,rB,iI]using this
def mG(x a:Fx p):x-a+a=x:=by rw[fB,kq,rB,fA]
def z9(x a:Fx p):x+a-a=x:=by rw[fB,kq,k6,fA]
def Aa{x a z:Fx p}(b:x+a=z):x=z-a:=by rw[<-b,z9]
def sub_eq{x a z:Fx p}(b:x=z+a):x-a=z:=by rw[b,z9]
def sub_self(x:Fx p):x-x=0:=k6 x
def sub_zero(x:Fx p):x-0=x:=sub_eq (fA x).symm
def BZ{x a:Fx p}(b:x-a=0):x=a:=by rw[<-mG x a,b,iI]
def ov(x a z:Fx p):(x-a)*z=x*z-a*z:=Aa (by rw[<-gQ,mG])
def mul_sub(x a z:Fx p):x*(a-z)=x*a-x*z:=by rw[dk,ov,dk a,dk z]
def neg_mul(x a:Fx p): -x*a= -(x*a):=Er (x:=x*a) (by rw[<-gQ,k6,k6,dy])
def mul_neg(x a:Fx p):x* -a= -(x*a):=by rw[dk,neg_mul,dk]
def neg_sub(x a:Fx p): -(x-a)=a-x:=Er (x:=x-a) (by rw[k6,fB,fB];have:x+ -a+(a+ -x)=(x+ -x)+(-a+a):=fC;rw[this,k6,rB,fA])
def Ls(x a z:Fx p):(x-a)+(a-z)=x-z:=by rw[fB,fB,fB];have:x+ -a+(a+ -z)=x+ -z+(-a+a):=fC;rw[this,rB,fA]
def QD(x b z a:Fx p):(x+b)-(z+a)=(x-z)+(b-a):=sub_eq (by have:x-z+(b-a)+(z+a)=(x-z+z)+(b-a+a):=fC;rw[this,mG,mG])
instance:Dvd (Fx p):=⟨λa b=>∃w,b=w*a⟩
def nO(a:Fx p):a∣a:=⟨1,(c8 a).symm⟩
def uf(a:Fx p):a∣0:=⟨0,(dy a).symm⟩
def fW{a b d:Fx p}(f:a∣b)(k:b∣d):a∣d:=by obtain⟨w,rfl⟩:=f;obtain⟨v,rfl⟩:=k;exact⟨v*w,(dc v w a).symm⟩
def jc(a b:Fx p):a∣b*a:=⟨b,J⟩
def mH(a b:Fx p):a∣a*b:=⟨b,dk a b⟩
def dE{a b}(f:a∣b)(d:Fx p):a∣d*b:=fW f<|jc b d
def mI{a b}(f:a∣b)(d:Fx p):a∣b*d:=fW f<|mH b d
def iA{a b d:Fx p}(f:a∣b)(k:a∣d):a∣b+d:=by obtain⟨w,rfl⟩:=f;obtain⟨v,rfl⟩:=k;exact⟨w+v,(gQ w v a).symm⟩
def dvd_neg{a b:Fx p}(d:a∣b):a∣-b:=by obtain⟨w,rfl⟩:=d;exact⟨-w,(neg_mul w a).symm⟩
def dvd_sub{a b d:Fx p}(f:a∣b)(k:a∣d):a∣b-d:=iA f<|dvd_neg k
def yo{a b d:Fx p}(f:a∣b+d)(k:a∣b):a∣d:=by have:=dvd_sub f k;rwa[jS b d,z9]at this
def m9{a b d:Fx p}(f:a∣b-d):a∣d-b:=by rw[<-neg_sub];exact dvd_neg f
def mJ{a b f d:Fx p}(g:a∣b-f)(k:a∣f-d):a∣b-d:=by rw[<-Ls b f d];exact iA g k
def Lt{a b f d g:Fx p}(i:a∣b-f)(k:a∣d-g):a∣(b+d)-(f+g):=by rw[QD];exact iA i k
def ow{a b f d g:Fx p}(i:a∣b-f)(k:a∣d-g):a∣b*d-f*g:=by
 have:b*d-f*g=(b-f)*d+f*(d-g):=by rw[ov,mul_sub,Ls]
 rw[this];exact iA (mI i d)<|dE k f
def kM(a b:Fx p):a∣b-b:=by rw[sub_self];exact uf a
def pk(a:Fx p):G->Fx p
 |0=>1
 |n+1=>pk a n*a
def sZ(a:Fx p):pk a 1=a:=c8 a
def B0(a:Fx p)(m:G):∀n,pk a (m+n)=pk a m*pk a n
 |0=>(fO _).symm
 |n+1=>by rw[<-tC,pk,pk,B0 a m n,dc]
def w7(a:Fx p)(m:G):∀n,pk a (m*n)=pk (pk a m) n
 |0=>rfl
 |n+1=>by rw[Nat.mul_succ,B0,pk,w7 a m n]
def w8(a b:Fx p):∀n,pk (a*b) n=pk a n*pk b n
 |0=>(c8 1).symm
 |n+1=>by rw[pk,pk,pk,w8 a b n];ac_rfl
def Es:∀n,pk (1:Fx p) n=1
 |0=>rfl
 |n+1=>by rw[pk,Es n,c8]
def agS{n}(a:0<n):pk (0:Fx p) n=0:=by obtain⟨m,rfl⟩:∃m,n=m+1:=⟨n-1,Y⟩;rw[pk,g6]
def LP{a b d:Fx p}(f:a∣b-d):∀n,a∣pk b n-pk d n
 |0=>kM a 1
 |n+1=>ow (LP f n) f
def QT{A:PS}(a:bC p A):∀n(k:bC p (pw A n)),mk (pw A n) k=pk (mk A a) n
 |0,_=>rfl
 |n+1,k=>by
  have b:bC p (pw A n):=by
   clear k;induction n with
   |zero=>exact bC.one p
   |succ n d=>exact d.mul a
  rw[pk,<-QT a n b,agR];rfl
def QU{A:PS}(a:bC p A):∀n,bC p (pw A n)
 |0=>bC.one p
 |n+1=>(QU a n).mul a
def K(a:V):Fx p:=mk (PS.K a)<|bC.K p a
def B7 k:bC p (PS.X k):=⟨_,asa p k⟩
def X:Fx p:=mk (PS.X 1)<|B7 1
def fx(a:E V):Fx p:=mk (ps a)<|bC.ps p a
def eN a b:(K (a*b):Fx p)=K a*K b:=kv (PS.BV a b) _ _
def jT:(K 0:Fx p)=0:=kv PS.jT _ _
def lU:(K 1:Fx p)=1:=rfl
def EC{a b}(d:a%p=b%p):(K a:Fx p)=K b:=mk_eq.2<|Cg.K d
def Xw{a b}(d:(K a:Fx p)=K b):a%p=b%p:=(mk_eq.1 d).at 0
def agT(a:V):∀n,pk (K a:Fx p) n=K (a^n)
 |0=>by rw[ry,lU];rfl
 |n+1=>by rw[pk,agT a n,gP,eN]
def lV:(fx []:Fx p)=0:=kv Eo _ _
def ED:(fx [1]:Fx p)=1:=kv Qx _ _
def XM a:(fx [a]:Fx p)=K a:=kv (PS.ext λi=>by
 cases i with
 |zero=>rfl
 |succ i=>rfl) _ _
def as7 b a:ps (b::a)=PS.K b+PS.X 1*ps a:=PS.ext λi=>by
 rw[PS.ef,PS.lD];cases i with
 |zero=>rw[y Y];show b=PS.K b 0+0;rw[PS.K,q J];omega
 |succ i=>rw[q Y];show I a i 0=PS.K b (i+1)+I a i 0;rw[PS.K,y Y];omega
def LR b a:(fx (b::a):Fx p)=K b+X*fx a:=kv (as7 b a) _ _
def QV{a b}(d:Cg p (ps a) (ps b)):(fx a:Fx p)=fx b:=mk_eq.2 d
def yA a b:(fx (db a b p):Fx p)=fx a*fx b:=mk_eq.2<|HR a b p
def H8 a:(fx (aU a):Fx p)=fx a:=kv (sW a) _ _
def agU a:(fx (md p a):Fx p)=fx a:=mk_eq.2<|afY p a
def XN a b:(fx (aU<|ik a b p):Fx p)=fx a-fx b:=(show mk _ (bC.ps p _)=mk _ ((bC.ps p a).sub<|bC.ps p b)from mk_eq.2<|af2 a b p).trans<|kv (PS.fB _ _) _<|(bC.ps p a).add (bC.ps p b).neg
def xd{a b}(d:bS p a)(f:bS p b)(g:(fx a:Fx p)=fx b):a=b:=Qw d f<|mk_eq.1 g
def agV{a b}(d:(fx a:Fx p)=fx b) i:I a i 0%p=I b i 0%p:=(mk_eq.1 d).at i
def jU(b:0<p)(A:Fx p):∃a,bS p a/\fx a=A:=by
 obtain⟨A,⟨n,f⟩,rfl⟩:=ex A;have d:∀i,I ((bJ n).map λi=>A i%p) i 0=if i<n then A i%p else 0:=λi=>by
  rw[aO,ju];by_cases e:i<n
  .rw[q e,k7 e];rfl
  .rw[y e,iw cd];rfl
 refine⟨aU<|(bJ n).map λi=>A i%p,mE b<|λi=>?_,?_⟩
 .rw[d];split
  .exact⟨jG _ Y,jH _ b⟩
  .exact⟨iZ _,b⟩
 .rw[H8];refine mk_eq.2<|Cg.of λi=>?_;rw[cT,d];split
  .rw[ou]
  .rw[f i Y,iP]
open Classical in
def sz(A:Fx p):G:=if h:∃a,bS p a/\fx a=A then Z (Ak h)else 0
def dn{a}(d:bS p a):sz (fx a:Fx p)=Z a:=by have h:∃b,bS p b/\(fx b:Fx p)=fx a:=⟨a,d,J⟩;unfold sz;rw[dif_pos h];have f:=yq h;rw[xd f.1 d f.2]
def B8{n}(f:0<p){A}(b:bC p A)(g:Dl p n A):sz (mk A b)<=n:=by let ⟨a,d,e⟩:=jU f<|mk A b;rw[<-e,dn d];exact d.len<|g.cg (mk_eq.1 e).symm
def Lv(b:0<p) a:sz (fx a:Fx p)<=Z a:=B8 b _<|mD p a
def kO(a:0<p):sz (0:Fx p)=0:=by rw[<-lV,dn<|ud a];rfl
def QF(b:0<p) a:sz (K a:Fx p)<=1:=B8 b _<|Xd p a
def Et(d:0<p){A:Fx p}(b:sz A=0):A=0:=by obtain⟨a,f,rfl⟩:=jU d A;rw[dn f]at b;rw[gx b,lV]
def fQ(a:0<p){A:Fx p}(b:A≠0):0<sz A:=by
 rcases sS (sz A)with e|e
 .exact aF (Et a e) b
 .exact e
def yr(d:0<p)(A B:Fx p):sz (A+B)<=max (sz A) (sz B):=by obtain⟨a,f,rfl⟩:=jU d A;obtain⟨b,g,rfl⟩:=jU d B;rw[dn f,dn g];exact B8 d _<|((mD p a).le Y).add<|(mD p b).le Y
def Xy(b:0<p)(A:Fx p):sz (-A)<=sz A:=by obtain⟨a,d,rfl⟩:=jU b A;rw[dn d];exact B8 b _ (mD p a).neg
def HY(a:0<p)(A B:Fx p):sz (A-B)<=max (sz A) (sz B):=by have b:=yr a A<| -B;have d:=Xy a B;rw[fB];omega
end Fx
structure bL(p:G):Prop where
 hp:eO p
 le:p<=2147483648
def bL.pos{p}(H:bL p):(0:V)<(p:V):=EE
def bL.one{p}(H:bL p):(1:V)%(p:V)=1:=by have:=H.hp.1;exact iN S Y
namespace Fx
variable{p:G}
def s0(H:bL p):(1:Fx p)≠0:=λe=>by rw[<-lU,<-jT]at e;have:=Xw e;rw[H.one,iP]at this;cases this
def qy(H:bL p){c}(a:c%(p:V)≠0):∃d,(K d*K c:Fx p)=1:=by have b:=jG c (show(p:V)≠0 by have:=H.pos;omega);have e:(K c:Fx p)=K (c%(p:V)):=EC (by rw[ou]);refine⟨((jR (af<|c%(p:V)) (af ((p:G):V)):G):V),?_⟩;rw[e,<-eN,<-lU];refine EC ?_;rw[fL,HT H.hp H.le b (jH c H.pos) a,H.one]
def uh(H:bL p){a}(f:a%(p:V)≠0):(K a:Fx p)≠0:=λe=>by let ⟨d,b⟩:=qy H f;rw[e,g6]at b;exact s0 H b.symm
def eS(H:bL p){A B:Fx p}(t:A≠0)(hB:B≠0):sz (A*B)+1=sz A+sz B:=by
 obtain⟨a,g,rfl⟩:=jU H.pos A;obtain⟨b,i,rfl⟩:=jU H.pos B;have u:=fQ H.pos t;have v:=fQ H.pos hB;rw[dn g]at u⊢;rw[dn i]at v⊢;obtain⟨n,k⟩:∃n,Z a=n+1:=⟨Z a-1,Y⟩;obtain⟨m,l⟩:∃m,Z b=m+1:=⟨Z b-1,Y⟩;have d:=mD (p:V) a;have f:=mD (p:V) b;rw[k]at d⊢;rw[l]at f⊢;rw[<-yA,dn<|oX H.pos a b];have s:=BX H.hp d f (g.top k)<|i.top l;have C:Z (db a b (p:V))<=n+(m+1):=by have e:sz (fx (db a b p):Fx p)=Z (db a b p):=dn<|oX H.pos a b;rw[yA]at e;rw[<-e];exact B8 H.pos ((bC.ps (p:V) a).mul<|bC.ps p b)<|d.mul f
 by_cases e:Z (db a b (p:V))<=n+m
 .exfalso;rw[<-((HR a b (p:V)).at (n+m)),cT,gk _ e,iP]at s;exact s J
 .omega
def oW(H:bL p){A B:Fx p}(a:A≠0)(hB:B≠0):A*B≠0:=λe=>by have h:=eS H a hB;rw[e,kO H.pos]at h;have b:=fQ H.pos a;have d:=fQ H.pos hB;omega
def yt(H:bL p){A B C:Fx p}(a:A≠0)(b:B*A=C*A):B=C:=by
 refine BZ<|fe λd=>?_
 exact oW H d a (by rw[ov,b,sub_self])
def s6(H:bL p):sz (1:Fx p)=1:=by have a:=QF H.pos 1 (p:=(p:V));have b:=fQ H.pos<|s0 H;rw[lU]at a;omega
def HZ(H:bL p){A:Fx p}(f:sz A=1):∃b:V,b%(p:V)≠0/\A=K b:=by
 obtain⟨a,d,rfl⟩:=jU H.pos A;rw[dn d]at f;match a,f,d with
 |[b],_,d=>exact⟨b,d.top (n:=0) J,XM b⟩
def yu(H:bL p){A}(a:sz A=1):∃B:Fx p,B*A=1:=by obtain⟨c,b,rfl⟩:=HZ H a;let ⟨d,f⟩:=qy H b;exact⟨_,f⟩
def Ac(H:bL p){A B:Fx p}(a:B*A=1):sz A=1:=by
 have b:A≠0:=λe=>s0 H (by rw[<-a,e,g6])
 have hB:B≠0:=λe=>s0 H (by rw[<-a,e,dy])
 have d:=eS H hB b;rw[a,s6 H]at d;have f:=fQ H.pos b;have g:=fQ H.pos hB;omega
def dvd_one(H:bL p){A:Fx p}(a:A∣1):sz A=1:=by let ⟨w,hw⟩:=a;exact Ac H hw.symm
def k9(H:bL p){A B:Fx p}(b:A∣B)(hB:B≠0):sz A<=sz B:=by
 obtain⟨w,rfl⟩:=b;have a:w≠0:=λe=>hB Lw
 have d:A≠0:=λe=>hB (by rw[e,g6])
 have f:=eS H a d;have pw:=fQ H.pos a;omega
def ui(H:bL p){A B:Fx p}(a:A∣B)(b:sz B<sz A):B=0:=
 fe λd=>by have:=k9 H a d;omega
def QG(H:bL p) A{B:Fx p}(hB:B≠0):∃Q f,A=Q*B+f/\sz f<sz B:=by
 obtain⟨a,g,rfl⟩:=jU H.pos A;obtain⟨b,i,rfl⟩:=jU H.pos B;have d:b≠[]:=λe=>hB (by rw[e,lV])
 let ⟨d1,d2,d3,d4,d5,d6⟩:=nL H.hp H.le g.1 i d;refine⟨fx (aW a b p).1,fx (aW a b p).2,mk_eq.2 d1,?_⟩;rw[dn i,dn<|d5 g];have:=cF.2 d;omega
def Eu(H:bL p):∀(n:G)(A B:Fx p),sz B<n->∃D b a,D∣A/\D∣B/\D=b*A+a*B
 |0,_,_,k=>by omega
 |n+1,A,B,k=>by
  by_cases f:B=0
  .subst f;exact⟨A,1,0,nO A,uf A,by rw[c8,g6,fA]⟩
  .let ⟨Q,d,g,h2⟩:=QG H A f;let ⟨D,b,a,i,l,m⟩:=Eu H n B d Y;refine⟨D,a,b-a*Q,?_,i,?_⟩
   .rw[g];exact iA (dE i Q) l
   .rw[m,g,fN,ov];have:a*(Q*B)+a*d+(b*B-a*Q*B)=(b*B-a*Q*B+a*Q*B)+a*d:=fC;rw[this,mG]
def Co(A B:Fx p):Prop:=∃U V,U*A+V*B=1
def Co.symm{A B:Fx p}(a:Co A B):Co B A:=by let ⟨U,V,a⟩:=a;exact⟨V,U,by rw[jS];exact a⟩
def as8{a b}:Co (fx a:Fx p) (fx b)↔z8 p (ps a) (ps b):=by
 constructor
 .rintro⟨U,V,h⟩;obtain⟨U,d,rfl⟩:=ex U;obtain⟨V,f,rfl⟩:=ex V;exact⟨U,V,d,f,mk_eq.1 (h:mk _ ((d.mul<|bC.ps p a).add<|f.mul<|bC.ps p b)=mk 1 (bC.one p))⟩
 .rintro⟨U,V,d,f,h⟩;exact⟨mk U d,mk V f,mk_eq.2 h⟩
def Co.dvd{A B C:Fx p}(a:Co A B)(k:A∣B*C):A∣C:=by
 let ⟨U,V,a⟩:=a;have:C=C*U*A+V*(B*C):=by have b:C*(U*A)+C*(V*B)=C*U*A+V*(B*C):=fC;rw[<-b,<-fN,a,fO]
 rw[this];exact iA (jc A _)<|dE k V
def Co.as9{A B C:Fx p}(b:Co A B)(a:A∣C)(kb:B∣C):A*B∣C:=by obtain⟨w,rfl⟩:=kb;rw[dk w B]at a;obtain⟨v,rfl⟩:=b.dvd a;exact⟨v,fC⟩
def Co.mul{A B C:Fx p}(a:Co A B)(k:Co A C):Co A (B*C):=by
 let ⟨U,V,a⟩:=a;let ⟨b,d,k⟩:=k;refine⟨U*b*A+U*(d*C)+V*B*b,V*d,?_⟩;have:(U*A+V*B)*(b*A+d*C)=1:=by rw[a,k,c8]
 rw[<-this];simp[fN,gQ];ac_rfl
def Co.unit{A B:Fx p}(H:bL p)(a:Co A B)(k:A∣B):sz A=1:=by let ⟨U,V,a⟩:=a;exact dvd_one H<|a▸iA (jc A U) (dE k V)
def bD(Q:Fx p):Prop:=2<=sz Q/\∀A B,Q=A*B->sz A=1\/sz B=1
def bD.ne{Q:Fx p}(H:bL p)(a:bD Q):Q≠0:=λe=>by have:=a.1;rw[e,kO H.pos]at this;omega
def bD.or{Q}(H:bL p)(a:bD Q)(A:Fx p):Q∣A\/Co Q A:=by
 let ⟨D,U,V,b,h2,d⟩:=Eu H _ Q A<|dV _;let ⟨w,hw⟩:=b;rcases a.2 _ _ hw with e|e
 .let ⟨B,hB⟩:=yu H e;left;refine fW ⟨B,?_⟩ h2;rw[hw,<-dc,hB,c8]
 .let ⟨B,hB⟩:=yu H e;right;refine⟨B*U,B*V,?_⟩;rw[<-hB,d,fN,dc,dc]
def bD.Ev{Q:Fx p}(H:bL p)(a:bD Q):¬Q∣1:=λe=>by have:=dvd_one H e;have:=a.1;omega
def bD.pP{Q}(H:bL p)(a:bD Q){A B:Fx p}(k:Q∣A*B):Q∣A\/Q∣B:=by
 rcases a.or H A with e|e
 .exact .inl e
 .exact .inr<|e.dvd k
def vr(H:bL p):∀(n:G)(A:Fx p),sz A<n->2<=sz A->∃Q,bD Q/\Q∣A
 |0,_,i,_=>by omega
 |n+1,A,i,h2=>by
  by_cases b:bD A
  .exact⟨A,b,nO A⟩
  .have:∃B C,A=B*C/\¬(sz B=1\/sz C=1):=fe λk=>b ⟨h2,λB C e=>fe λd=>k ⟨B,C,e,d⟩⟩
   let ⟨B,C,e,d⟩:=this;have f:A≠0:=λe=>by rw[e,kO H.pos]at h2;omega
   have hB:B≠0:=λa=>f (by rw[e,a,dy])
   have g:C≠0:=λa=>f (by rw[e,a,g6])
   have l:=eS H hB g;rw[<-e]at l;have s:=fQ H.pos hB;have t:=fQ H.pos g;let ⟨Q,hQ,m⟩:=vr H n B Y Y;exact⟨Q,hQ,by rw[e];exact mI m C⟩
def H2(H:bL p){A B:Fx p}(d:A≠0)(f:∀Q,bD Q->Q∣A->Q∣B->False):Co A B:=by
 let ⟨D,U,V,a,h2,g⟩:=Eu H _ A B<|dV _;have i:D≠0:=λe=>by let ⟨w,hw⟩:=a;rw[e,g6]at hw;exact d hw
 have l:=fQ H.pos i;by_cases e:sz D=1
 .let ⟨C,k⟩:=yu H e;refine⟨C*U,C*V,?_⟩;rw[<-k,g,fN,dc,dc]
 .let ⟨Q,hQ,b⟩:=vr H _ D (dV _) Y;exact(f Q hQ (fW b a)<|fW b h2).elim
def Li(H:bL p)(A B:Fx p):pk (A+B) p=pk A p+pk B p:=by obtain⟨A,a,rfl⟩:=ex A;obtain⟨B,hB,rfl⟩:=ex B;rw[agQ,<-QT (a.add hB) _ (QU (a.add hB) _),<-QT a _ (QU a _),<-QT hB _ (QU hB _),agQ];exact mk_eq.2<|H.hp.Li A B
def HP(H:bL p) b:pk (K b:Fx p) p=K b:=by have d:=jG b (show(p:V)≠0 by have:=H.pos;omega);let ⟨a,f⟩:=Ed d;have e:(K b:Fx p)=K (a:V):=EC (by rw[<-f,ou]);rw[e,agT];exact EC<|H.hp.HP a
def QW(H:bL p)(A B:Fx p):∀i,pk (A+B) (p^i)=pk A (p^i)+pk B (p^i)
 |0=>by simp[qx,sZ]
 |i+1=>by rw[fG,w7,w7,w7,QW H A B i,Li H]
def XO(H:bL p)(a:V):∀i,pk (K a:Fx p) (p^i)=K a
 |0=>sZ _
 |i+1=>by rw[fG,w7,XO H a i,HP H]
def ev:E (Fx p)->Fx p->Fx p
 |[],_=>1
 |b::cs,a=>b+a*ev cs a
def agW(a:Fx p):∀(d:E (Fx p))(f:Fx p),∃g:E (Fx p),Z g=Z d/\∀b,ev (f::d) b=ev (f::d) a+(b-a)*ev g b
 |[],f=>⟨[],J,λb=>by show f+b*1=f+a*1+(b-a)*1;rw[fO,fO,fO,kq,jS a,mG]⟩
 |i::d,f=>by let ⟨g,h1,h2⟩:=agW a d i;refine⟨ev (i::d) a::g,B3,λb=>?_⟩;show f+b*ev (i::d) b=f+a*ev (i::d) a+(b-a)*(ev (i::d) a+b*ev g b);rw[h2 b];generalize ev (i::d) a=w;generalize ev g b=v;rw[fN,fN,kq f,<-kq (a*w),<-gQ a,jS a,mG];congr 2;ac_rfl
def roots(H:bL p){Q:Fx p}(hQ:bD Q):∀(f:E (Fx p))(g:E (Fx p)),Z f<Z g->(∀d∈g,Q∣ev f d)->g.Pairwise (λa b=>¬Q∣a-b)->False
 |_,[],i,_,_=>by simp at i
 |[],d::_,_,i,_=>hQ.Ev H<|i d au
 |t::f,n::g,hl,i,hp=>by
  let ⟨ds,v,h2⟩:=agW n f t;let ⟨l,m⟩:=lq.1 hp;have u:=i n au;have k:Z ds<Z g:=by simp at hl;omega
  refine roots H hQ ds g k (λd hy=>?_) m;have s:=i d wD;rw[h2 d]at s;rcases hQ.pP H (yo s u)with e|e
  .exact aF (m9 e)<|l d hy
  .exact e
termination_by f=>Z f
decreasing_by simp;omega
def agX(a:Fx p):∀m,ev (bx m 0) a=pk a m
 |0=>rfl
 |m+1=>by rw[Bb,ev,agX a m,iI,pk,dk]
def as' m(a:Fx p):ev (0:: -1::bx m 0) a=pk a (m+2)-a:=by rw[ev,ev,agX,iI,fN,mul_neg,fO,pk,pk,fB,jS];congr 1;ac_rfl
def pD(p:G):G->G->E V
 |0,_=>[]
 |n+1,k=>((k%p:G):V)::pD p n (k/p)
def agY(p:G):∀n k,Z (pD p n k)=n
 |0,_=>rfl
 |n+1,k=>by rw[pD,jg,agY p n]
def Oq{p:G}(a:0<p):∀n k l,k<p^n->l<p^n->(∀i,I (pD p n k) i 0%(p:V)=I (pD p n l) i 0%(p:V))->k=l
 |0,k,l,b,d,_=>by rw[qx]at b d;omega
 |n+1,k,l,b,d,f=>by
  have g:=f 0;simp only[pD,List.getD_cons_zero]at g;have m:k%p=l%p:=by have:=gU k a;have:=gU l a;rw[iN Y Y,iN Y Y]at g;omega
  have s:=Oq a n (k/p) (l/p) (Bc<|by rw[gA,<-fG];exact b) (Bc<|by rw[gA,<-fG];exact d) (λi=>by simpa only[pD,Wg]using f (i+1));rw[<-tJ k p,<-tJ l p,m,s]
def agZ(H:bL p){Q:Fx p}{i:G}(a:Q∣pk X (p^i)-X):∀l:E V,Q∣pk (fx l) (p^i)-fx l
 |[]=>by rw[lV,agS<|gG EE,sub_self];exact uf Q
 |b::l=>by rw[LR,QW H,XO H,w8];exact Lt (kM Q _)<|ow a<|agZ H a l
def ag0(H:bL p){Q:Fx p}(hQ:bD Q){i}(n:0<i)(D:i+1<sz Q):¬Q∣pk X (p^i)-X:=λh=>by
 have s:=H.hp.1;have d:0<p:=Y;have t:2<=p^i:=br s (by rw[<-Nat.pow_one p,<-Ek,je];exact dD d n);have u:p^i<p^(i+1):=XP Y Y;obtain⟨m,f⟩:∃m,p^i=m+2:=⟨p^i-2,Y⟩;refine roots H hQ (0:: -1::bx m 0) ((bJ<|p^i+1).map λk=>fx<|pD p (i+1) k) (by simp[f]) (λy v=>?_) ?_
 .rw[as',<-f];obtain⟨k,_,rfl⟩:=kd.1 v;exact agZ H h _
 .refine H9.2<|QX ?_ M5;intro a b g l x z;have g:=qO.1 g;have l:=qO.1 l;have:=Oq d (i+1) a b Y Y<|λj=>agV (BZ<|ui H z (by have K:=HY H.pos (fx (pD p (i+1) a):Fx p)<|fx<|pD p (i+1) b;have B:=Lv H.pos<|pD p (i+1) a;have C:=Lv H.pos<|pD p (i+1) b;rw[agY]at B C;omega)) j;omega
end Fx
namespace Fx
variable{p:G}
def te(a:Fx p):Prop:=∀Q,bD Q->¬Q*Q∣a
def te.of_dvd{a b:Fx p}(d:te a)(k:b∣a):te b:=λQ hQ f=>d Q hQ<|fW f k
def Ad{A B C D:Fx p}(a:A∣B)(k:C∣D):A*C∣B*D:=by obtain⟨w,rfl⟩:=a;obtain⟨v,rfl⟩:=k;exact⟨w*v,fC⟩
def yv(H:bL p){a}(b:a%(p:V)≠0):sz (K a:Fx p)=1:=by let ⟨d,f⟩:=qy H b;exact Ac H f
end Fx
def tf(A:PS):PS:=λi=>((i:V)+1)*A (i+1)
def ata{p}{A B}(a:Cg p A B):Cg p (tf A) (tf B):=Cg.of λi=>by show((i:V)+1)*A (i+1)%p=((i:V)+1)*B (i+1)%p;rw[sV,a.at,<-sV]
def Al{p}{A}(a:bC p A):bC p (tf A):=by let ⟨n,a⟩:=a;exact⟨n,λi b=>Qr<|a (i+1) Y⟩
def ox(p:G)(a:E V)(k:G):E V:=(bJ k).map λj=>I a (j*p) 0
def EF(p:G)(a:E V):PS:=λi=>if i%p=0 then I a (i/p) 0 else 0
namespace Fx
variable{p:G}
def bH(A:Fx p):Fx p:=as6 A (λA=>mk (tf A.1)<|Al A.2)<|λ_ _ h=>mk_eq.2<|ata h
def Lx(x a:Fx p):bH (x+a)=bH x+bH a:=by obtain⟨A,h,rfl⟩:=ex x;obtain⟨B,k,rfl⟩:=ex a;exact kv (PS.ext λi=>by show((i:V)+1)*(A (i+1)+B (i+1))=_;rw[qt];rfl) _ _
def H3 a:bH (K a:Fx p)=0:=kv (PS.ext λi=>by show((i:V)+1)*PS.K a (i+1)=0;rw[PS.K,y Y,iO]) _ _
def Xz:bH (0:Fx p)=0:=by have h:=H3 (p:=p) 0;rwa[jT]at h
def Ly a(x:Fx p):bH (K a*x)=K a*bH x:=by obtain⟨A,h,rfl⟩:=ex x;exact kv (PS.ext λi=>by show((i:V)+1)*(PS.K a*A) (i+1)=(PS.K a*tf A) i;rw[PS.eN,PS.eN,tf,Int.mul_left_comm]) (Al<|(bC.K p a).mul h)<|(bC.K p a).mul<|Al h
def Lz(x:Fx p):bH (X*x)=x+X*bH x:=by
 obtain⟨A,h,rfl⟩:=ex x;exact kv (PS.ext λi=>by
  show((i:V)+1)*(PS.X 1*A) (i+1)=A i+(PS.X 1*tf A) i;rw[PS.lD,PS.lD,q Y,eL];cases i with
  |zero=>simp
  |succ i=>
   rw[q Y,eL,tf,pJ,mu,yh];rfl) (Al<|(B7 1).mul h) (h.add<|(B7 1).mul<|Al h)
def LA(B:Fx p):∀a:E V,bH (fx a*B)=bH (fx a)*B+fx a*bH B
 |[]=>by rw[lV,dy,Xz,dy,dy,iI]
 |d::a=>by have b:=LA B a;rw[LR,gQ,Lx,Ly,dc,Lz,b,Lx,H3,iI,Lz];simp[gQ,fN];ac_rfl
def yw(H:bL p)(A B:Fx p):bH (A*B)=bH A*B+A*bH B:=by obtain⟨a,_,rfl⟩:=jU H.pos A;exact LA B a
def H4(H:bL p)(Q:Fx p):∀a,pk Q a∣bH (pk Q<|a+1)
 |0=>⟨bH<|pk Q 1,(fO _).symm⟩
 |a+1=>by show pk Q a*Q∣bH (pk Q (a+1)*Q);rw[yw H];exact iA (Ad (H4 H Q a)<|nO Q)<|mH _ _
def QH(H:bL p)(A:Fx p):sz (bH A)<=sz A-1:=by obtain⟨a,b,rfl⟩:=jU H.pos A;rw[dn b];exact B8 H.pos (Al<|bC.ps p a)<|λi d=>Qr<|mD (p:V) a (i+1) Y
def mult(H:bL p){Q:Fx p}(hQ:bD Q):∀(n:G)(a:Fx p),sz a<n->a≠0->∃e b,a=pk Q e*b/\¬Q∣b
 |0,_,b,_=>by omega
 |n+1,a,b,k=>by
  by_cases d:Q∣a
  .obtain⟨f,rfl⟩:=d;have i:f≠0:=λe=>k Lw
   have m:=eS H i<|hQ.ne H;have s:=hQ.1;obtain⟨e,g,rfl,l⟩:=mult H hQ n f Y i;exact⟨e+1,g,by rw[pk];ac_rfl,l⟩
  .exact⟨0,a,(c8 a).symm,d⟩
def EG(H:bL p){Q:Fx p}(hQ:Q≠0):∀a,pk Q a≠0
 |0=>s0 H
 |a+1=>oW H (EG H hQ a) hQ
def ag1(H:bL p){a D W U V:Fx p}(i:a≠0)(d:a=W*D)(k:D=U*a+V*bH a):te W:=by
 intro Q hQ f;let ⟨e,h,b,g⟩:=mult H hQ _ a (dV _) i;cases e with
 |zero=>
  refine g ?_
  have b:a=1*h:=b
  rw[c8]at b
  rw[<-b,d]
  exact mI (fW (jc Q Q) f) D
 |succ e=>
  have l:pk Q e∣a:=by rw[b,pk];exact mI (mH _ _) h
  have m:pk Q e∣bH a:=by rw[b,yw H];exact iA (mI (H4 H Q e) h)<|mI (by rw[pk];exact mH _ _)<|bH h
  have n:pk Q e∣D:=by rw[k];exact iA (dE l U)<|dE m V
  have s:Q*Q*pk Q e∣a:=by rw[d];exact Ad f n
  let ⟨v,hv⟩:=s
  refine g ⟨v,?_⟩
  refine yt H (EG H (hQ.ne H)<|e+1) ?_
  rw[dk h,<-b,hv,pk];ac_rfl
def ag2:∀n,pk (X:Fx p) n=mk (PS.X n) (B7 n)
 |0=>rfl
 |n+1=>by rw[pk,ag2 n];exact kv (PS.Eg n 1).symm ((B7 n).mul<|B7 1)<|B7<|n+1
def ag3(b:0<p) a:bC p (EF p a):=⟨Z a*p,λi d=>by
 unfold EF;split
 .rw[gk a ((Nat.le_div_iff_mul_le b).2 d),iP]
 .exact iP _⟩
def ag4(H:bL p)(b:0<p):∀a:E V,pk (fx a) p=mk (EF p a) (ag3 b a)
 |[]=>by rw[lV,agS b];exact kv (PS.ext λi=>by unfold EF;split<;>rfl) (bC.zero p) _
 |g::a=>by
  rw[LR,Li H,HP H,w8,ag4 H b a,ag2];refine kv (PS.ext λi=>?_) ((bC.K p g).add<|(B7 p).mul<|ag3 b a) _;rw[PS.ef,PS.lD];by_cases d:p<=i
  .obtain⟨f,rfl⟩:∃f,i=f+p:=⟨i-p,Y⟩;rw[q d,eL,PS.K,y Y,Ee];unfold EF;rw[Nat.add_mod_right,Nat.add_div_right _ b];rfl
  .rw[y d,tV,PS.K];unfold EF;rw[rk Y,D7 Y];rfl
def dm(H:bL p){a}(d:bH (fx a:Fx p)=0){k}(t:Z a<=k*p):(fx a:Fx p)=pk (fx<|ox p a k) p:=by
 have f:0<p:=EE;rw[ag4 H f];refine mk_eq.2<|Cg.of λi=>?_;unfold EF;by_cases e:i%p=0
 .rw[q e];congr 1;have l:i/p*p=i:=by have:=tJ i p;rw[gA];omega
  unfold ox;by_cases m:i/p<k
  .rw[aO,ju,k7 m];show _=I a (i/p*p) 0;rw[l];rfl
  .rw[gk (List.map _ _) cd,cT,gk a];have:k*p<=i/p*p:=dS p Y;omega
 .rw[y e,iP];cases i with
  |zero=>rw[Nat.zero_mod]at e;exact aF J e
  |succ i=>
   have b:=(mk_eq.1 (d:mk (tf<|ps a) (Al<|bC.ps p a)=mk 0 (bC.zero p))).at i
   rw[PS.mB,iP]at b
   refine fe λn=>?_
   refine H.hp.oW (a:=(i:V)+1) (λs=>e ?_) n b
   have:((i+1:G):V)%(p:V)=0:=by rw[zQ];exact s
   omega
structure Mon(p:G)(a:E V):Prop where
 c:bS p a
 ne:a≠[]
 one:a.getD (a.length-1) 0=1
def Mon.pos{a}(b:Mon p a):1<=Z a:=cF.2 b.ne
def Mon.lW(H:bL p){a}(b:Mon p a):(fx a:Fx p)≠0:=λe=>by rw[<-lV]at e;exact b.ne<|xd b.c (ud H.pos) e
def XQ(H:bL p){a b}(l:Mon p a)(g:Mon p b)(B:Z b<=Z a):Mon p (aW a b p).1:=by
 let ⟨d1,d2,d3,d4,d5,d6⟩:=nL H.hp H.le l.c.1 g.c g.ne;have C:=g.pos;obtain⟨n,s⟩:∃n,Z b=n+1:=⟨Z b-1,Y⟩;obtain⟨m,z⟩:∃m,Z a=m+n+1:=⟨Z a-1-n,Y⟩;have i:(aW a b p).1.length=m+1:=Y;have t:=mD (p:V) (aW a b p).1;have u:=mD (p:V) b;rw[i]at t;rw[s]at u;have k:=d1.at<|m+n;have d:=l.one;have f:=g.one;rw[z,eL]at d;rw[s,eL]at f;have A:(ps (aW a b p).2) (m+n)=0:=by rw[cT];exact gk _ Y
 rw[PS.ef,A,tV,t.top u,cT,cT,cT,d,f,oV]at k;have v:=d2 m;rw[H.one,iN v.1 v.2]at k;have x:(aW a b p).1.getD ((aW a b p).1.length-1) 0=1:=by rw[i,eL];exact k.symm
 refine⟨⟨d2,.inr<|by rw[x];decide⟩,λe=>by rw[e]at i;simp at i,x⟩
def QY(H:bL p){a b}(f:bS p a)(g:bS p b)(d:b≠[]):(aW a b p).2=[]↔(fx b:Fx p)∣fx a:=by
 let ⟨d1,d2,d3,d4,d5,d6⟩:=nL H.hp H.le f.1 g d;have e:(fx a:Fx p)=fx (aW a b p).1*fx b+fx (aW a b p).2:=mk_eq.2 d1;have k:=cF.2 d;constructor
 .intro h;rw[e,h,lV,fA];exact jc _ _
 .intro h;rw[e]at h;have i:=ui H (yo h<|jc _ _) (by rw[dn (d5 f),dn g];omega);rw[<-lV]at i;exact xd (d5 f) (ud H.pos) i
def Am(H:bL p){a b}(f:bS p a)(g:bS p b)(d:b≠[])(i:(fx b:Fx p)∣fx a):(fx a:Fx p)=fx (aW a b p).1*fx b:=by let ⟨d1,d2,d3,d4,d5,d6⟩:=nL H.hp H.le f.1 g d;have e:(fx a:Fx p)=fx (aW a b p).1*fx b+fx (aW a b p).2:=mk_eq.2 d1;rwa[(QY H f g d).2 i,lV,fA]at e
def QZ(H:bL p){a b}(f:bS p a)(g:bS p b)(d:b≠[]):(fx b:Fx p)∣fx (aW a b p).2-fx a:=by let ⟨d1,_⟩:=nL H.hp H.le f.1 g d;have e:(fx a:Fx p)=fx (aW a b p).1*fx b+fx (aW a b p).2:=mk_eq.2 d1;refine m9 ?_;rw[e,z9];exact jc _ _
def ag5(H:bL p):∀(k:G)(f g:E V),bS p f->bS p g->Z g<k->(fx (rF p k f g):Fx p)∣fx f/\(fx (rF p k f g):Fx p)∣fx g/\∃b a,(fx (rF p k f g):Fx p)=b*fx f+a*fx g
 |0,_,_,_,_,m=>by omega
 |k+1,f,g,i,hg,m=>by
  rw[rF];split
  next d=>subst d;exact⟨nO _,by rw[lV];exact uf _,1,0,by rw[c8,dy,fA]⟩
  next d=>let ⟨d1,d2,d3,d4,d5,d6⟩:=nL H.hp H.le i.1 hg d;have n:=cF.2 d;have l:(fx f:Fx p)=fx (aW f g p).1*fx g+fx (aW f g p).2:=mk_eq.2 d1;let ⟨i1,i2,b,a,i3⟩:=ag5 H k g (aW f g p).2 hg (d5 i) Y;refine⟨by rw[l];exact iA (dE i1 _) i2,i1,a,b-a*fx (aW f g p).1,?_⟩;rw[i3,l,fN,ov];have:a*(fx (aW f g p).1*fx g)+a*fx (aW f g p).2+(b*fx g-a*fx (aW f g p).1*fx g)=(b*fx g-a*fx (aW f g p).1*fx g+a*fx (aW f g p).1*fx g)+a*fx (aW f g p).2:=fC;rw[this,mG]
def Q1(H:bL p){a}(f:bS p a)(d:a≠[]):Mon p (m8 p a)/\Z (m8 p a)=Z a/\(fx (m8 p a):Fx p)∣fx a/\(∃g,(fx (m8 p a):Fx p)=K g*fx a)/\(fx a:Fx p)=K (I a (Z a-1) 0)*fx (m8 p a):=by
 let ⟨m1,b,i,k,l⟩:=Xo H.hp H.le f d;have m:=cF.2 d;have e:(fx a:Fx p)=K (I a (Z a-1) 0)*fx (m8 p a):=by rw[dk];exact mk_eq.2 l
 refine⟨⟨m1,λe=>by rw[e]at b;simp at b;omega,by rw[b];exact i⟩,b,⟨_,e⟩,⟨((jR (af<|I a (Z a-1) 0) (af ((p:G):V)):G):V),?_⟩,e⟩;rw[dk];exact mk_eq.2 k
def B9(H:bL p){f g}(a:bS p f)(l:bS p g)(b:f≠[]):Mon p (il p f g)/\(fx (il p f g):Fx p)∣fx f/\(fx (il p f g):Fx p)∣fx g/\∃d i,(fx (il p f g):Fx p)=d*fx f+i*fx g:=by
 let ⟨k,h2,d,i,n⟩:=ag5 H (Z g+1) f g a l<|dV _;let ⟨s,_,_⟩:=Xn H.hp H.le (Z g+1) f g a l<|dV _;have t:rF p (Z g+1) f g≠[]:=λe=>by rw[e,lV]at k;let ⟨w,hw⟩:=k;rw[g6,<-lV]at hw;exact b<|xd a (ud H.pos) hw
 let ⟨m1,v,m,⟨c,u⟩,_⟩:=Q1 H s t;exact⟨m1,fW m k,fW m h2,K c*d,K c*i,by rw[il,u,n,fN,dc,dc]⟩
end Fx
def jz.a1{P}{f}{x g}{xs}{a}(b:w P f (g::xs) a)(d:bu x g):w P f (x::xs) a:=
 ⟨b.call,b.jh,λH W vs i k=>b.spec H W vs i<|by obtain⟨v,a,rfl,l,m⟩:=k;exact⟨v,a,J,d.1 _ _ l,m⟩⟩
def An(a:E V)(m:V)(b:E V):E V:=(bJ<|max (Z a)<|Z b).map λi=>I a i 0+m*I b i 0
def atb(f:G->V) i:(bJ<|i+1).map f=(bJ i).map f++[f i]:=by rw[AU,gf];rfl
def XR a m(b:E V) u(x:u<=100000)(A:Z a<=1000)(B:Z b<=1000)(s:∀i,aJ u (I a i 0))(p:aJ u m)(t:∀i,0<=I b i 0/\I b i 0<4294967296):w O 260 [e .z a,aZ m,e ar b] (e .z<|aU<|An a m b):=by
 refine aK Tryz.func260 ?_;generalize hM:max (Z a) (Z b)=M;have v:M<=1000:=Y;have f:An a m b=(bJ M).map λi=>I a i 0+m*I b i 0:=by rw[An,hM]
 rw[f];refine U J<|R<|gV .z [] J J (re J<|h<|U J<|ay<|bq (α:=G) (λi=>⟨[(0,e .z a),(2,e ar b),(4,.c<|.P 0 0),(7,.c<|.X 1000000),(8,c i)],[(0,.box 42 0<|av .z m),(1000000,.vec 42 .z<|(bJ i).map λi=>I a i 0+m*I b i 0)],3,[]⟩) (λi=>i<=M) (λi=>M-i) 0 (bg _) (wk (bK J) ⟨bE J J,bR J,j⟩) ?_);intro i C;have D:Z ((bJ i).map λi=>I a i 0+m*I b i 0)=i:=au;by_cases l:i<M
 .refine kp ⟨[(0,e .z a),(2,e ar b),(4,.c<|.P 0 0),(7,.c<|.X 1000000),(8,c i)],[(0,.box 42 0<|av .z m),(1000000,.vec 42 .z<|(bJ i).map λi=>I a i 0+m*I b i 0)],4,[]⟩ ?_ (λg=>R<|rg 14 J J (λd=>re J<|F J (λ_=>di<|eD g aN)<|λh2=>pO)<|λd=>re J<|F J (λ_=>di<|eD g aN)<|λh2=>?_)
  .have h2:=t i;have k:aJ 1 (I b i 0):= .one Y;refine h<|ay<|cG<|rc J J (KY a i)<|rc J J (Lj b i)<|rc J J (km (I b i 0) Y Y) (hp:=aH)<|rc J J (mr m (I b i 0) (p.sm Y)<|k.sm Y)<|rc J J (zN (I a i 0) (m*I b i 0) ((s i).sm Y)<|(p.mul k).sm Y)<|rl .z [I a i 0+m*I b i 0] J J (ra J J J J J J J J J ?_ ?_<|re J ?_)
   .show(_+1+(_+1)/4+192)*32<=_;omega
   .show(_+1)*2<=_;omega
   exact bP<|rt J<|a4 (i+1) l zM<|Wk.trans (wk (st':=⟨[(0,e .z a),(2,e ar b),(4,.c<|.P 0 0),(7,.c<|.X 4013000),(8,c ((i+1:G):V))],[(0,.box 42 0<|av .z m),(4013000,.vec 42 .z<|(bJ<|i+1).map λi=>I a i 0+m*I b i 0)],8,[]⟩) (bK J) ⟨bR J,bE J<|bm (aA.vec 42 .z) (atb _ i).symm,j⟩)<|Wk.trans (gZ 1000000 4013000 J J J) aN
  .exfalso;have d:¬(i:V)<(Z a:V):=bc d;have h2:¬(i:V)<(Z b:V):=bc h2;omega
 .have n:i=M:=by omega
  subst n;refine h<|R<|rg 14 J J (λd=>?_)<|λd=>?_
  .exfalso;have d:(i:V)<(Z a:V):=aV d;omega
  .refine re J (F J (λh2=>?_)<|λh2=>(bs<|aS<|dv 1000000 J J J<|bQ J J (PJ _) J<|cN J))
   .exfalso;have h2:(i:V)<(Z b:V):=aV h2;omega
def atc m b:An [] m b=b.map (m*·):=by refine v7 (by simp[An])<|λi d h2=>?_;have a:i<Z b:=sk;simp only[An,Di,NP];rw[aO (l:=b),df a];simp
def ag6(b:E V)(a:Z b<=1000)(d:∀i,0<=I b i 0/\I b i 0<4294967296):w O 259 [e ar b] (e .z<|aU b):=by refine aK Tryz.func259 ?_;have h:=XR [] 1 b 1 S au a (λi=>aJ.zero 1) (.one S) d;rw[atc,show(λx:V=>1*x)=id from funext λx=>mu x,List.map_id]at h;exact U J<|R<|rc J J (km 1 S S)<|rc J J (h.a1<|bu.nil .z)<|M J<|cN J
def XS(p k:G)(d:p<4294967296)(f:k<=100000):w O 177 [cU p,c k] (aZ<|(p:V)^k):=by
 refine aK Tryz.func177 ?_;have b:aJ 1 (p:V):= .one Y;refine U J<|bQ J J (km 1 S S) J<|h<|U J<|ay<|bq (α:=G) (λi=>⟨[(0,cU p),(1,c k),(4,.c<|.P 0 0),(5,.c<|.P 1001000 0),(6,c i)],[(0,.box 42 0 [.B ah,.V<|.slice none 0 0]),(1001000,.box 42 0<|av .z<|(p:V)^i)],3,[]⟩) (λi=>i<=k) (λi=>k-i) 0 (bg _) (wk (bK J) ⟨bE J J,bE J ?_,j⟩) ?_
 .rw[ry];rfl
 intro i g;refine h<|U J<|F J (λa=>?_)<|λa=>?_
 .have a:i<k:=by have a:(i:V)<(k:V):=aV a;omega
  refine aE<|h<|ay<|cG<|rc J J (km p Y Y) (hp:=aH)<|rc J J (mr ((p:V)^i) p ((b.pow i).sm Y)<|b.sm Y)<|M J<|bP<|rt J<|a4 (i+1) a Q2<|wk (bK J) ⟨bE J J,bE J ?_,j⟩;rw[gP];rfl
 .have a:i=k:=by have a:¬(i:V)<(k:V):=bc a;omega
  subst a;exact bs<|aS<|U J<|cv J J
def eG(a m:V):V:=if a%m+a%m>m then a%m-m else a%m
def XT{n}{a m}(b:0<m)(d:aJ n m):aJ n (eG a m):=by have f:=jG a (Y:m≠0);have g:=jH a b;unfold eG aJ at*;split<;>omega
def ag7{a b}:eR a b>0↔a>b:=by
 unfold eR;split
 .omega
 .split<;>omega
def XU a m u(v:u<=100000)(x:Z a<=1000)(k:0<m)(s:∀i,aJ u (I a i 0))(l:aJ u m):w O 211 [e .z a,aZ m] (e .z<|aU<|a.map (eG · m)):=by
 refine aK Tryz.func211 ?_;refine U J<|R<|gV .z [] J J (M J<|h<|U J<|ay<|bq (α:=G) (λi=>⟨[(0,e .z a),(3,.c<|.P 0 0),(5,.c<|.X 1000000),(6,c i)],[(0,.box 42 0<|av .z m),(1000000,.vec 42 .z<|(r i a).map (eG · m))],3,[]⟩) (λi=>i<=Z a) (λi=>Z a-i) 0 (bg _) (wk (bK J) ⟨bE J J,bR J,j⟩) ?_);intro i A;have B:((r i a).map (eG · m)).length=i:=cd;refine h<|U J<|F J (λb=>?_)<|λb=>?_
 .have b:i<Z a:=by have b:(i:V)<(Z a:V):=aV b;omega
  have n:w O 183 [.a (av .z<|I a (af<|(i:V)) 0),aZ m] (.t [(ae,av .z<|I a i 0/m),(ae,av .z<|I a i 0%m),(ah,[.I .i64 0])]):=by rw[cC];exact HE (I a i 0) m Y ((s i).sm Y)<|l.sm Y
  have p:aJ u (I a i 0%m):=aJ.emod k l;refine aE<|h<|ay<|R<|rc J J n (hp:=aH)<|M J<|kp ⟨[(0,e .z a),(3,.c<|.P 0 0),(5,.c<|.X 1000000),(6,c i),(8,.c<|.P 4011000 0)],[(0,.box 42 0<|av .z m),(1000000,.vec 42 .z<|(r i a).map (eG · m)),(4011000,.box 42 0<|av .z<|eG (I a i 0) m)],7,[]⟩ ?_<|λg=>?_
  .refine cG (rl .z [eG (I a i 0) m] J J (ra J J J J J J J J J ?_ ?_<|M J ?_))
   .show(_+1+(_+1)/4+192)*32<=_;omega
   .show(_+1)*2<=_;omega
   refine bP<|rt J<|a4 (i+1) b ri<|Wk.trans (wk (st':=⟨[(0,e .z a),(3,.c<|.P 0 0),(5,.c<|.X 7003000),(6,c ((i+1:G):V))],[(0,.box 42 0<|av .z m),(7003000,.vec 42 .z<|(r (i+1) a).map (eG · m))],9,[]⟩) (bK J) ⟨bR J,bE J<|bm (aA.vec 42 .z) ?_,j⟩)<|Wk.trans (gZ 1000000 7003000 J J J) aN;rw[uc a i b,gf];rfl
  .refine R (rc J J (zN (I a i 0%m) (I a i 0%m) (p.sm Y)<|p.sm Y)<|rc J J (PF (I a i 0%m+I a i 0%m) m)<|M J<|F J (λd=>?_)<|λd=>?_)
   .have d:eR (I a i 0%m+I a i 0%m) m>0:=aV d;rw[ag7]at d;refine cG<|rc J J (WU (I a i 0%m) m (p.sm Y)<|l.sm Y)<|M J<|eD g<|wk (bK J) ⟨bE J J,bR J,bE J ?_,j⟩;rw[eG,q d];rfl
   .have d:¬eR (I a i 0%m+I a i 0%m) m>0:=bc d;rw[ag7]at d;refine di<|eD g<|wk (bK J) ⟨bE J J,bR J,bE J ?_,j⟩;rw[eG,y d];rfl
 .have b:i=Z a:=by have b:¬(i:V)<(Z a:V):=bc b;omega
  subst b;rw[iG];exact bs<|aS<|dv 1000000 J J J<|bQ J J (PJ _) J<|cN J
def atd{a b}(d:cD a=cD b)(f:fo a=fo b):a=b:=by have g:val (al<|aC a)=val (al<|aC b):=bm val f;rw[fv,fv]at g;rw[<-(BK a),<-(BK b),d,(Y:aC a=aC b)]
def ag8{x a:Bool}:(x !=a)=ae↔x≠a:=by cases x<;>cases a<;>decide
def Ca(a b:E V)(i:G):G->E V->E V
 |0,f=>f
 |d+1,f=>(Ca a b i d f).set (i+d)<|I (Ca a b i d f) (i+d) 0+I a i 0*I b d 0
def Ao(a b:E V):G->E V
 |0=>bx (Z a+Z b-1) 0
 |i+1=>Ca a b i (Z b)<|Ao a b i
def vz(a b:E V)(m:V):E V:=(Ao a b<|Z a).map (·%m)
def XV(a b:E V)(i:G)(d:E V):∀f,Z (Ca a b i f d)=Z d
 |0=>rfl
 |f+1=>by rw[Ca,px,XV a b i d f]
def XW(a b:E V):∀i,Z (Ao a b i)=Z a+Z b-1
 |0=>by simp[Ao]
 |i+1=>by rw[Ao,XV,XW a b i]
def ag9(a b:E V)(i:G)(f:E V):∀d,i+d<=Z f->ps (Ca a b i d f)=ps f+PS.K (I a i 0)*PS.X i*ps (r d b)
 |0,_=>by rw[Ca,Lq,PS.g6,PS.fA]
 |d+1,k=>by rw[Ca,Lo _ (by rw[XV];omega),Lp,PS.fN,<-PS.kq,ag9 a b i f d Y];congr 1;rw[show∀x g:V,x+g-x=g by intros;omega];rw[PS.BV,PS.Eg];ac_rfl
def ag'(a b:E V):∀i,i<=Z a->ps (Ao a b i)=ps (r i a)*ps b
 |0,_=>by rw[Ao,Qy,Lq,PS.dy]
 |i+1,f=>by have d:=ag9 a b i (Ao a b i) (Z b) (by rw[XW];omega);rw[iG]at d;rw[Ao,d,ag' a b i Y,Lp,PS.gQ]
def XX a b m:Cg m (ps<|vz a b m) (ps a*ps b):=by have h:=ag' a b (Z a)<|aL _;rw[iG]at h;rw[<-h];exact afY m _
def XY a b m:Z (vz a b m)=Z a+Z b-1:=by rw[vz,dj,XW]
section
variable{P:Program}{tt:TT}
def ate(cK:cE P tt=ae){ops}{i}{aG}(ho:ops[i]? =ad aG)(hg:aG.guard=none)(hd:aG.dst=none){n}{t:TypeId}{x p}(b9:aG.op= .store t x p)
 {B}{D f u}{bt}{bz:G} {cs:E C} {E2:TypeId} {T:ET} {xs:E T.den} (hx:B.ev x=ad (.c<|.P D f)) (hy:B.ev p=ad (.c<|.X u)) (hl:o D B.mem=ad (.box bt bz cs)) (hj:o u B.mem=ad (.vec E2 T xs)) {ag:Bool} (FW:qf tt t=ad (1,ag)) (h1:f<Z cs) (new:G):
  jd P n ops i (cQ B x++cQ B p++fZ B [D,u]) [(.m D,ad<|.b<|.box bt bz<|cR cs [.X u] f)] new:=by
 intro F lM Q V σ g W a K w d v hK
 have L:=dY d B p _ hy<|λI cy=>v I e9
 have s:σ (.m D)=ad (.b<|.box bt bz cs):=v (.m D,.b<|.box bt bz cs) sb
 have M:σ (.m u)=ad (.b<|.vec E2 T xs):=v (.m u,.b<|.vec E2 T xs) (by simp[fZ,hj])
 let ⟨b,vs,rest,N,hh,hr,hN,hz,wg⟩:=d.cM D _ s
 have O:=d.cM u _ M
 let ⟨b',A,hv⟩:=(dY d B x _ hx<|λI cy=>v I e9)
 rw[N]at A
 simp only[aq]at A
 subst A
 have R:a.eval p=g.γ u:=L
 have S:po (a.eval p)=ae:=by rw[R];rcases O with⟨e,_⟩|⟨_,_,_,e,_⟩<;>rw[e]<;>rfl
 have H:(a.eval p).cells=[a.eval p].toArray:=by rw[R];rcases O with⟨e,_⟩|⟨_,_,_,e,_⟩<;>rw[e]<;>rfl
 have I1:a6 g [.X u] [a.eval p]:=⟨_,_,J,L,J⟩
 let ⟨_,⟨ti,pq,aa3⟩,_⟩:=Je cK FW
 have amU:=hr.length
 have U:(Instr.storeAt t (a.eval x)<|a.eval p).run P W= .ok () (jy W b (cR (vs++rest) [a.eval p] f) bt):=by rw[hv];simp only[Instr.storeAt,Instr.sureAddr,storeVar,Sem.run_bind,Sem.run_pure,Result.andThen,run_sizeOf pq,H];have:¬([a.eval p].toArray.size≠ti.size):=cd;simp only[this,b8];have:=A1 (P:=P) b [a.eval p] W (vs++rest) f 0 hh cd (by simpa using S);simp only[jZ]at this;simpa using this
 unfold wpOp
 simp only[ho,Region.wanted,hg,cz]
 refine .inl ?_
 unfold Oper.wp
 have hex:(execOp a.eval aG).run P W= .ok .skip (jy W b (cR (vs++rest) [a.eval p] f) bt):=by rw[execOp,b9];simp[U,Sem.run,pure]
 rw[hex]
 simp only[Oper.upon,hd,Act.put]
 have hb:b<W.heap.size:=(fY.1 hh).1
 refine hK g _ a<|d.step (chg:=λu=>u=D) (g':=g) ⟨⟨cL.refl _,λ_ _=>rfl⟩,λ_ _ _=>rfl,A2 d.sub hz,A3,?_,J,J,J⟩ _ new w J d.defers (λ_ _=>rfl) ?_ ?_ ?_ ?_ ?_
 .intro k hk eZ;have:b≠k:=λe=>eZ D J (by rw[N,e])
  exact y4 this
 .intro u hj;subst hj;exact⟨y7,_,s⟩
 .intro t' v' ht;simp[aD]at ht
 .intro q bk r;simp only[aD]at r;split at r
  next e=>simp only[Key.m.injEq]at e;subst e;simp only[aq,Info.b.injEq]at r;subst r;have tE:cR (vs++rest) [a.eval p] f=cR vs [a.eval p] f++rest:=Np vs rest _ f cd;exact⟨⟨b,cR vs [a.eval p] f,rest,N,Nq,hr.cR I1 f,hN,hz,λh0=>by let ⟨c,e1,e2⟩:=wg h0;refine⟨c,e1,?_⟩;rw[<-tE,y5 _ _ _ cd];exact e2⟩,.inl ⟨d.dX _ _ s,_,s⟩⟩
  .simp at r
 .intro k z l;simp only[aD]at l;split at l
  .simp only[aq]at l;subst l;intro q r;rcases FT _ _ _ q r with h|h
   .exact .inl<|d.ak _ _ s q h
   .exact .inl ((tx d B p _ hy<|λI cy=>v I e9) q<|by simpa[b6,AV.ak]using h)
  .simp at l
 .intro q z l;simp only[aD]at l;split at l
  next e=>simp only[Key.m.injEq]at e;subst e;exact .inl<|d.dX _ _ s
  .simp at l
def atg{a:Type} vs(u:a) off(b:off<Z vs):cR vs [u] off=vs.set off u:=by unfold cR;rw[List.set_eq_take_append_cons_drop,q b,nt];rfl
def ath{n}{u}{a}{H i}{t:TypeId}{x p}{ty}{pos}{v}{N}{b}{mem}{d}{f}{W}{Q:St->Prop}(z:cE P tt=ae)
 {g l s}{bt}{bz}{A}{E2}{T}{xs}(hx:St.ev ⟨b,mem,d,f⟩ x=ad (.c<|.P g l)) (hy:St.ev ⟨b,mem,d,f⟩ p=ad (.c<|.X s)) (hl:o g mem=ad (.box bt bz A)) (hj:o s mem=ad (.vec E2 T xs)) {ag}(B:qf tt t=ad (1,ag)) (h1:l<Z A)
  (h:RG P n u a H (i+1) N ⟨b,(g,.box bt bz<|A.set l<|.X s)::mem,d,f⟩ (ix a W (bN [x,p]++da [g,s],[.m g])) Q):
  RG P n u a H i (⟨none,.store t x p,ty,pos,v,none⟩::N) ⟨b,mem,d,f⟩ W Q:=by
 refine nv (λK=>⟨_,_,ate z K J J J hx hy hl hj B h1 _,?_,?_,?_,λk hk=>kV⟩)<|nw h
 .intro C D;rcases bl.1 D with h|h
  .rcases bl.1 h with h|h
   .exact eQ _ x C h
   .exact eQ _ p C h
  .exact ly _ [g,s] C h
 .rw[atg _ _ _ h1];exact Nv ⟨b,mem,d,f⟩ g _
 .intro k hk;simp only[dL,gf,bl]at hk;rcases hk with(h|h)|h
  .exact eT _<|ff ⟨b,mem,d,f⟩ [x,p] k uV
  .exact eT _<|ff ⟨b,mem,d,f⟩ [x,p] k xH
  .exact gO _<|kE ⟨b,mem,d,f⟩ [g,s] k h
end
def lG(b:G->G):C->C
 | .P id a=> .P (b id) a
 | .X id=> .X<|b id
 | .Y id n i a=> .Y (b id) n i a
 | .L id a l d=> .L (b id) a l d
 | .W id a l=> .W (b id) a l
 |d=>d
def Cb(b:G->G):AV->AV
 | .c x=> .c<|lG b x
 | .a cs=> .a<|cs.map<|lG b
 | .t d=> .t<|d.map λs=>(s.1,s.2.map<|lG b)
def qA(d:G->G):aA->aA
 | .box g i cs=> .box g i<|cs.map<|lG d
 | .vec g T xs=> .vec g T xs
 | .eB f a b=> .eB f (a.map λs=>(s.1,s.2.map<|lG d))<|b.map λs=>(s.1,s.2.map<|lG d)
 | .fz g cs=> .fz g<|cs.map<|lG d
 | .mp k l xs=> .mp k l<|xs.map λx=>(x.1.map<|lG d,x.2.map<|lG d)
 | .it m n seen=> .it (d m) n seen
def XZ{g:Gh}{b:G->G}:∀{d:C}{v:Value},de g (lG b d) v->de ⟨g.H,λf=>g.γ<|b f⟩ d v
 | .any,_,a=>a
 | .B _,_,a=>a
 | .I _ _,_,a=>a
 | .V _,_,a=>a
 | .S _ _,_,a=>a
 | .P _ _,_,a=>a
 | .X _,_,a=>a
 | .Y _ _ _ _,_,a=>a
 | .E _ _ _,_,a=>a
 | .M _,_,a=>a
 | .L _ _ _ (ad _),_,a=>a
 | .L _ _ _ none,_,a=>a
 | .W _ _ _,_,a=>a
def EH{g:Gh}{b:G->G}:∀{d:E C}{vs:E Value},a6 g (d.map<|lG b) vs->a6 ⟨g.H,λf=>g.γ<|b f⟩ d vs
 |[],_,a=>a
 |_::_,_,a=>by let ⟨v,i,k,l,h2⟩:=a;exact⟨v,i,k,XZ l,EH h2⟩
def Q3{g:Gh}{k:G->G}:∀{l:E (Bool×E C)}{vs:E Value},dK g (l.map λs=>(s.1,s.2.map<|lG k)) vs->dK ⟨g.H,λm=>g.γ<|k m⟩ l vs
 |[],_,d=>d
 | (b,f)::_,_,d=>by
  let ⟨v,n,i,a,h2⟩:=d;refine⟨v,n,i,?_,Q3 h2⟩;match b,f,a with
  |true,f,a=>let ⟨vs,i,d⟩:=a;exact⟨vs,i,EH d⟩
  |false,[f],a=>exact XZ a
  |false,[],a=>exact a.elim
  |false,_::_::_,a=>exact a.elim
def X0{g}{d:G->G}{x}{v}(b:bh g (Cb d x) v):bh ⟨g.H,λf=>g.γ<|d f⟩ x v:=by
 cases x with
 |c y=>exact XZ b
 |a cs=>let ⟨vs,e,b⟩:=b;exact⟨vs,e,EH b⟩
 |t i=>let ⟨vs,e,b⟩:=b;exact⟨vs,e,Q3 b⟩
def aha{g:Gh}{a:G->G}{i k:Bool}:∀{n:G}{xs:E (E C×E C)}{l:E MapEntry},jr g i k n (xs.map λx=>(x.1.map<|lG a,x.2.map<|lG a)) l->jr ⟨g.H,λm=>g.γ<|a m⟩ i k n xs l
 |_,[],_,b=>b
 |_,_::_,_,b=>by let ⟨p,s,t,h2,⟨u,v,d⟩,⟨vs,z,f⟩,A⟩:=b;exact⟨p,s,t,h2,⟨u,v,EH d⟩,⟨vs,z,EH f⟩,aha A⟩
def X2{N:G->Prop}{g}{W}{t:G->G}{s}{b}(l:gW N g W (t s) (qA t b)):gW N ⟨g.H,λs=>g.γ<|t s⟩ W s b:=by
 cases b with
 |box E z cs=>
  let ⟨k,vs,rest,a,d,i,p,u,x⟩:=l
  exact⟨k,vs,rest,a,d,EH i,p,u,x⟩
 |vec E T A=>
  rcases l with⟨a,d⟩|⟨k,v,vs,a,d⟩
  .exact .inl ⟨a,d⟩
  .exact .inr ⟨k,v,vs,a,d⟩
 |eB f first caps=>
  let ⟨us,ws,a,d,i⟩:=l
  exact⟨us,ws,a,Q3 d,Q3 i⟩
 |fz E cs=>
  let ⟨k,vs,rest,a,d,i,p,u⟩:=l
  exact⟨k,vs,rest,a,d,EH i,p,u⟩
 |mp B C xs=>
  let ⟨k,es,a,d,i,p⟩:=l
  exact⟨k,es,a,by simpa using d,aha i,p⟩
 |it m n seen=>exact l
def LS(a:G->G)(l:E (G×AV)):E (G×AV)->Prop
 |[]=>True
 | (t,b)::d=>(∃v,o t l=ad v/\bu v (Cb a b))/\LS a l d
def LU(a:G->G)(l:E (G×aA)):E (G×aA)->Prop
 |[]=>True
 | (t,b)::d=>(∃v,o (a t) l=ad v/\mb v (qA a b))/\LU a l d
def LS.get{d:G->G}{l:E (G×AV)}:∀{m:E (G×AV)},LS d l m->∀{t b},o t m=ad b->∃v,o t l=ad v/\bu v (Cb d b)
 |[],_,_,_,a=>by simp[o]at a
 | (k,x)::m,hw,t,b,a=>by
  simp[o]at a;split at a
  next f=>subst f;cases a;exact hw.1
  .exact LS.get hw.2 a
def LU.get{b:G->G}{l:E (G×aA)}:∀{m:E (G×aA)},LU b l m->∀{t d},o t m=ad d->∃v,o (b t) l=ad v/\mb v (qA b d)
 |[],_,_,_,a=>by simp[o]at a
 | (k,x)::m,hw,t,d,a=>by
  simp[o]at a;split at a
  next f=>subst f;cases a;exact hw.1
  .exact LU.get hw.2 a
def yB(K:G)(m:E (G×aA)):Prop:=∀t v,o t m=ad v->t<K/\∀a∈v.ak,a<K
def ati(l:G->G){z d}(T:LS l z.sl d.sl)(hm:LU l z.mem d.mem)(h0:l 0=0)(A:∀f i,(o f d.mem).isSome=ae->(o i d.mem).isSome=ae->l f=l i->f=i)
  (D:yB (1000000*d.nx) d.mem) (N:A8 (1000000*d.nx) d.sl=ae:=by rfl) (B:Nat.ble 1 d.nx=ae:=by rfl):Wk z d:=by
 intro F X g W a h
 have B:=c7 B
 let q:Gh:=⟨g.H,λf=>g.γ<|l f⟩
 have Q:∀t n,d.kn (.s t)=ad (.v n)->(∃v,z.kn (.s t)=ad (.v v)/\bu v (Cb l n))/\∀f∈n.ak,f<1000000*d.nx:=by intro t n e;simp only[St.kn,bY]at e;let ⟨x,hx,he⟩:=e;cases he;let ⟨v,hv,hle⟩:=T.get hx;exact⟨⟨v,si,hle⟩,F9 N t n hx⟩
 have C:∀f p,d.kn (.m f)=ad (.b p)->(∃b,z.kn (.m<|l f)=ad (.b b)/\mb b (qA l p))/\(f<1000000*d.nx/\∀j∈p.ak,j<1000000*d.nx)/\(o f d.mem).isSome=ae:=by intro t n e;simp only[St.kn,bY]at e;let ⟨x,hx,he⟩:=e;cases he;let ⟨v,hv,hle⟩:=hm.get hx;exact⟨⟨v,si,hle⟩,D t n hx,by rw[hx];rfl⟩
 refine⟨q,h.size,h.defers,?_,?_,?_,?_,?_,h.sub,h.below,h.le,h.fresh,?_⟩
 .intro t n e;let ⟨⟨v,hv,hle⟩,_⟩:=Q t n e;exact X0<|hle.1 _ _<|h.dW t v hv
 .intro f p e;let ⟨⟨b,r,hle⟩,_⟩:=C f p e;exact X2<|hle.1 _ _ _ _<|h.cM (l f) b r
 .intro f i b p k e w y K;let ⟨⟨c,hc,_⟩,_,E⟩:=C f b e;let ⟨⟨I,P,_⟩,_,h2⟩:=C i p w;exact A f i E h2<|h.inj (l f) (l i) c I k hc P y K
 .intro k x e f u;cases k with
  |s t=>
   cases x with
   |v n=>exact(Q t n e).2 f u
   |b p=>simp only[St.kn,bY]at e;let ⟨_,_,he⟩:=e;cases he
  |m j=>
   cases x with
   |v n=>simp only[St.kn,bY]at e;let ⟨_,_,he⟩:=e;cases he
   |b p=>exact(C j p e).2.1.2 f u
 .intro f x e;cases x with
  |v n=>simp only[St.kn,bY]at e;let ⟨_,_,he⟩:=e;cases he
  |b p=>exact(C f p e).2.1.1
 .intro f u;have J:f=0:=Y;subst J;refine⟨?_,?_⟩
  .show 0<1000000*d.nx;omega
  .show g.γ (l 0)=_;rw[h0];exact(h.fT 0 u).2
def yB.of{K}{m}(a:tI K m=ae):yB K m:=F' a
def Q4{d:Type}(t:G):∀(a b:E (G×d)),o t (a++b)=(o t a).or (o t b)
 |[],_=>rfl
 | (k,x)::a,b=>by
  simp[mY,o];split
  .rfl
  .exact Q4 t a b
def Q5(m:G)(b:Ks):E Ks->G->Bool
 |[],_=>ae
 |a::l,i=>(oH m i|| !py a b)&&Q5 m b l (i+1)
def Q6:E G->E Ks->E Ks->Bool
 |m::ms,b::a,done=>Q5 m b done 0&&Q6 ms a (done++[b])
 |[],[],_=>ae
 |_,_,_=>ah
def X3(a:E Oper)(b:E Ks):Bool:=F4 a 0&&Q6 (sc a []) b []
def ahb(m:G)(b:Ks):∀(l:E Ks)(i:G),Q5 m b l i=Da m b l i
 |[],_=>rfl
 |a::l,i=>by rw[Q5,Da,ahb m b l,Bool.or_comm]
def ahc:∀(a:E G)(d done:E Ks),Q6 a d done=y' a d done
 |[],[],_=>rfl
 |[],_::_,_=>rfl
 |_::_,[],_=>rfl
 |m::a,b::d,done=>by rw[Q6,y',ahb,ahc a d]
def atj{b}{a}{d}(f:(!b||X3 a d)=ae):(!b||sd a d)=ae:=by
 have:X3 a d=sd a d:=by rw[X3,sd,ahc]
 rwa[this]at f
def ahd{a:Type}{k t}{x}{l:E (G×a)}(b:k≠t):o t ((k,x)::l)=o t l:=by simp[o,y b]
def Q7{a b:E V}(g:Z a=Z b)(i:∀d,d<Z a->I a d 0=I b d 0):a=b:=by refine v7 g<|λd f k=>?_;have:=i d f;rw[aO,aO,df f,df k]at this;exact this
def atk a b{m}(d:0<m) k:0<=I (vz a b m) k 0/\I (vz a b m) k 0<m:=by rw[vz,getD_map<|iP m];exact⟨jG _ Y,jH _ d⟩
def X4 a b i:I (m7 a b) i 0=if i<Z a+Z b-1 then conv (λi=>I a i 0) (λi=>I b i 0) i else 0:=by
 unfold m7;rw[aO,ju];split
 next h=>rw[k7 h];rfl
 next h=>rw[iw cd];rfl
def LV a b:Z (m7 a b)=Z a+Z b-1:=by simp[m7]
def ahe a b(d:a≠[])(f:b≠[]):ps (m7 a b)=ps a*ps b:=PS.ext λi=>by
 have g:=cF.2 d;have k:=cF.2 f;rw[cT,X4];show _=conv (λi=>I a i 0) (λi=>I b i 0) i
 split
 .rfl
 .symm;refine Ww _ _ i (i+1) λj l=>?_
  by_cases e:j<Z a
  .show I a j 0*I b (i-j) 0=0;rw[gk b Y,iO]
  .show I a j 0*I b (i-j) 0=0;rw[gk a Y,oU]
def atl a b(d:a≠[])(f:b≠[]):I (m7 a b) (Z (m7 a b)-1) 0=I a (Z a-1) 0*I b (Z b-1) 0:=by have k:=cF.2 d;have l:=cF.2 f;rw[LV,X4,q Y,(Y:Z a+Z b-1-1=(Z a-1)+(Z b-1))];exact aq6 (λi g=>gk a Y)<|λi g=>gk b Y
def ahf a b u v(d:∀i,aJ u (I a i 0))(f:∀i,aJ v (I b i 0))(g:Z a<=1000)(k:Z b<=1000) i:aJ (u+v+1) (I (m7 a b) i 0):=by
 rw[X4];split
 .exact af8 a b u v d f i (i+1) Y
 .exact aJ.zero _
def aM(a:E V):Prop:=a≠[]/\I a (Z a-1) 0=1
def aM.can{a}(b:aM a):can a:= .inr (by rw[b.2];decide)
def aM.trim{a}(b:aM a):aU a=a:=yl b.can
def aM.ahg{a b}(d:aM a)(f:aM b):aM (m7 a b):=by have i:=cF.2 d.1;have k:=cF.2 f.1;refine⟨λe=>?_,by rw[atl a b d.1 f.1,d.2,f.2];rfl⟩;have g:=LV a b;rw[e]at g;simp at g;omega
def aM.md{p}(d:1<p){a}(b:aM a):aM (md p a):=by refine⟨λe=>b.1 (gx<|by rw[<-z5 p a,e];rfl),?_⟩;rw[z5,Lk,b.2];exact iN S d
namespace Rx
def zx(a:E V):Rx:=lx (a.map λx:V=>(x:Rat))
def mL a i:zx a i=((I a i 0:V):Rat):=by show I (a.map λx:V=>(x:Rat)) i 0=_;rw[aO,ju,aO];cases a[i]? <;>rfl
def EI a:dz (zx a):=dz.of λi=>⟨_,mL a i⟩
def Q8 a:nu (zx a)=ps a:=PS.ext λi=>by show(zx a i).num=_;rw[mL];rfl
def atm{a}(b:can a):bp (a.map λx:V=>(x:Rat)):=by
 rcases b with b|b
 .subst b;exact .inl J
 .right;rw[dj];intro e;have d:=mL a<|Z a-1;rw[show zx a (Z a-1)=0 from e]at d;exact b<|Ia.1 d.symm
def mM{a}(b:can a):sz (zx a)=Z a:=by rw[zx,fj<|atm b,dj]
def aM.can{a}(b:aM a):can a:= .inr (by rw[b.2];decide)
def pS{a}(b:aM a):Mo (zx a):=by rw[Mo,mM<|aM.can b,mL,b.2];rfl
def atn{a b}(g:can a)(k:can b)(d:zx a=zx b):a=b:=by
 have l:∀i,I a i 0=I b i 0:=λi=>by
  have e:zx a i=zx b i:=by rw[d]
  rw[mL,mL]at e;exact Ai.1 e
 refine Q7 ?_ λj _=>l j
 have f:=mM g;rw[d,mM k]at f;exact f.symm
def Q9{A}(d:dz A):∃a,can a/\zx a=A:=by
 obtain⟨a,b,rfl⟩:=jU A;have e:∀i,I (a.map Rat.num) i 0=(I a i 0).num:=λi=>by rw[aO,ju,aO];cases a[i]? <;>rfl
 refine⟨a.map Rat.num,?_,ext λi=>?_⟩
 .rcases b with b|b
  .subst b;exact .inl J
  .right;rw[dj,e];exact λf=>b<|Rat.num_eq_zero.1 f
 .rw[mL,e];exact(d i).symm
def Q'{a}(f:can a)(b:Mo (zx a)):aM a:=by have d:=b;rw[Mo,mM f,mL]at d;refine⟨λe=>?_,Ai.1 (d.trans Rat.intCast_one.symm)⟩;subst e;exact b.ne<|show zx []=0 from ku
def Ra{a b d}(f:zx a*zx b=zx d):ps a*ps b=ps d:=by rw[<-Q8,<-Q8,<-EA (EI a) (EI b),f,Q8]
def xe(A:PS){n:G}(a:∀i,n<=i->A i=0):Rx:=⟨λi=>(A i:Rat),n,λi b=>by rw[a i b];rfl⟩
def Ib A{n}(a:∀i,n<=i->A i=0):dz (xe A a):=λ_=>rfl
def Cc A{n}(a:∀i,n<=i->A i=0):nu (xe A a)=A:=rfl
def ahh{A B}(a:dz A)(hB:dz B)(b:nu A=nu B):A=B:=ext λi=>by rw[a.at,hB.at,b]
def Rb{A B}(a:dz A)(hB:dz B):dz (A+B)/\nu (A+B)=nu A+nu B:=by
 have e:∀i,(A+B) i=(((nu A+nu B) i:V):Rat):=λi=>by rw[ef,a.at,hB.at,<-Rat.intCast_add];rfl
 exact⟨dz.of λi=>⟨_,e i⟩,PS.ext λi=>by show((A+B) i).num=_;rw[e];rfl⟩
def X5 a:dz (bH<|zx a)/\nu (bH<|zx a)=tf (ps a):=by
 have e:∀i,bH (zx a) i=((tf (ps a) i:V):Rat):=λi=>by rw[s7,mL];show _=((((i:V)+1)*ps a (i+1):V):Rat);rw[g7];rfl
 exact⟨dz.of λi=>⟨_,e i⟩,PS.ext λi=>by show(bH (zx a) i).num=_;rw[e];rfl⟩
def ato{l}(hn:l.Nodup)(P:∀p∈l,bL p)(hb:Aj<tb l){A}{n}(hl:Z A=n+2)(Q:aM A)(k:Co (zx A) (bH<|zx A)){B}(h1B:1<=B)(hB:∀i,aC (I A i 0)<=B)(b:(2*((2*n+2)*((n+1)*B)))^(2*n+1)<=Aj):
  ∃p∈l,Fx.Co (Fx.fx A:Fx (p:G)) (Fx.bH<|Fx.fx A):=by
 have T:∀i,n+1<i->ps A i=0:=λi a=>gk A Y
 have f:∀i,n<i->tf (ps A) i=0:=λi a=>by show _*ps A (i+1)=0;rw[T (i+1) Y,iO]
 have m:B<=(n+1)*B:=kw<|dS B (Y:1<=n+1)
 let ⟨u,v,D,u1,v1,e,o,eZ⟩:=as0 (B:=(n+1)*B) Y T f (λi=>br (hB i) m) (λi=>by
  by_cases a:n<i
  .rw[f i a];exact bg _
  .show aC (((i:V)+1)*ps A (i+1))<=_;rw[tZ];exact mA Y<|hB _)
 have r:sz (zx A)=n+2:=by rw[mM (aM.can Q),hl]
 have s:D≠0:=λw=>by
  subst w;have t:xe u u1*zx A+xe v v1*bH (zx A)=0:=by have W:=(Ib u u1).mul<|EI A;have X:=(Ib v v1).mul (X5 A).1;refine ahh (Rb W X).1 (λ_=>rfl) ?_;rw[(Rb W X).2,EA (Ib u u1)<|EI A,EA (Ib v v1) (X5 A).1,Cc,Cc,Q8,(X5 A).2,e,PS.jT];rfl
  have h:zx A∣xe v v1*bH (zx A):=by refine yo ?_<|jc (zx A)<|xe u u1;rw[t];exact uf _
  rw[dk]at h;have j:xe v v1=0:=ui (k.dvd h) (by have:=na (A:=xe v v1) (n:=n+1) (λi a=>by show((v i:V):Rat)=0;rw[v1 i a];rfl);omega);rw[j,dy,fA]at t;have E:xe u u1=0:=fe λF=>oW F (pS Q).ne t
  refine eZ J ?_ ?_
  .rw[<-Cc v v1,j];rfl
  .rw[<-Cc u u1,E];rfl
 let ⟨p,g,x⟩:=as4 hn (λp g=>(P p g).hp) hb s<|br o b
 refine⟨p,g,?_⟩
 have z:bC p u:=⟨n,λi a=>by rw[u1 i a,iP]⟩
 have C:bC p v:=⟨n+1,λi a=>by rw[v1 i a,iP]⟩
 let ⟨d,L⟩:=Fx.qy (P p g) (c:=D)<|λM=>x<|HM M
 refine⟨Fx.K d*Fx.mk u z,Fx.K d*Fx.mk v C,?_⟩
 have N:(Fx.mk u z*Fx.fx A+Fx.mk v C*Fx.bH (Fx.fx A):Fx p)=Fx.K D:=Fx.kv e ((z.mul<|bC.ps p A).add<|C.mul<|Al<|bC.ps p A)<|bC.K p D
 rw[Fx.dc,Fx.dc,<-Fx.fN,N]
 exact L
end Rx
def Re{a b m}(d:a%m=b%m):eG a m=eG b m:=by unfold eG;rw[d]
def Cd{m}(b:0<m) a:eG a m%m=a%m:=by
 unfold eG;split
 .rw[z7,ou,Int.emod_self,D2,ou]
 .exact ou _ _
def ahi{m}(a:1<m):eG 1 m=1:=by unfold eG;rw[iN S a,y Y]
def atp m(a:0<m):eG 0 m=0:=by unfold eG;rw[iP,y Y]
def th a{m}(b:0<m) i:(a.map (eG · m)).getD i 0=eG (I a i 0) m:=getD_map (f:=(eG · m)) (atp m b) a i
def atq{a b}{m}(d:0<m)(f:Z a=Z b)(g:∀i,I a i 0%m=I b i 0%m):a.map (eG · m)=b.map (eG · m):=Q7 (by rw[dj,dj,f]) λj _=>by rw[th a d,th b d];exact Re<|g j
def EJ{a}{m}(d:1<m)(b:aM a):aM (a.map (eG · m)):=by refine⟨λe=>b.1<|List.map_eq_nil_iff.1 e,?_⟩;rw[dj,th a Y,b.2];exact ahi d
open Fx
def ahj{p}(H:bL p){b}{d}(f:bC p b)(k:b d=1)(l:∀i,d<i->b i=0):sz (mk b f)=d+1:=by
 have m:sz (mk b f)<=d+1:=B8 H.pos f λi s=>by rw[l i Y,iP]
 let ⟨a,n,e⟩:=jU H.pos<|mk b f;have g:=(mk_eq.1 (e:mk (ps a) (bC.ps p a)=mk b f)).at d;rw[<-e,dn n]at m⊢;by_cases hl:Z a<=d
 .rw[cT,gk a hl,k,iP,H.one]at g;cases g
 .omega
def X6{p}{A}{n}(a:∀i,n<=i->A i=0):bC p A:=⟨n,λi b=>by rw[a i b,iP]⟩
structure MD(d:G)(a:PS):Prop where
 one:a d=1
 z:∀i,d<i->a i=0
def MD.Rf{d}{a}(b:MD d a) p:bC p a:=X6 (n:=d+1) λi f=>b.z i Y
def ahk{p:G}(H:bL p){a k K l:PS}{d x:G}(s:MD d a)(u:MD d k)(B:MD x K)(v:MD x l)(D:Co (mk a<|s.Rf p) (mk K<|B.Rf p))(c1:Cg p a k)(c2:Cg p K l):∀b,1<=b->Cg ((p:V)^b) (a*K) (k*l)->Cg ((p:V)^b) a k/\Cg ((p:V)^b) K l
 |0,N,_=>aF N Y
 |1,_,_=>by rw[gP,ry,mu];exact⟨c1,c2⟩
 |b+1+1,_,N=>by
  have hp:=H.hp.1;have C:Cg ((p:V)^(b+1)) (a*K) (k*l):=Cg.of λi=>by have m:=vB ((a*K) i) (show((p:V)^(b+1))∣(p:V)^(b+1+1)from⟨p,gP _ _⟩);have P:=vB ((k*l) i) (show((p:V)^(b+1))∣(p:V)^(b+1+1)from⟨p,gP _ _⟩);rw[<-m,N.at,P]
  let ⟨i1,i2⟩:=ahk H s u B v D c1 c2 (b+1) Y C;obtain⟨q,eq⟩:∃q,q=(p:V)^(b+1):=⟨_,J⟩;have o:q≠0:=by rw[eq];exact Int.ne_of_gt<|pI Y
  rw[<-eq]at i1 i2;rw[gP,<-eq]at N⊢;let ⟨U,r⟩:=i1.symm;let ⟨f,y⟩:=i2.symm;have zU:∀i,d<=i->U i=0:=λi E=>by
   have m:k i=a i+q*U i:=by rw[r,PS.ef,PS.eN]
   have P:k i=a i:=by
    by_cases x:i=d
    .subst x;rw[s.one,u.one]
    .rw[s.z i Y,u.z i Y]
   have Q:q*U i=0:=Y;exact(Int.mul_eq_zero.1 Q).resolve_left o
  have zV:∀i,x<=i->f i=0:=λi E=>by
   have m:l i=K i+q*f i:=by rw[y,PS.ef,PS.eN]
   have P:l i=K i:=by
    by_cases F:i=x
    .subst F;rw[B.one,v.one]
    .rw[B.z i Y,v.z i Y]
   have Q:q*f i=0:=Y;exact(Int.mul_eq_zero.1 Q).resolve_left o
  have T:bC p U:=X6 zU;have I:bC p f:=X6 zV;have L:(p:V)∣q:=by rw[eq,gP];exact EK _ _
  have M:Cg p (a*f+U*K) 0:=Cg.Xb λi=>by
   have m:=N.symm.dvd i;have F:k*l=a*K+PS.K q*(a*f+U*K)+PS.K q*(PS.K q*(U*f)):=by rw[r,y];simp[PS.fN,PS.gQ];ac_rfl
   rw[F,PS.ef,PS.ef,PS.eN,PS.eN,PS.eN]at m;let ⟨w,hw⟩:=m;have P:q*((a*f+U*K) i+q*(U*f) i)=q*(p*w):=by rw[qt,<-ko q (p:V) w,<-hw];omega
   let ⟨z,hz⟩:=L;refine⟨w-z*(U*f) i,?_⟩;rw[PS.mB,D2,HC,<-(Int.eq_of_mul_eq_mul_left o P),hz,ko];omega
  have g:=s.Rf p;have X:=B.Rf p;have O:mk a g*mk f I+mk U T*mk K X=0:=mk_eq.2 M;have d1:mk a g∣mk U T*mk K X:=yo (by rw[O];exact uf _)<|mH _ _;have sG:sz (mk a g)=d+1:=ahj H g s.one s.z;have u0:mk U T=0:=by
   refine ui H (D.dvd<|by rw[dk];exact d1) ?_;have:=B8 H.pos T (n:=d) λi E=>by rw[zU i E,iP]
   omega
  rw[u0,dy,fA]at O;have R:mk a g≠0:=λe0=>by rw[e0,kO H.pos]at sG;omega
  have v0:mk f I=0:=fe λhv=>oW H R hv O
  have c:∀{A S W:PS}(Z:bC p W),S=A+PS.K q*W->mk W Z=0->Cg (q*p) A S:=λ{A S W} Z hA hW0=>Cg.symm (Cg.Xb λi=>by have m:=(mk_eq.1 (hW0:mk W Z=mk 0 (bC.zero p))).dvd i;rw[PS.mB,D2]at m;let ⟨t,ht⟩:=m;refine⟨t,?_⟩;rw[hA,PS.ef,PS.eN,ht,ko];omega)
  exact⟨c T r u0,c I y v0⟩
def bV(b:G->Bool):G->E (E V)->E (E V)
 |_,[]=>[]
 |i,f::l=>if b i then f::bV b (i+1) l else bV b (i+1) l
def lX(m:V)(g:E V):E (E V)->E V
 |[]=>g
 |f::l=>lX m (vz g f m) l
def rJ:E (E V)->PS
 |[]=>1
 |f::l=>ps f*rJ l
def eE:E (E V)->G
 |[]=>0
 |f::l=>(Z f-1)+eE l
def ahl(b:G->Bool):∀(l a:E (E V))(i:G),bV b i (l++a)=bV b i l++bV b (i+Z l) a
 |[],a,i=>rfl
 |f::l,a,i=>by rw[mY,bV,bV,ahl b l a<|i+1,jg,(Y:i+1+Z l=i+(Z l+1))];split<;>rfl
def ahm(m:V):∀(l a:E (E V))(g:E V),lX m g (l++a)=lX m (lX m g l) a
 |[],_,_=>rfl
 |f::l,a,g=>ahm m l a<|vz g f m
def Ap{b:G->Bool}{x:E V}:∀{l:E (E V)}{i:G},x∈bV b i l->x∈l
 |[],_,a=>a
 |f::l,i,a=>by
  rw[bV]at a;split at a
  .rcases b7.1 a with rfl|a
   .simp
   .simp[Ap a]
  .simp[Ap a]
def LW{b:G->Bool}{d:E V->E V->Prop}:∀{l:E (E V)}{i:G},l.Pairwise d->(bV b i l).Pairwise d
 |[],_,a=>a
 |f::l,i,a=>by
  let ⟨g,h2⟩:=lq.1 a;rw[bV];split
  .exact lq.2 ⟨λy k=>g y<|Ap k,LW h2⟩
  .exact LW h2
def X7(b:G->Bool):∀(l:E (E V))(i:G),rJ (bV b i l)*rJ (bV (λi=> !b i) i l)=rJ l
 |[],_=>PS.fO 1
 |f::l,i=>by
  have a:=X7 b l<|i+1;rw[bV,bV];cases b i
  .simp[Gi,cz,jx,b8,rJ];rw[<-a];ac_rfl
  .simp[Rg,cz,jx,b8,rJ];rw[<-a];ac_rfl
def Rh(b:G->Bool):∀(l:E (E V))(i:G),eE (bV b i l)+eE (bV (λi=> !b i) i l)=eE l
 |[],_=>rfl
 |f::l,i=>by
  have a:=Rh b l<|i+1;rw[bV,bV];cases b i
  .simp[Gi,cz,jx,b8,eE];omega
  .simp[Rg,cz,jx,b8,eE];omega
def Ri(m:V):∀(l:E (E V))(g:E V),Cg m (ps<|lX m g l) (ps g*rJ l)
 |[],g=>Cg.of_eq (PS.fO _).symm
 |f::l,g=>by refine(Ri m l<|vz g f m).trans<|((XX g f m).Ei _).trans<|Cg.of_eq ?_;rw[rJ];ac_rfl
def ats{a b}{m}(l:1<m)(f:aM a)(g:aM b):aM (vz a b m):=by
 have u:=cF.2 f.1;have v:=cF.2 g.1;have d:=XY a b m;have k:=(Cg.trans (XX a b m)<|Cg.refl m _).at<|Z a-1+(Z b-1);have p:(ps a*ps b) (Z a-1+(Z b-1))=1:=by
  rw[PS.fM,Ah (a:=Z a-1) Y λi x s=>?_]
  .rw[(Y:Z a-1+(Z b-1)-(Z a-1)=Z b-1),cT,cT,f.2,g.2];rfl
  .by_cases e:Z a<=i
   .rw[cT,gk a e,oU]
   .rw[cT b,gk b Y,iO]
 let ⟨r1,t⟩:=atk a b (by omega:0<m)<|Z a-1+(Z b-1);rw[p,cT,iN r1 t,iN S l]at k;refine⟨λe=>by rw[e]at d;simp at d;omega,?_⟩;rw[d,(Y:Z a+Z b-1-1=Z a-1+(Z b-1))];exact k
def Ce{m:V}(a:1<m):∀{l:E (E V)}{g:E V},aM g->(∀f∈l,aM f)->aM (lX m g l)/\Z (lX m g l)=Z g+eE l
 |[],g,hg,_=>⟨hg,J⟩
 |f::l,g,hg,b=>by
  have d:=b f au;have k:=cF.2 d.1;have n:=cF.2 hg.1;let ⟨i,h2⟩:=Ce a (l:=l) (ats a hg d) λx hx=>b x mW
  refine⟨i,?_⟩;rw[lX,h2,XY,eE];omega
def EL:aM [1]:=⟨au,J⟩
def aM.xf{a}(b:aM a):MD (Z a-1) (ps a):=⟨b.2,λi d=>gk a Y⟩
def gS(m:V)(l:E (E V))(b:G->Bool):E V:=(lX m [1] (bV b 0 l)).map (eG · m)
section
variable{p:G}
def g8:E (E V)->Fx p
 |[]=>1
 |f::l=>fx f*g8 l
def att l:bC p (rJ l):=by
 induction l with
 |nil=>exact bC.one p
 |cons f l a=>exact(bC.ps p f).mul a
def Ic:∀l:E (E V),(g8 l:Fx p)=mk (rJ l) (att l)
 |[]=>rfl
 |f::l=>by rw[g8,Ic l];rfl
def Cf l m(a:(p:V)∣m):(fx (lX m [1] l):Fx p)=g8 l:=by rw[Ic];refine mk_eq.2 ?_;have h:=Ri m l [1];rw[Qx,PS.c8]at h;exact Cg.of λi=>by have b:=h.at i;rw[<-vB _ a,b,vB _ a]
def xg(H:bL p){g}(a:aM g):sz (fx g:Fx p)=Z g:=by have:=cF.2 a.1;have b:=ahj H (bC.ps p g) a.xf.one a.xf.z;rw[(Y:Z g-1+1=Z g)]at b;exact b
def ahn(H:bL p){g a}(b:aM g)(d:aM a){f:Fx p}(m:sz f=1)(i:fx g=f*fx a):(fx g:Fx p)=fx a:=by
 have t:=xg H b;have s2:=xg H d;have u:=cF.2 b.1;have k:f≠0:=λe=>by rw[e,kO H.pos]at m;omega
 have l:(fx a:Fx p)≠0:=λe=>by rw[e,kO H.pos]at s2;have:=cF.2 d.1;omega
 have s:=eS H k l;rw[<-i]at s;obtain⟨c,v,rfl⟩:=HZ H m;have n:ps g (Z g-1)%(p:V)=(PS.K c*ps a) (Z g-1)%(p:V):=(mk_eq.1 (i:mk (ps g) (bC.ps p g)=mk (PS.K c*ps a) ((bC.K p c).mul<|bC.ps p a))).at (Z g-1);rw[PS.eN,cT,cT,b.2,(Y:Z g-1=Z a-1),d.2,oV]at n;rw[i,(EC n.symm:(K c:Fx p)=K 1),lU,c8]
def X8(H:bL p){d:Fx p}:∀{l:E (E V)},l.Pairwise (λx a=>Co (fx x:Fx p)<|fx a)->(∀f∈l,(fx f:Fx p)∣d)->(g8 l:Fx p)∣d
 |[],_,_=>⟨d,(fO d).symm⟩
 |f::l,hp,b=>by
  let ⟨i,h2⟩:=lq.1 hp;refine Co.as9 ?_ (b f au)<|X8 H h2 λx hx=>b x mW;have g:∀{l:E (E V)},(∀a∈l,Co (fx f:Fx p) (fx a))->Co (fx f:Fx p) (g8 l):=by
   intro l;induction l with
   |nil=>intro _;exact⟨0,1,by rw[dy,iI];exact c8 1⟩
   |cons a l k=>intro b;exact(b a au).mul (k λz m=>b z<|by simp[m])
  exact g i
def LX{b:G->Bool}{x:E V}:∀{l:E (E V)}{i:G},x∈bV b i l->∃a,a<Z l/\b (i+a)=ae/\l.getD a []=x
 |[],_,d=>by cases d
 |f::l,i,d=>by
  rw[bV]at d;split at d
  .rename_i k;rcases b7.1 d with rfl|d
   .exact⟨0,au,k,J⟩
   .let ⟨a,m,h2,g⟩:=LX d;exact⟨a+1,cd,by rw[(Y:i+(a+1)=i+1+a)];exact h2,g⟩
  .let ⟨a,m,h2,g⟩:=LX d;exact⟨a+1,cd,by rw[(Y:i+(a+1)=i+1+a)];exact h2,g⟩
def X9{b:G->Bool}:∀{l:E (E V)}{i j:G},j<Z l->b (i+j)=ae->l.getD j []∈bV b i l
 |[],_,_,h,_=>by simp at h
 |f::l,i,0,_,h=>by rw[bV,q fg];simp
 |f::l,i,j+1,h,a=>by
  have:=X9 (l:=l) (i:=i+1) (j:=j) (by simp at h;omega) (by rw[(Y:i+1+j=i+(j+1))];exact a);rw[bV];split
  .exact ls _ this
  .exact this
end
def atu{x m}(a:2*(aC x:V)<m):eG x m=x:=by
 unfold eG;by_cases hx:0<=x
 .rw[iN hx Y,y Y]
 .have e:x%m=x+m:=by rw[<-Int.add_emod_right,iN Y Y]
  rw[e,q Y];omega
end Go.El
namespace Go.El
open Go Go.Proofs Go.RowKit
namespace Rx
def X'{d A B}(f:Mo d)(a:d=A*B)(s:sz A≠1)(hB:sz B≠1):∃u v,Mo u/\Mo v/\d=u*v/\2<=sz u/\2<=sz v:=by
 have g:A≠0:=λi=>f.ne (by rw[a,i,dy])
 have k:B≠0:=λi=>f.ne (by rw[a,i,g6])
 let ⟨c,hc,hm⟩:=agq g;have l:d=(K c⁻¹ *B)*(K c*A):=by have m:K c⁻¹ *B*(K c*A)=(K c⁻¹ *K c)*(A*B):=fC;rw[m,qy hc,c8,<-a]
 have n:Mo (K c⁻¹ *B):=by rw[l]at f;exact f.Ae hm
 have t:=fQ g;have x:=fQ k;have p:=eS (uh hc) g;have b:c⁻¹ ≠0:=λa=>by have:=k8 _ hc;rw[a,mF]at this;exact aF this S
 have s2:=eS (uh b) k;rw[yv hc]at p;rw[yv b]at s2;exact⟨K c*A,K c⁻¹ *B,hm,n,by rw[l,dk],Y,Y⟩
def Rj{u v}(l:Mo u)(m:Mo v)(n:dz (u*v)):dz u/\dz v:=by
 let ⟨a,f⟩:=LK u;let ⟨b,g⟩:=LK v;have one:∀A:Rx,K ((1:G):Rat)*A=A:=λA=>c8 A
 have p:Dn (u*v) 1:=⟨S,by rw[one];exact n,λd _=>Nat.one_dvd d⟩;have e:=agD l m f g p;have s:a=1:=Nat.dvd_one.1 ⟨b,e⟩;have t:b=1:=Nat.dvd_one.1 ⟨a,by rw[gA];exact e⟩;subst s t;have i:=f.int;have k:=g.int;rw[one]at i k;exact⟨i,k⟩
def rK:E (E V)->Rx
 |[]=>1
 |f::l=>zx f*rK l
end Rx
open Fx
def cx(b:G->Bool):G->G
 |0=>0
 |n+1=>cx b n+(if b n then 1 else 0)
def LY{b a:G->Bool}:∀{n:G},(∀i,i<n->b i=a i)->cx b n=cx a n
 |0,_=>rfl
 |n+1,d=>by rw[cx,cx,LY<|λi f=>d i Y,d n Y]
def aho{b a:G->Bool}:∀{n:G},(∀i,i<n->b i=ae->a i=ae)->cx b n<=cx a n
 |0,_=>aL _
 |n+1,d=>by
  have k:=aho (n:=n) λi l=>d i Y
  rw[cx,cx];cases g:b n
  .simp[jx,b8];omega
  .rw[(d n Y) g];simp[cz];omega
def Ya{b c:G->Bool}:∀{n:G},(∀i,i<n->b i=ae->c i=ae)->(∃i,i<n/\b i=ah/\c i=ae)->cx b n<cx c n
 |0,_,⟨i,a,_⟩=>aF a Y
 |n+1,a,⟨i,m,h2,d⟩=>by
  rw[cx,cx];by_cases f:i=n
  .subst f;have:=aho (n:=i) λj g=>a j Y
   rw[h2,d];simp;omega
  .have p:=Ya (n:=n) (λj g=>a j Y) ⟨i,Y,h2,d⟩;cases l:b n
   .simp[jx,b8];omega
   .rw[(a n Y) l];simp[cz];omega
def Yb(b:G->Bool):∀n,cx b n+cx (λi=> !b i) n=n
 |0=>rfl
 |n+1=>by have:=Yb b n;rw[cx,cx];cases b n<;>simp<;>omega
def ahp{b:G->Bool}:∀{n:G},0<cx b n->∃i,i<n/\b i=ae
 |0,h=>aF h (by simp[cx])
 |n+1,h=>by
  cases a:b n
  .rw[cx,a]at h;obtain⟨i,f,d⟩:=ahp (n:=n) fg;exact⟨i,Y,d⟩
  .exact⟨n,Y,a⟩
def Yc{b:G->Bool}{n i}(a:i<n)(d:b i=ae):0<cx b n:=by have:=Ya (b:=λ_=>ah) (c:=b) (n:=n) (λj _ f=>by cases f) ⟨i,a,J,d⟩;omega
def rL(b:G->Bool):G->G
 |0=>0
 |n+1=>(if b n then 2^n else 0)+rL b n
def Rk(b:G->Bool):∀n,rL b n<2^n
 |0=>IU
 |n+1=>by have:=Rk b n;rw[rL,fG];split<;>omega
def Yd(b:G->Bool):∀{n i:G},i<n->oH (rL b n) i=b i
 |0,_,a=>aF a Y
 |n+1,i,a=>by
  rw[rL];by_cases g:i=n
  .subst g;have d:=Nat.testBit_lt_two_pow<|Rk b i;cases k:b i
   .simp[jx,b8,fD];exact d
   .simp[cz];rw[Nat.testBit_two_pow_add_eq,d];rfl
  .have f:=Yd b (n:=n) (i:=i) Y;cases k:b n
   .simp[jx,b8,fD];exact f
   .simp[cz];rw[Nat.testBit_two_pow_add_gt Y];exact f
def xh(n s:G):E G:=(bJ<|2^n).filter λS=>cx S.testBit n==s
def nQ(n:G):E G:=(bJ<|n/2).flatMap λs=>xh n<|s+1
def Ch{n T}:T∈nQ n↔T<2^n/\1<=cx T.testBit n/\cx T.testBit n<=n/2:=by
 unfold nQ xh;simp[js,qO,qN,beq_iff_eq];constructor
 .rintro⟨s,a,b,d⟩;omega
 .rintro⟨a,b,d⟩;exact⟨cx T.testBit n-1,Y,a,Y⟩
def atv n:(nQ n).Pairwise (λx a=>cx x.testBit n<=cx a.testBit n):=by
 have d:∀k,((bJ k).flatMap λs=>xh n<|s+1).Pairwise (λx a=>cx x.testBit n<=cx a.testBit n):=by
  intro k;induction k with
  |zero=>exact .nil
  |succ k g=>
   rw[AU,Gu]
   refine Aq.2 ⟨g,?_,λx b a f=>?_⟩
   .simp[l6,Rl];refine QX ?_ (List.pairwise_of_forall (R:=λ_ _=>True) (λ_ _=>trivial):(xh n<|k+1).Pairwise λ_ _=>True);intro x a b f _;simp[xh,qN,beq_iff_eq]at b f;omega
   .simp[js,qO,l6,Rl,xh,qN,beq_iff_eq]at b f;let ⟨s,i,h2,l⟩:=b;omega
 exact d _
structure iR(p:G)(m:V)(a:E V)(l:E (E V)):Prop where
 H:bL p
 pm:∃e,1<=e/\m=(p:V)^e
 am:aM a
 lm:∀f∈l,aM f
 gJ:∀f∈l,bD (fx f:Fx p)
 pair:l.Pairwise (λx b=>Co (fx x:Fx p)<|fx b)
 pr:Cg m (ps a) (rJ l)
 nb:te (fx a:Fx p)
 len:a.length=1+eE l
 bd:∀g,aM g->Rx.zx g∣Rx.zx a->∀i,2*((g.getD i 0).natAbs:V)<m
section
variable{p:G}{m:V}{a:E V}{l:E (E V)}
def iR.m1(b:iR p m a l):1<m/\(p:V)∣m:=by obtain⟨e,f,rfl⟩:=b.pm;have g:=b.H.hp.1;obtain⟨e,rfl⟩:∃d,e=d+1:=⟨e-1,Y⟩;have i:(0:V)<(p:V)^e:=pI Y;rw[gP];refine⟨?_,EK _ _⟩;have k:=ja (Y:(1:V)<=(p:V)^e) (Y:(0:V)<=p);omega
def iR.co(n:iR p m a l){i b}(d:i<Z l)(f:b<Z l)(g:i≠b):Co (fx (l.getD i []):Fx p) (fx<|l.getD b []):=by
 have k:=List.pairwise_iff_getElem.1 n.pair;rw[aO,aO,df d,df f];rcases asW g with e|e
 .exact k i b d f e
 .exact(k b i f d e).symm
def iR.LZ(d:iR p m a l){i}(b:i<Z l):l.getD i []∈l:=by rw[aO,df b];exact sx b
def ahq{Q:Fx p}(H:bL p)(hQ:bD Q):∀{l:E (E V)},Q∣g8 l->∃f∈l,Q∣fx f
 |[],b=>aF b<|hQ.Ev H
 |f::l,b=>by
  rcases hQ.pP H b with d|d
  .exact⟨f,au,d⟩
  .let ⟨x,h1,h2⟩:=ahq H hQ d;exact⟨x,B3,h2⟩
def iR.atw(d:iR p m a l)(b:G->Bool):(fx (gS m l b):Fx p)=g8 (bV b 0 l):=by let ⟨f,h2⟩:=d.m1;rw[<-Cf (bV b 0 l) m h2];refine QV<|Cg.of λi=>?_;rw[cT,cT,gS,th _ Y,<-vB _ h2,Cd Y,vB _ h2]
def iR.EM(d:iR p m a l)(b:G->Bool):aM (gS m l b)/\Z (gS m l b)=1+eE (bV b 0 l):=by let ⟨g,h2⟩:=d.m1;let ⟨i,k⟩:=Ce g EL (λf n=>d.lm f (Ap n):∀f∈bV b 0 l,aM f);refine⟨EJ g i,?_⟩;rw[gS,dj,k];rfl
def iR.ahr(d:iR p m a l)(b:G->Bool){k}(n:k<Z l):(fx (l.getD k []):Fx p)∣fx (gS m l b)↔b k=ae:=by
 rw[d.atw];constructor
 .intro v;let ⟨f,g,x⟩:=ahq d.H (d.gJ _<|d.LZ n) v;let ⟨i,h2,t,z⟩:=LX g;rw[fD]at t;by_cases e:k=i
  .rw[e];exact t
  .have u:=d.co n h2 e;rw[z]at u;have:=u.unit d.H x;have:=(d.gJ _<|d.LZ n).1;omega
 .intro A;have:=X9 (b:=b) (l:=l) (i:=0) (j:=k) n (by rw[fD];exact A);have s:∀{l:E (E V)}{f:E V},f∈l->(fx f:Fx p)∣g8 l:=by
   intro l;induction l with
   |nil=>intro f g;cases g
   |cons y l B=>
    intro f g
    rcases b7.1 g with rfl|g
    .exact mH _ _
    .exact dE (B g) _
  exact s this
def EN{b c:G->Bool}:∀{l:E (E V)}{i:G},(∀d,d<Z l->b (i+d)=c (i+d))->bV b i l=bV c i l
 |[],_,_=>rfl
 |f::l,i,g=>by
  have k:=EN (b:=b) (c:=c) (l:=l) (i:=i+1) λd n=>by have:=g (d+1) cd;rwa[(Y:i+(d+1)=i+1+d)]at this
  rw[bV,bV,k];have:=g 0 au;rw[jZ]at this;rw[this]
def Ye{x b z}(d:ps x*ps b=ps z):(fx z:Fx p)=fx x*fx b:=(kv d ((bC.ps p x).mul<|bC.ps p b)<|bC.ps p z).symm
def iR.mask(n:iR p m a l){g k}(D:aM g)(hk:aM k)(cH:Rx.zx a=Rx.zx g*Rx.zx k):
  ∃b:G->Bool,g=gS m l b/\k=gS m l (λi=> !b i)/\(∀d,d<Z l->(b d=ae↔(fx (l.getD d []):Fx p)∣fx g))/\Cg m (ps g) (rJ<|bV b 0 l)/\Cg m (ps k) (rJ<|bV (λi=> !b i) 0 l):=by
 let ⟨C,u⟩:=n.m1
 have H:=n.H
 have K:(1:V)<p:=EE
 have N:=Rx.Ra cH.symm
 have v:(fx a:Fx p)=fx g*fx k:=Ye N
 classical
 let b:G->Bool:=λd=>decide<|(fx (l.getD d []):Fx p)∣fx g
 have hb:∀d,b d=ae↔(fx (l.getD d []):Fx p)∣fx g:=λd=>decide_eq_true_iff
 have x:∀c:G->Bool,∀f∈bV c 0 l,aM f:=λc f s=>n.lm f<|Ap s
 have d1:(g8 (bV b 0 l):Fx p)∣fx g:=X8 H (LW n.pair) λf s=>by let ⟨d,_,h2,h3⟩:=LX s;rw[fD]at h2;rw[<-h3];exact(hb d).1 h2
 have eA:(fx a:Fx p)=g8 l:=by rw[Ic];refine mk_eq.2<|Cg.of λi=>?_;have:=n.pr.at i;rw[<-vB _ u,this,vB _ u]
 have P:∀{l:E (E V)}{f:E V},f∈l->(fx f:Fx p)∣g8 l:=by
  intro l;induction l with
  |nil=>intro f s;cases s
  |cons y l ih=>
   intro f s
   rcases b7.1 s with rfl|s
   .exact mH _ _
   .exact dE (ih s) _
 have d2:(g8 (bV (λi=> !b i) 0 l):Fx p)∣fx k:=X8 H (LW n.pair) λf s=>by
  let ⟨d,z,h2,h3⟩:=LX s;rw[fD]at h2;have T:=n.LZ z;rw[<-h3];have hd:(fx (l.getD d []):Fx p)∣fx g*fx k:=by rw[<-v,eA];exact P T
  rcases(n.gJ _ T).pP H hd with e1|e1
  .rw[(hb d).2 e1]at h2;cases h2
  .exact e1
 have e2:(g8 (bV b 0 l)*g8 (bV (λi=> !b i) 0 l):Fx p)=g8 l:=by rw[Ic,Ic,Ic,agR];exact kv (X7 b l 0) _ _
 let ⟨w,hw⟩:=d1
 let ⟨W,B⟩:=d2
 have X:(fx a:Fx p)≠0:=λo=>by have z:=xg H n.am;rw[o,kO H.pos]at z;have:=cF.2 n.am.1;omega
 have ww:w*W=1:=by refine yt H (A:=(g8 l:Fx p)) (by rw[<-eA];exact X) ?_;rw[c8,<-e2];have e3:w*W*(g8 (bV b 0 l)*g8 (bV (λi=> !b i) 0 l))=w*g8 (bV b 0 l)*(W*g8 (bV (λi=> !b i) 0 l)):=fC;rw[e3,<-hw,<-B,<-v,eA,e2]
 have sw:sz w=1:=Ac H (by rw[dk];exact ww:W*w=1)
 have sw':sz W=1:=Ac H ww
 let ⟨q,tl1⟩:=Ce K EL<|x b
 let ⟨r,tl2⟩:=Ce K EL<|x λi=> !b i
 have eg:(fx g:Fx p)=g8 (bV b 0 l):=by have hp:=Cf (p:=p) (bV b 0 l) p<|L0 _;rw[<-hp]at hw⊢;exact ahn H D q sw hw
 have ek:(fx k:Fx p)=g8 (bV (λi=> !b i) 0 l):=by have hp:=Cf (p:=p) (bV (λi=> !b i) 0 l) p<|L0 _;rw[<-hp]at B⊢;exact ahn H hk r sw' B
 have lg:Z g=1+eE (bV b 0 l):=by have z:=xg H D;rw[eg,<-Cf (p:=p) (bV b 0 l) p (L0 _),xg H q,tl1]at z;rw[<-z];rfl
 have lk:Z k=1+eE (bV (λi=> !b i) 0 l):=by have z:=xg H hk;rw[ek,<-Cf (p:=p) (bV (λi=> !b i) 0 l) p (L0 _),xg H r,tl2]at z;rw[<-z];rfl
 let ⟨um1,F⟩:=Ce C EL<|x b
 let ⟨um2,L⟩:=Ce C EL<|x λi=> !b i
 have c1:Cg p (ps g) (ps<|lX m [1] (bV b 0 l)):=mk_eq.1 (eg.trans (Cf (bV b 0 l) m u).symm:Fx.mk (ps g) (bC.ps p g)=Fx.mk (ps<|lX m [1] (bV b 0 l)) (bC.ps p _))
 have c2:Cg p (ps k) (ps<|lX m [1] (bV (λi=> !b i) 0 l)):=mk_eq.1 (ek.trans (Cf (bV (λi=> !b i) 0 l) m u).symm:Fx.mk (ps k) (bC.ps p k)=Fx.mk (ps<|lX m [1] (bV (λi=> !b i) 0 l)) (bC.ps p _))
 have L1:Co (fx g:Fx p) (fx k):=H2 H (λo=>X<|by rw[v,o,dy]) λQ hQ q1 q2=>n.nb Q hQ (by rw[v];exact Ad q1 q2)
 have M:MD (Z g-1) (ps<|lX m [1] (bV b 0 l)):=by have:=um1.xf;rwa[F,show Z ([1]:E V)=1 from J,<-lg]at this
 have O:MD (Z k-1) (ps<|lX m [1] (bV (λi=> !b i) 0 l)):=by have:=um2.xf;rwa[L,show Z ([1]:E V)=1 from J,<-lk]at this
 let ⟨o,Rm,R⟩:=n.pm
 have t1:=Ri m (bV b 0 l) [1]
 have t2:=Ri m (bV (λi=> !b i) 0 l) [1]
 rw[Qx,PS.c8]at t1 t2
 have Bv:Cg m (ps g*ps k) (ps (lX m [1] (bV b 0 l))*ps (lX m [1] (bV (λi=> !b i) 0 l))):=by rw[N];refine n.pr.trans ?_;rw[<-X7 b l 0];exact(t1.mul t2).symm
 have S:=ahk H D.xf M hk.xf O L1 c1 c2 o Rm<|R▸Bv
 rw[<-R]at S
 have U:∀{g:E V}{t:E V},aM g->Rx.zx g∣Rx.zx a->Z g=Z t->Cg m (ps g) (ps t)->g=t.map (eG · m):=by
  intro g t D hd hl hc;refine Q7 (by rw[dj,hl]) λd _=>?_
  rw[th _ Y,<-Re (a:=I g d 0) (b:=I t d 0) (hc.at d)];exact(atu<|n.bd g D hd d).symm
 refine⟨b,U D (by rw[cH];exact Rx.mH _ _) (by rw[F,lg];rfl) S.1,U hk (by rw[cH];exact Rx.jc _ _) (by rw[L,lk];rfl) S.2,λd _=>hb d,S.1.trans t1,S.2.trans t2⟩
def iR.ahs(d:iR p m a l){b:G->Bool}(n:0<cx b (Z l)):1<=eE (bV b 0 l):=by
 let ⟨j,f,h2⟩:=ahp n;have t:=(d.gJ _<|d.LZ f).1;rw[xg d.H (d.lm _<|d.LZ f)]at t;have g:∀{L:E (E V)},l.getD j []∈L->1<=eE L:=by
  intro L;induction L with
  |nil=>intro k;cases k
  |cons y L u=>
   intro k
   rw[eE]
   rcases b7.1 k with e|e
   .rw[<-e];omega
   .have:=u e;omega
 exact g<|X9 (b:=b) (l:=l) (i:=0) f (by rw[fD];exact h2)
def iR.HO(t:iR p m a l){u v}(b:Rx.Mo u)(d:Rx.Mo v)(i:Rx.zx a=u*v):∃g k,aM g/\aM k/\Rx.zx g=u/\Rx.zx k=v:=by let ⟨i1,i2⟩:=Rx.Rj b d<|i▸Rx.EI a;let ⟨g,n,g2⟩:=Rx.Q9 i1;let ⟨k,s,f⟩:=Rx.Q9 i2;exact⟨g,k,Rx.Q' n<|g2▸b,Rx.Q' s<|f▸d,g2,f⟩
def iR.first(f:iR p m a l){d}(hS:d∈nQ (Z l))(hd:Rx.zx (gS m l d.testBit)∣Rx.zx a)(hf:∀T∈nQ (Z l),cx T.testBit (Z l)<cx d.testBit (Z l)->¬Rx.zx (gS m l T.testBit)∣Rx.zx a):Rx.bD (Rx.zx<|gS m l d.testBit):=by
 let ⟨_,O,R⟩:=Ch.1 hS;let ⟨H,gl⟩:=f.EM d.testBit;have U:=f.ahs (b:=d.testBit) Y;refine⟨by rw[Rx.mM H.can];omega,λA B e=>fe λw=>?_⟩;let ⟨u,v,hu,hv,K,su,sv⟩:=Rx.X' (Rx.pS H) e (λf=>w<|.inl f)<|λf=>w<|.inr f;let ⟨k,F⟩:=hd;have P:Rx.Mo k:=by have:=Rx.pS f.am;rw[F]at this;exact this.Ae<|Rx.pS H
 have Q:Rx.zx a=u*(k*v):=by rw[F,K];ac_rfl
 let ⟨s,k',I,k1,g2,k2⟩:=f.HO hu (P.mul hv) Q;let ⟨b,J,b2,b3,_⟩:=f.mask I k1 (by rw[g2,k2];exact Q);have W:∃t,aM t/\Rx.zx t=v:=by let ⟨_,i2⟩:=Rx.Rj hu hv<|K▸Rx.EI _;let ⟨t,v1,v2⟩:=Rx.Q9 i2;exact⟨t,Rx.Q' v1<|v2▸hv,v2⟩
 let ⟨t,_,v2⟩:=W;have X:(fx (gS m l d.testBit):Fx p)=fx s*fx t:=Ye (Rx.Ra<|by rw[g2,v2];exact K.symm);have sub:∀i,i<Z l->b i=ae->oH d i=ae:=λi N x=>(f.ahr d.testBit N).1 (by rw[X];exact mI ((b3 i N).1 x) _)
 have n:Z s=1+eE (bV b 0 l):=by rw[J];exact(f.EM b).2
 have sg':Rx.sz u=Z s:=by rw[<-g2,Rx.mM I.can]
 have o:Z s<Z (gS m l d.testBit):=by have:=Rx.eS hu.ne hv.ne;rw[<-K,Rx.mM H.can]at this;omega
 have q:∃i,i<Z l/\b i=ah/\oH d i=ae:=fe λr=>by
  have:bV b 0 l=bV d.testBit 0 l:=EN λj C=>by
   rw[fD];cases x:b j
   .cases hs:oH d j
    .rfl
    .exact aF ⟨j,C,x,hs⟩ r
   .exact(sub j C x).symm
  rw[n,this]at o;omega
 have oF:=Ya sub q;have wg:0<cx b (Z l):=by
  rcases sS (cx b<|Z l)with M|M
  .have:bV b 0 l=bV (λ_=>ah) 0 l:=EN λj C=>by
    rw[fD];cases x:b j
    .rfl
    .have:=Yc C x;omega
   have z:∀(L:E (E V))(i:G),bV (λ_=>ah) i L=[]:=by
    intro L;induction L with
    |nil=>intro i;rfl
    |cons cc L ih=>intro i;rw[bV,y S,ih]
   rw[this,z]at n;have:Z s=1:=n;omega
  .exact M
 have g:∀i,i<Z l->oH (rL b<|Z l) i=b i:=λi N=>Yd b N
 have DP:cx (rL b<|Z l).testBit (Z l)=cx b (Z l):=LY g;have D:gS m l (rL b<|Z l).testBit=s:=by rw[J,gS,gS,EN (b:=(rL b<|Z l).testBit) (c:=b) λj C=>by rw[fD];exact g j C]
 refine hf (rL b<|Z l) (Ch.2 ⟨Rk b _,Y,Y⟩) Y ?_;rw[D,g2,Q];exact Rx.mH _ _
def iR.none(d:iR p m a l)(hl:l≠[])(hf:∀T∈nQ (Z l),¬Rx.zx (gS m l T.testBit)∣Rx.zx a):Rx.bD (Rx.zx a):=by
 have n:=d.ahs (b:=λ_=>ae)<|Yc (i:=0) (cF.2 hl) J;have R:∀(L:E (E V))(i:G),bV (λ_=>ae) i L=L:=by
  intro L;induction L with
  |nil=>intro i;rfl
  |cons U L C=>intro i;rw[bV,q J,C]
 rw[R]at n;have N:=d.len;refine⟨by rw[Rx.mM d.am.can];omega,λA B e=>fe λP=>?_⟩;let ⟨u,v,hu,hv,s,Q,W⟩:=Rx.X' (Rx.pS d.am) e (λd=>P<|.inl d)<|λd=>P<|.inr d;let ⟨g,k,X,o,g2,D⟩:=d.HO hu hv s;let ⟨b,r,w,b3,_⟩:=d.mask X o (by rw[g2,D];exact s);have pos:∀{c:G->Bool}{x:E V},x=gS m l c->2<=Z x->0<cx c (Z l):=by
  intro c x H h2;rcases sS (cx c<|Z l)with F|F
  .have e1:bV c 0 l=bV (λ_=>ah) 0 l:=EN λj K=>by
    rw[fD];cases hb:c j
    .rfl
    .have:=Yc K hb;omega
   have z:∀(L:E (E V))(i:G),bV (λ_=>ah) i L=[]:=by
    intro L;induction L with
    |nil=>intro i;rfl
    |cons U L C=>intro i;rw[bV,y S,C]
   have I:=(d.EM c).2;rw[<-H,e1,z]at I;have:Z x=1:=I;omega
  .exact F
 have M:=Yb b<|Z l;have O:∀(c:G->Bool)(x:E V),x=gS m l c->0<cx c (Z l)->cx c (Z l)<=Z l/2->Rx.zx x∣Rx.zx a->False:=by
  intro c x H hp hle hd;have f:∀i,i<Z l->oH (rL c<|Z l) i=c i:=λi hi=>Yd c hi
  have DP:cx (rL c<|Z l).testBit (Z l)=cx c (Z l):=LY f;refine hf (rL c<|Z l) (Ch.2 ⟨Rk c _,Y,Y⟩) ?_;rw[show gS m l (rL c<|Z l).testBit=x by rw[H,gS,gS,EN (b:=(rL c<|Z l).testBit) (c:=c) λj K=>by rw[fD];exact f j K]];exact hd
 by_cases hh:cx b (Z l)<=Z l/2
 .exact O b g r (pos r (by rw[<-g2,Rx.mM X.can]at Q;exact Q)) hh (by rw[g2,s];exact Rx.mH _ _)
 .exact O _ k w (pos w (by rw[<-D,Rx.mM o.can]at W;exact W)) Y (by rw[D,s];exact Rx.jc _ _)
end
open Classical in
def oy(a g:E V):E V:=if h:∃q,aM q/\Rx.zx a=Rx.zx g*Rx.zx q then Ak h else[]
open Classical in
def vC(m:V)(a:E V)(l:E (E V)):Option G:=(nQ<|Z l).find? λS=>decide<|Rx.zx (gS m l S.testBit)∣Rx.zx a
def uo(m:V):G->E V->E (E V)->E (E V)
 |0,a,_=>[a]
 |k+1,a,l=>match vC m a l with
  |some b=>gS m l b.testBit::uo m k (oy a<|gS m l b.testBit) (bV (λi=> !b.testBit i) 0 l)
  |none=>[a]
open Classical in
def aht{m}{a}{l}{d}(g:vC m a l=ad d):∃b f,nQ (Z l)=b++d::f/\Rx.zx (gS m l d.testBit)∣Rx.zx a/\∀T∈b,¬Rx.zx (gS m l T.testBit)∣Rx.zx a:=by unfold vC at g;let ⟨i,b,f,h2,k⟩:=List.find?_eq_some_iff_append.1 g;refine⟨b,f,h2,aV i,λT n p=>?_⟩;have:=k T n;rw[Jt]at this;exact bc this p
open Classical in
def atD{m}{a}{l}(b:vC m a l=none):∀T∈nQ (Z l),¬Rx.zx (gS m l T.testBit)∣Rx.zx a:=by unfold vC at b;intro T d f;exact List.find?_eq_none.1 b T d<|rA f
section
variable{p:G}{m:V}{a:E V}{l:E (E V)}
def iR.atF(i:iR p m a l){b}(k:vC m a l=ad b):Rx.bD (Rx.zx<|gS m l b.testBit):=by
 let ⟨us,ws,d,h2,n⟩:=aht k;have s:b∈nQ (Z l):=by rw[d];simp
 refine i.first s h2 λT f t=>?_
 have g:=atv<|Z l;rw[d]at f g;rcases bl.1 f with e|e
 .exact n T e
 .exfalso;rcases b7.1 e with e|e
  .subst e;omega
  .have:=(lq.1 (Aq.1 g).2.1).1 T e;omega
def iR.rest(s:iR p m a l){d}(hS:d∈nQ (Z l))(hd:Rx.zx (gS m l d.testBit)∣Rx.zx a):Rx.zx a=Rx.zx (gS m l d.testBit)*Rx.zx (oy a<|gS m l d.testBit)/\iR p m (oy a<|gS m l d.testBit) (bV (λi=> !d.testBit i) 0 l)/\bV (λi=> !d.testBit i) 0 l≠[]/\Z (bV (λi=> !d.testBit i) 0 l)<Z l:=by
 let ⟨_,w,F⟩:=Ch.1 hS;let ⟨B,gl⟩:=s.EM d.testBit;have u:∃q,aM q/\Rx.zx a=Rx.zx (gS m l d.testBit)*Rx.zx q:=by
  let ⟨k,C⟩:=hd;have D:Rx.Mo k:=by have:=Rx.pS s.am;rw[C]at this;exact this.Ae<|Rx.pS B
  let ⟨I,o,J,_,M,_⟩:=s.HO D (Rx.pS B) C;exact⟨I,J,by rw[M,C,Rx.dk]⟩
 let ⟨K,v⟩:=yq u;have O:oy a (gS m l d.testBit)=Ak u:=by unfold oy;rw[dif_pos u]
 rw[<-O]at K v;generalize hg:gS m l d.testBit=g at*;generalize oy a g=q at*;let ⟨b,b1,R,U,b4,b5⟩:=s.mask B K v;have N:∀j,j<Z l->b j=oH d j:=λj A=>by
  have P:=U j A;rw[<-hg,s.ahr d.testBit A]at P;cases Q:b j
  .cases hs:oH d j
   .rfl
   .rw[P.2 hs]at Q;cases Q
  .exact(P.1 Q).symm
 have t:bV (λi=> !b i) 0 l=bV (λi=> !d.testBit i) 0 l:=EN λj A=>by rw[fD,N j A]
 have x:∀(c:G->Bool)(L:E (E V))(i:G),Z (bV c i L)=cx (λj=>c<|i+j) (Z L):=by
  intro c L;induction L with
  |nil=>intro i;rfl
  |cons y L ih=>
   intro i
   have sh:∀n,cx (λj=>c<|i+j) (n+1)=(if c i then 1 else 0)+cx (λj=>c<|i+1+j) n:=by
    intro n;induction n with
    |zero=>rw[cx,cx,cx];simp
    |succ n T=>rw[cx,T,cx,(Y:i+(n+1)=i+1+n)];omega
   rw[bV,jg,sh]
   have:=ih<|i+1
   split
   .rw[jg];omega
   .omega
 have z:Z (bV (λi=> !d.testBit i) 0 l)=cx (λi=> !d.testBit i) (Z l):=by rw[x];exact LY λi _=>by rw[fD]
 have r:=Yb d.testBit<|Z l;refine⟨v,?_,λe=>by rw[e]at z;simp at z;omega,Y⟩;have W:Rx.zx q∣Rx.zx a:=by rw[v];exact Rx.jc _ _
 refine⟨s.H,s.pm,K,λf X=>s.lm f<|Ap X,λf X=>s.gJ f<|Ap X,LW s.pair,t▸b5,?_,?_,λo g1 g2=>s.bd o g1<|Rx.fW g2 W⟩
 .refine s.nb.of_dvd ?_;rw[Ye (Rx.Ra v.symm)];exact jc _ _
 .rw[R,(s.EM _).2,t]
def iR.all:∀(k:G){a:E V}{l:E (E V)},Z l<=k->l≠[]->iR p m a l->(∀b∈uo m k a l,aM b/\Rx.bD (Rx.zx b))/\Rx.rK (uo m k a l)=Rx.zx a
 |0,_,l,i,h2,_=>aF (gx Y) h2
 |k+1,a,l,i,h2,d=>by
  rw[uo];cases f:vC m a l with
  |none=>
   refine⟨λb g=>?_,Rx.fO _⟩
   rw[iW.1 g]
   exact⟨d.am,d.none h2<|atD f⟩
  |some S=>
   let ⟨us,ws,s1,s2,_⟩:=aht f
   have s:S∈nQ (Z l):=by rw[s1];simp
   let ⟨r1,t,u,v⟩:=d.rest s s2
   let ⟨i1,i2⟩:=iR.all k Y u t
   refine⟨λb g=>?_,by rw[Rx.rK,i2,<-r1]⟩
   rcases b7.1 g with e|e
   .rw[e];exact⟨(d.EM _).1,d.atF f⟩
   .exact i1 b e
end
end Go.El
namespace Go.El
open Go Go.Proofs Go.RowKit
def ahu{m}(b:Z (al m)<=2):m<18446744073709551616:=by have a:=wN (n:=m);have d:(4294967296:V)^2=18446744073709551616:=rfl;have f:(4294967296:V)^1=4294967296:=rfl;have g:(4294967296:V)^0=1:=rfl;rcases(Y:Z (al m)=0\/Z (al m)=1\/Z (al m)=2)with e|e|e<;>rw[e]at a<;>omega
def atG a b(t:Sm a)(z:Sm b):w O 157 [aZ a,aZ b] (aZ ((Int.gcd a b:G):V)):=by
 refine aK Tryz.func157 ?_;refine U J<|R<|rc J J (z0<|aC a)<|rc J J (PN _ t)<|rc J J (z0<|aC b)<|rc J J (PN _ z)<|M J (h<|ay<|bq (α:=G×G) (λx=>⟨[(4,.c<|.P 2000 0),(5,e ao<|al x.1),(6,e ao<|al x.2)],[(2000,.box 42 0 [.B ah,.V<|.slice none 0 0])],2,[]⟩) (λx=>Nat.gcd x.1 x.2=Int.gcd a b/\Z (al x.1)<=1099511627776/\Z (al x.2)<=1099511627776) (λx=>x.2) (aC a,aC b) ⟨J,t,z⟩ (wk (bK J) ⟨bE J J,j⟩) ?_) (ho:=atj fh);rintro⟨m,k⟩ ⟨hg,hm,n⟩;simp only at hg hm n;refine h<|U J<|F J (λd=>?_)<|λd=>?_
 .have d:k≠0:=by have d:(Z (al k):V)>0:=aV d;exact rj.1 Y
  refine aE<|ay<|kp ⟨[(4,.c<|.P 2000 0),(5,e ao<|al m),(6,e ao<|al k)],[(2000,.box 42 0 [.B ah,.V<|.slice none 0 0])],8,[]⟩ ?_<|λg=>R<|rg 25 J J (λi=>M J<|F J (λh2=>?_)<|λh2=>di<|eD g<|wk (bK J) ⟨bE J J,j⟩)<|λi=>M J<|F J (λh2=>pO)<|λh2=>di<|eD g<|wk (bK J) ⟨bE J J,j⟩
  .refine bQ J J (afx m k d hm) J (rt J<|fF<|a4 (k,m%k) ⟨?_,n,br (vn<|ye<|gU _ Y) n⟩ (gU _ Y)<|wk (bK J) ⟨bE J J,j⟩)
   .show Nat.gcd k (m%k)=_;rw[<-hg,BL m k,Nat.gcd_rec k m,BL]
  .have i:Z (al m)<=2:=by have i:(Z (al m):V)<=2:=aV i;omega
   have h2:Z (al k)<=2:=by have h2:(Z (al k):V)<=2:=aV h2;omega
   have A:=ahu i;have C:=ahu h2;refine R<|rc J J (afz m A)<|rc J J (afz k C)<|M J<|h<|ay<|bq (α:=G×G) (λx=>⟨[(4,.c<|.P 2000 0),(7,cU x.1),(8,cU x.2)],[(2000,.box 42 0 [.B ah,.V<|.slice none 0 0])],10,[]⟩) (λx=>Nat.gcd x.1 x.2=Int.gcd a b/\x.1<18446744073709551616/\x.2<18446744073709551616) (λx=>x.2) (m,k) ⟨hg,A,C⟩ (wk (bK J) ⟨bE J J,j⟩) ?_;rintro⟨u,v⟩ ⟨l,g2,D⟩;simp only at l g2 D;refine h<|U J<|F J (λf=>?_)<|λf=>?_
   .have f:0<v:=by have f:(v:V)>0:=aV f;omega
    have p:=gU u f;refine aE<|ay<|rt J (fF<|a4 (v,u%v) ⟨?_,D,by show u%v<_;omega⟩ p<|wk ⟨sR J,sR J,sE J<|cj<|oq u v,j⟩ ⟨bE J J,j⟩) (hp:=?_)
    .show Nat.gcd v (u%v)=_;rw[<-l,BL u v,Nat.gcd_rec v u,BL]
    .simp[Pr.an,Pr.h,num,ia];omega
   .have f:v=0:=by have f:¬(v:V)>0:=bc f;omega
    subst f;rw[PG]at l;subst l;refine bs<|aS<|R<|rc J J (PL _ g2)<|rc J J (ru ah _)<|M J<|bX ?_;repeat(first|refine cY ?_|refine ma ?_|refine m0 ?_)
    exact atR J
 .have d:k=0:=by have d:¬(Z (al k):V)>0:=bc d;exact Decidable.byContradiction λs=>by have:=rj.2 s;omega
  subst d;rw[PG]at hg;subst hg;exact bs<|aS<|bQ J J (ru ah _) J<|cN J
def atH{m}(a:Z (al m)=1):(m:V)=I (al m) 0 0:=by
 have:=fv m;rw[<-this];match hw:al m,a with
 |[w],_=>show w+4294967296*0=w;omega
def Ie a:w O 156 [aZ a] (cB<|decide<|a=1):=by
 refine aK Tryz.func156 ?_;refine U J<|R<|rg 6 J J (λh=>?_)<|λh=>?_
 .have d:0<=a:=by have h:(!cD a)=ae:=h;simpa[cD]using h
  refine rg 12 J J (λb=>?_)<|λb=>?_
  .have b:Z (al<|aC a)=1:=by have b:(Z (al<|aC a):V)=1:=dw b;omega
   have f:Z (fo a)=1:=b;refine M J (cv J<|bm cB ?_) (hp:=?_)
   .show((I (al<|aC a) 0 0)==1)=decide (a=1);have:=atH b;by_cases e:a=1
    .subst e;rfl
    .rw[rz e];exact beq_eq_false_iff_ne.2<|λg=>e Y
   .simp[Pr.an,Pr.h,num,ia];first|done|omega
  .refine M J<|cv J<|bm cB ?_;rw[rz];intro e;subst e;cases b
 .have d:a<0:=by have h:(!cD a)=ah:=h;simpa[cD]using h
  refine rg 12 J J (λb=>by cases b)<|λb=>(M J<|cv J<|bm cB ?_);rw[rz Y]
def L2 x a(d:Sm x)(f:Sm a):w O 127 [e .z [x,a]] (aZ<|x*a):=by
 refine aK Tryz.func127 ?_;refine U J<|bQ J J (Wy 1 S S) J<|bI<|U J<|ay<|bq (α:=G) (λi=>⟨[(7,e .z [x,a]),(2,.c<|.P 0 0),(3,.c<|.P 1001000 0),(8,c 2),(9,c i)],[(0,.box 42 0 [.B ah,.V<|.slice none 0 0]),(1001000,.box 42 0<|av .z (if i=0 then 1 else if i=1 then x else x*a))],3,[]⟩) (λi=>i<=2) (λi=>2-i) 0 S (wk (bK J) ⟨bE J J,bE J J,j⟩) ?_;intro i g;rcases(Y:i=0\/i=1\/i=2)with b|b|b
 .subst b;refine U J<|bI<|F J (λ_=>aE<|bI (ay<|U J (ay<|bQ J J (Ie x) J<|F J (λh=>di ?_)<|λh=>(bQ J J (Ie 1) J<|F J (λh=>(rt J<|fF<|bP<|rt J (hp:=aH)<|a4 1 S S<|wk (bK J) ⟨bE J J,bE J J,j⟩))<|λh=>gL)) (hp:=ahv)))<|λh=>gL
  .have h:x=1:=aV h;subst h;exact fF<|bP<|rt J (hp:=aH)<|a4 1 S S<|wk (bK J) ⟨bE J J,bE J J,j⟩
 .subst b;refine U J<|bI<|F J (λ_=>aE<|bI (ay<|U J (ay<|bQ J J (Ie a) J<|F J (λh=>di ?_)<|λh=>?_) (hp:=ahv)))<|λh=>gL
  .have h:a=1:=aV h;subst h;refine fF<|bP<|rt J (hp:=aH)<|a4 2 S S<|wk (bK J) ⟨bE J J,bE J ?_,j⟩;show aA.box 42 0 (av .z x)=aA.box 42 0 (av .z<|x*1);rw[oV]
  .refine bQ J J (Ie x) J (F J (λh=>?_)<|λh=>(cG<|rc J J (arb x a d f)<|M J<|fF<|bP<|rt J (hp:=aH)<|a4 2 S S<|wk (bK J) ⟨bE J J,bE J J,j⟩))
   .have h:x=1:=aV h;subst h;refine rt J<|fF<|bP<|rt J (hp:=aH)<|a4 2 S S<|wk (bK J) ⟨bE J J,bE J ?_,j⟩;show aA.box 42 0 (av .z a)=aA.box 42 0 (av .z<|1*a);rw[mu]
 .subst b;exact U J<|bI<|F J (λh=>gL)<|λ_=>(bs<|aS<|U J<|cN J)
end Go.El
end
