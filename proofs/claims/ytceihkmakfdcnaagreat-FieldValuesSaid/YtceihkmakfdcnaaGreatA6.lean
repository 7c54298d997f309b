/- Contracts: integers of the program: division by one word, shifts. Own work; no condition. -/
import Derived.Test.YtceihkmakfdcnaaGreatA5
import Derived.Test.YtceihkmakfdcnaaGreatA4
import Derived.Test.YtceihkmakfdcnaaGreatA3
set_option linter.all false
set_option maxHeartbeats 16000000
set_option maxRecDepth 100000
open BitVec renaming ofInt->iA
open Bool renaming false->ah,true->af
open Decidable renaming byContradiction->GD
open Go.El renaming cS->I,rr->N,asM->R,Pb->U,iO->o,re->s,cI->j,rb->w,Cy->y,mV->q
open Go.IntKind renaming wrap->ax,bits->c7
open Go.Proofs.Tryz renaming prog->z,func190->XO
open Int renaming toNat->ae,natAbs->aC
open List renaming length->Z,replicate->bp,getD->E,take->h,drop->az
open _root_ renaming Nat->Y,Int->O,List->V
namespace Go.El
open Go Go.Proofs Go.RowKit
def aiX(x:Y)(c:0<x)(d:x<4294967296):∃a:Y,al z 223 [cW x] (j a)/\a<=31/\2147483648<=x*2^a/\x*2^a<4294967296:=by
 let ⟨l,f,n,h2,g,i⟩:=aiW x c d;have e:2^l*2^(32-l)=4294967296:=by rw[<-mE,(G:l+(32-l)=32)]
 have k:0<2^(32-l):=kh T;have p:x*2^(32-l)<2^l*2^(32-l):=QG g k;have m:2^l*2^(32-l)<=2*x*2^(32-l):=dT _ i;rw[yd]at m;refine⟨32-l,?_,G,G,G⟩;refine aR Tryz.func223 ?_;refine N J<|w<|rc J J f<|s J (hp:=aF)<|bQ J<|im ?_;show(32:O)-(l:O)=((32-l:Y):O);omega
def aiY a d(u:bP a)(n:0<d)(A:d<4294967296)(la:Z a<=1099511627776):al z 222 [I ao a,cU d] (.t [(ah,[.S ao (q<|ae<|val a/d)]),(ah,[.I .u64 (val a%d)])]):=by
 refine aR Tryz.func222 ?_;refine N J<|w ?_;refine rm ao (Z a) J J J J J J (lM .u32) J ?_ ?_ ?_
 .show _*4<=_;omega
 .show _*1<=_;omega
 refine s J<|N J<|U<|N J ?_;refine R<|aY (α:=Y×V O×O) (λx=>⟨[(0,I ao a),(1,cU d),(6,.c<|.X 1002000),(7,cU x.2.2),(8,cI<|(x.1:O)-1)],[(1002000,.vec 142 ao x.2.1)],4,[]⟩) (Df a d) (λx=>x.1) (Z a,bp (Z a) 0,0) ?_ aH ?_
 .exact⟨a7 _,ay,p' _,eO _,n,wg⟩
 .rintro⟨k,l,r⟩ f;have B:Z l=Z a:=f.len;have m:0<=r:=f.r0;have p:r<d:=f.r1;have b:k<=Z a:=f.k;refine U<|N J ?_;refine y J (λh=>?_) (λh=>?_)
  .have h:(k:O)-1>=0:=by simpa using h
   obtain⟨j,rfl⟩:∃j,k=j+1:=⟨k-1,G⟩;have C:ae (((j+1:Y):O)-1)=j:=G;have g:=db u j;have L:=KN m p g.1 g.2 A;have F:=f.next u A;refine aA<|U<|R<|N J (hp:=aF) ?_;have H:ax .u64 ((iA (c7 .u64) (ax .u64<|r*2^(min (ae ((32:Y):O))<|c7 .u64))|||iA (c7 .u64) (ax .u64<|E a (ae<|((j+1:Y):O)-1) 0)).toNat:O)=r*4294967296+E a j 0:=by rw[C,yb r 32 m G G,wrap_u64 (E a j 0) G G,Au (r*2^32) (E a j 0) 32 G (Dt _ _) G G G,show(2:O)^32=4294967296 from J]
   generalize ht:r*4294967296+E a j 0=i at F L H;have M:ax .u32 (ax .u64<|i.tdiv d)=i/d:=by rw[sX G,wrap_u64 _ G G,wrap_u32 _ G G]
   have P:i.tmod d=i%d:=kf G;refine dU (st':=⟨[(0,I ao a),(1,cU d),(6,.c<|.X 1002000),(8,cI<|((j+1:Y):O)-1),(9,cU i)],[(1002000,.vec 142 ao l)],6,[]⟩) (wk ⟨sR J,sR J,sR J,sR J,sE J ?_,e⟩ ⟨bR J,e⟩) ?_
   .exact bL H
   refine N J<|rt J<|aX<|rt J<|aG (j,l.set j<|i/d,i%d) F rQ<|wk ⟨sR J,sR J,sR J,sE J ?_,sE J ?_,e⟩ ⟨bE J ?_,e⟩
   .exact bL P
   .refine im ?_;show((j+1:Y):O)-1-1=(j:O)-1;omega
   .rw[M,C]
  .have h:¬((k:O)-1>=0):=by simpa using h
   have:k=0:=G;subst this;refine a6<|aO<|c6 1002000 J J J<|w ?_;refine rc J J (uk _)<|s J<|bQ J ?_;have K:val a=val l*d+r:=f.v;have Q:bP l:=f.r;have eq:val a/d=val l:=by rw[K,uo,Ap _ _ G,Dg m p];omega
   have W:val a%d=r:=by rw[K,uo,Qd,gk m p]
   rw[n6 Q,eq,W];rfl
def aiZ{a}(d:bP a) c i:0<=val (h i a)*2^c/4294967296^i/\val (h i a)*2^c/4294967296^i<2^c:=by have f:=k6<|ix d i;have l:=me<|ix d i;have p:=sp (m:=(h i a).length) (n:=i) bX;have g:=jc i;have k:(0:O)<2^c:=mW T;refine⟨xy (iL f G) G,BT g ?_⟩;rw[ef];exact Int.mul_lt_mul_of_pos_left G k
def ai0 a c i:
  bO (i+1) (val (h (i+1) a)*2^c)=bO i (val (h i a)*2^c)++[(E a i 0*2^c+val (h i a)*2^c/4294967296^i)%4294967296]/\
  val (h (i+1) a)*2^c/4294967296^(i+1)=(E a i 0*2^c+val (h i a)*2^c/4294967296^i)/4294967296:=by
 have f:=jc i
 have e:val (h (i+1) a)*2^c=val (h i a)*2^c+E a i 0*2^c*4294967296^i:=by rw[jF,mX,iy,ef<|4294967296^i,<-iy]
 have d:val (h (i+1) a)*2^c/4294967296^i=E a i 0*2^c+val (h i a)*2^c/4294967296^i:=by rw[e,Ap _ _ G,uo]
 refine⟨?_,by rw[KU,d]⟩
 rw[Dj,d,e,Qi]
def XI xs n(a:O):(xs++bp (n+1) 0).set (Z xs) a=(xs++[a])++bp n 0:=by rw[KZ _ _ (a7 _),mr,xx,Qj,kF];rfl
def XJ a(d:Y)(A:bP a)(F:d<=31)(M:Z a<=1099511627776):nO z 224 [I ao a,j d] 142 ao (bO (Z a+1)<|val a*2^d):=by
 refine Gd Tryz.func224 J J J J T ?_;have u:(2:O)^d<=2^31:=by have:=fT (T:2>0) F;have B:(2:O)^d=((2^d:Y):O):=ay;omega
 have C:(0:O)<2^d:=mW T;refine N J<|w ?_;refine rm ao (Z a+1) J J J J J J (lM .u32) J ?_ ?_ ?_
 .show _*4<=_;omega
 .show _*1<=_;omega
 refine s J<|N J<|U<|N J ?_;refine R<|aY (α:=Y) (λi=>⟨[(0,I ao a),(1,j d),(5,.c<|.X 1003000),(6,cU<|val (h i a)*2^d/4294967296^i),(14,j<|Z a),(15,j i)],[(1003000,.vec 142 ao<|bO i (val (h i a)*2^d)++bp (Z a+1-i) 0)],4,[]⟩) (λi=>i<=Z a) (λi=>Z a-i) 0 (be _) (wk ⟨sR J,sR J,sR J,sE J ?_,sR J,sR J,e⟩ ⟨bE J ?_,e⟩) ?_
 .simp[val];rfl
 .simp[bO]
 intro i P;have m:=aiZ A d i;have k:=ai0 a d i;have f:Z (bO i<|val (h i a)*2^d)=i:=rU _ _;generalize n:val (h i a)*2^d/4294967296^i=c at m k;refine N J<|U ?_;refine y J (λl=>?_)<|λl=>?_
 .have l:i<Z a:=by simpa using l
  have g:=db A i;have v:0<=E a i 0*2^d:=iL g.1 G;have H:E a i 0*2^d<=4294967295*2^31:=vj G u G T;refine aA<|U<|R<|N J<|N J (hp:=aF) ?_;have K:ax .u64 ((iA (c7 .u64) (ax .u64<|ax .u64 (E a (ae (i:O)) 0)*2^(min (ae ((d:Y):O))<|c7 .u64))|||iA (c7 .u64) c).toNat:O)=E a i 0*2^d+c:=by rw[bW i,wrap_u64 (E a i 0) G G,yb _ d g.1 G G,Au _ c d v (Dt _ _) m.1 m.2 G]
  generalize ht:E a i 0*2^d+c=t at*;refine dU (st':=⟨[(0,I ao a),(1,j d),(5,.c<|.X 1003000),(7,j i),(8,cU t),(14,j<|Z a),(15,j i)],[(1003000,.vec 142 ao<|bO i (val (h i a)*2^d)++bp (Z a+1-i) 0)],7,[]⟩) (wk ⟨sR J,sR J,sR J,sR J,sE J ?_,sR J,sR J,e⟩ ⟨bR J,e⟩) ?_
  .exact bL K
  have x:Z (bO i (val (h i a)*2^d)++bp (Z a+1-i) (0:O))=Z a+1:=by rw[hP,f,fE];omega
  refine N J (hp:=aF)<|rt J (hp:=aF)<|aX<|rt J<|aG (i+1) l oq<|wk ⟨sR J,sR J,sR J,sE J ?_,sR J,sR J,e⟩ ⟨bE J ?_,e⟩
  .refine bL ?_;rw[k.2];exact yc t 32 G
  .refine a8 (aN.vec 142 ao) ?_;have B:ax .u32 t=t%4294967296:=K8;have p:=XI (bO i<|val (h i a)*2^d) (Z a-i)<|t%4294967296;rw[f,(G:Z a-i+1=Z a+1-i)]at p;rw[B,bW,p,k.1,(G:Z a-i=Z a+1-(i+1))]
 .have l:¬i<Z a:=by simpa using l
  have L:i=Z a:=G;subst L;have r:c<4294967296:=G;have x:Z (bO (Z a) (val (h (Z a) a)*2^d)++bp (Z a+1-Z a) (0:O))=Z a+1:=by rw[hP,f,fE];omega
  refine a6<|aO<|N J (hp:=aF)<|N J ?_;refine dU (st':=⟨[(4,.c<|.X 1003000)],[(1003000,.vec 142 ao<|bO (Z a+1)<|val a*2^d)],20,[]⟩) (wk ⟨sR J,e⟩ ⟨bE J ?_,e⟩)<|bI<|Gc (id:=1003000) cq J J;refine a8 (aN.vec 142 ao) ?_;have p:=XI (bO (Z a)<|val (h (Z a) a)*2^d) 0 c;rw[f]at p;rw[wrap_u32 c m.1 r,bW,(G:Z a+1-Z a=0+1),p,CK,gO,Dj,fv];rw[fv]at n;rw[n,gk m.1 r]
def ai1 t a(c:0<=t)(l:t<18446744073709551616)(f:a<=31):
  ax .u64 ((iA (c7 .u64) t&&& iA (c7 .u64) (ax .u64<|ax .u64 (1*2^(min (ae ((a:Y):O))<|c7 .u64))-1)).toNat:O)=t%2^a:=by
 have m:2^a<=2^31:=fT T f
 have d:0<2^a:=kh T
 have g:(2:O)^a=((2^a:Y):O):=ay
 obtain⟨i,rfl⟩:=Av c
 rw[yb 1 a T G G,jS,wrap_u64 (2^a-1) G G]
 have k:(2:O)^a-1=((2^a-1:Y):O):=G
 rw[k,Lc,Lc,BitVec.toNat_and,Ld,Ld,show c7 .u64=64 from J,ou G,ou G,Nat.and_two_pow_sub_one_eq_mod]
 have:=fb i d
 rw[wrap_u64 _ G G,g,GC]
def ai2 a(d:Y)(p:bP a)(u:d<=31)(P:Z a<=1099511627776):al z 226 [I ao a,cI d] (I ao<|q<|ae<|val a/2^d):=by
 refine aR Tryz.func226 ?_;have K:(2:O)^d<=2^31:=by have:=fT (T:2>0) u;have Q:(2:O)^d=((2^d:Y):O):=ay;omega
 have l:(0:O)<2^d:=mW T;refine N J<|w ?_;refine rm ao (Z a) J J J J J J (lM .u32) J ?_ ?_ ?_
 .show _*4<=_;omega
 .show _*1<=_;omega
 refine s J<|N J<|U<|N J ?_;refine R<|aY (α:=Y×V O×O) (λx=>⟨[(0,I ao a),(1,cI d),(5,.c<|.X 1002000),(6,cU x.2.2),(7,cI<|(x.1:O)-1)],[(1002000,.vec 142 ao x.2.1)],4,[]⟩) (Df a<|2^d) (λx=>x.1) (Z a,bp (Z a) 0,0) ?_ aH ?_
 .exact⟨a7 _,ay,p' _,eO _,l,wg⟩
 .rintro⟨k,i,r⟩ f;have A:Z i=Z a:=f.len;have m:0<=r:=f.r0;have B:r<2^d:=f.r1;have S:k<=Z a:=f.k;refine U<|N J ?_;refine y J (λh=>?_) (λh=>?_)
  .have h:(k:O)-1>=0:=by simpa using h
   obtain⟨j,rfl⟩:∃j,k=j+1:=⟨k-1,G⟩;have C:ae (((j+1:Y):O)-1)=j:=G;have g:=db p j;have n:=KN m B g.1 g.2 G;have F:=f.next p G;refine aA<|U<|R<|N J (hp:=aF) ?_;have H:ax .u64 ((iA (c7 .u64) (ax .u64<|r*2^(min (ae ((32:Y):O))<|c7 .u64))|||iA (c7 .u64) (ax .u64<|E a (ae<|((j+1:Y):O)-1) 0)).toNat:O)=r*4294967296+E a j 0:=by rw[C,yb r 32 m G G,wrap_u64 (E a j 0) G G,Au (r*2^32) (E a j 0) 32 G (Dt _ _) G G G,show(2:O)^32=4294967296 from J]
   generalize ht:r*4294967296+E a j 0=t at F n H;refine dU (st':=⟨[(0,I ao a),(1,cI d),(5,.c<|.X 1002000),(7,cI<|((j+1:Y):O)-1),(8,cU t)],[(1002000,.vec 142 ao i)],6,[]⟩) (wk ⟨sR J,sR J,sR J,sR J,sE J ?_,e⟩ ⟨bR J,e⟩) ?_
   .exact bL H
   refine N J (hp:=aF)<|rt J (hp:=aF)<|aX<|rt J<|aG (j,i.set j<|t/2^d,t%2^d) F rQ<|wk ⟨sR J,sR J,sR J,sE J ?_,sE J ?_,e⟩ ⟨bE J ?_,e⟩
   .exact bL<|ai1 t d n.1 n.2.1 u
   .refine im ?_;show((j+1:Y):O)-1-1=(j:O)-1;omega
   .refine a8 (aN.vec 142 ao) ?_;rw[yc t d G,C,wrap_u32 _ G G]
  .have h:¬((k:O)-1>=0):=by simpa using h
   have:k=0:=G;subst this;refine a6<|aO<|c6 1002000 J J J<|w ?_;refine rc J J (uk _)<|s J<|bQ J ?_;have L:val a=val i*2^d+r:=f.v;have M:bP i:=f.r;have eq:val a/2^d=val i:=by rw[L,uo,Ap _ _ G,Dg m B];omega
   rw[n6 M,eq]
def px n:ax .u64 n=n%18446744073709551616:=K8
def wu n:ax .u32 n=n%4294967296:=K8
def ye{x a:O}(h:(x !=a)=af):x≠a:=dH
def wy{x a:O}(h:(x !=a)=ah):x=a:=dH
def ai3 a c(m:bP a)(p:bP c)(A:can a)(B:can c):al z 161 [I ao a,I ao c] (cI<|dy (val a)<|val c):=by
 refine aR Tryz.func161<|ug 0 J λt=>ug 1 J λu=>?_;simp only[ET.n,qD]at t u;refine N J<|U<|N J ?_;refine y J (λh=>?_)<|λh=>?_
 .have h:Z a≠Z c:=by have h:=ye h;omega
  refine U<|N J ?_;refine y J (λd=>?_)<|λd=>?_
  .have d:Z a<Z c:=by have d:(Z a:O)<(Z c:O):=aK d;omega
   refine N J<|bI ?_;repeat(first|refine cA ?_|refine jJ ?_|refine kd ?_)
   refine dR J ?_;rw[dy,aq<|Jb m p B d];rfl
  .have d:¬Z a<Z c:=by have d:¬(Z a:O)<(Z c:O):=aT d;omega
   refine aA ?_;refine N J<|bI ?_;repeat(first|refine cA ?_|refine jJ ?_|refine kd ?_)
   refine dR J ?_;have:=Jb p m A G;rw[dy,b G,aq this];rfl
 .have v:Z a=Z c:=by have h:=wy h;omega
  refine aA<|U<|N J ?_;refine R<|aY (α:=Y) (λk=>⟨[(0,I ao a),(1,I ao c),(5,cI<|(k:O)-1)],[],3,[]⟩) (λk=>k<=Z a/\az k a=az k c) (λk=>k) (Z a) ⟨a7 _,by simp[v]⟩ aH ?_;rintro k ⟨F,l⟩;refine U<|N J ?_;refine y J (λx=>?_)<|λx=>?_
  .simp at x;obtain⟨j,rfl⟩:∃j,k=j+1:=⟨k-1,G⟩;have C:(((j+1:Y):O)-1)=j:=G;have g:j<Z a:=G;rw[C];refine aA<|U<|R<|N J ?_;refine y J (λr=>?_) (λr=>?_)
   .have r:E a j 0≠E c j 0:=ye r;refine U<|N J ?_;refine y J (λi=>?_) (λi=>?_)
    .have i:E a j 0<E c j 0:=aK i;refine N J<|bI ?_;repeat(first|refine cA ?_|refine jJ ?_|refine kd ?_)
     refine dR J ?_;rw[dy,aq<|Jc m p j l v g i];rfl
    .have i:¬E a j 0<E c j 0:=aT i;refine aA ?_;refine N J<|bI ?_;repeat(first|refine cA ?_|refine jJ ?_|refine kd ?_)
     refine dR J ?_;have:=Jc p m j l.symm v.symm G G;rw[dy,b G,aq this];rfl
   .have e:E a j 0=E c j 0:=wy r;refine cZ<|aX<|rt J<|aG j ⟨G,?_⟩ rQ aH;have f:j<Z c:=G;rw[pn g,pn f,l];simp only[aV,cH g,cH f,qe]at e;rw[e]
  .simp at x;have:k=0:=G;subst this;refine a6<|aO ?_;refine N J<|bI ?_;repeat(first|refine cA ?_|refine jJ ?_|refine kd ?_)
   refine dR J ?_;simp only[o5]at l;rw[l,dy,b G,b G];rfl
def Lg m k:al z 161 [I ao (q m),I ao<|q k] (j<|dy m k):=by have:=ai3 (q m) (q k) (dC m) (dC k) (tS m)<|tS k;rw[dS,dS]at this;exact this
def ai4 a f(t:bP a)(u:bP f)(W:Z f<=Z a)(F:val f<=val a)(la:Z a<=1099511627776):al z 162 [I ao a,I ao f] (I ao<|q<|ae<|val a-val f):=by
 refine aR Tryz.func162 ?_;refine N J<|w ?_;refine rm ao (Z a) J J J J J J (lM .u32) J ?_ ?_ ?_
 .show _*4<=_;omega
 .show _*1<=_;omega
 refine s J<|N J<|U<|N J ?_;generalize hM:Z a=M;refine R<|aY (α:=Y×V O×O) (λx=>⟨[(0,I ao a),(1,I ao f),(5,.c<|.X 1002000),(6,cU x.2.2),(13,j M),(14,j x.1)],[(1002000,.vec 142 ao x.2.1)],4,[]⟩) (Gs a f M) (λx=>M-x.1) (0,bp M 0,0) ?_ ?_ ?_
 .refine⟨be _,ay,p' M,?_,eO _,Gq,Al⟩;intro D _;simp only[aV,ln];split<;>rfl
 .exact aH
 .rintro⟨i,o,c⟩ k;have l:Z o=M:=k.len;have H:0<=c:=k.c0;have K:c<=1:=k.c1;have A:i<=M:=k.i;have T:=db t i;have gb:=db u i;refine N J<|U ?_;refine y J (λg=>?_) (λg=>?_)
  .have g:i<M:=by have g:(i:O)<(M:O):=aK g;omega
   have n:=k.next g t u;simp only at n;refine aA<|U<|R<|N J<|N J (hp:=aF) ?_;refine U<|N J ?_;refine y J (λh2=>?_)<|λh2=>?_
   .have h2:i<Z f:=by have h2:(i:O)<(Z f:O):=aK h2;omega
    refine rt J (hp:=aF)<|aO ?_;have m:ax .u64 (ax .u64 (ax .u64 (E a (ae (i:O)) 0)-c)-ax .u64 (E f (ae (i:O)) 0))=(E a i 0-E f i 0-c)%18446744073709551616:=by rw[bW,px,px,px,px];omega
    generalize L:(E a i 0-E f i 0-c)%18446744073709551616=d at m;refine dU (st':=⟨[(0,I ao a),(1,I ao f),(5,.c<|.X 1002000),(7,j i),(8,cU d),(13,j M),(14,j i)],[(1002000,.vec 142 ao o)],20,[]⟩) (wk ⟨sR J,sR J,sR J,sR J,sE J ?_,sR J,sR J,e⟩ ⟨bR J,e⟩) ?_
    .exact bL m
    refine N J (hp:=aF)<|rt J (hp:=aF)<|aX<|rt J<|aG (i+1,o.set i<|(4294967296+E a i 0-E f i 0-c)%4294967296,1-(4294967296+E a i 0-E f i 0-c)/4294967296) n wc<|wk ⟨sR J,sR J,sR J,sE J ?_,sR J,sR J,e⟩ ⟨bE J ?_,e⟩
    .refine bL ?_;show d.fdiv (2^(min (ae ((63:Y):O))<|c7 .u64))=1-(4294967296+E a i 0-E f i 0-c)/4294967296;rw[yc d 63 G];omega
    .refine a8 (aN.vec 142 ao) ?_;show o.set (ae (i:O)) (ax .u32 d)=o.set i ((4294967296+E a i 0-E f i 0-c)%4294967296);rw[bW,wu];exact a8 (o.set i) G
   .have h2:¬i<Z f:=by have h2:¬(i:O)<(Z f:O):=aT h2;omega
    have P:E f i 0=0:=QE;refine aA ?_;have m:ax .u64 (ax .u64 (E a (ae (i:O)) 0)-c)=(E a i 0-E f i 0-c)%18446744073709551616:=by rw[bW,px,px];omega
    generalize L:(E a i 0-E f i 0-c)%18446744073709551616=d at m;refine dU (st':=⟨[(0,I ao a),(1,I ao f),(5,.c<|.X 1002000),(7,j i),(8,cU d),(13,j M),(14,j i)],[(1002000,.vec 142 ao o)],20,[]⟩) (wk ⟨sR J,sR J,sR J,sR J,sE J ?_,sR J,sR J,e⟩ ⟨bR J,e⟩) ?_
    .exact bL m
    refine N J (hp:=aF)<|rt J (hp:=aF)<|aX<|rt J<|aG (i+1,o.set i<|(4294967296+E a i 0-E f i 0-c)%4294967296,1-(4294967296+E a i 0-E f i 0-c)/4294967296) n wc<|wk ⟨sR J,sR J,sR J,sE J ?_,sR J,sR J,e⟩ ⟨bE J ?_,e⟩
    .refine bL ?_;show d.fdiv (2^(min (ae ((63:Y):O))<|c7 .u64))=1-(4294967296+E a i 0-E f i 0-c)/4294967296;rw[yc d 63 G];omega
    .refine a8 (aN.vec 142 ao) ?_;show o.set (ae (i:O)) (ax .u32 d)=o.set i ((4294967296+E a i 0-E f i 0-c)%4294967296);rw[bW,wu];exact a8 (o.set i) G
  .have g:¬i<M:=by have g:¬(i:O)<(M:O):=aT g;omega
   have A:i=M:=G;subst A;refine a6<|aO<|c6 1002000 J J J<|w ?_;refine rc J J (uk _)<|s J<|bQ J ?_;have B:bP o:=k.r;have C:val o-c*4294967296^i=val (h i a)-val (h i f):=k.v;rw[lE a i G,lE f i G]at C;have Q:c=0:=by
    have S:=me B;rw[l]at S;rcases(G:c=0\/c=1)with p|p
    .exact p
    .subst p;omega
   subst Q;rw[n6 B,<-C];simp
def QH m k(a:k<=m)(c:Z (q m)<=1099511627776):al z 162 [I ao (q m),I ao<|q k] (I ao<|q<|m-k):=by have:=ai4 (q m) (q k) (dC m) (dC k) (rR a) (by rw[dS,dS];omega) c;rw[dS,dS,(G:ae ((m:O)-(k:O))=m-k)]at this;exact this
def ai5 d f m k(i:Z (q m)<=1099511627776)(l:Z (q k)<=1099511627776):al z 130 [.a [.B d,.S ao<|q m],.a [.B f,.S ao<|q k]] (aZ<|sg d m+sg f k):=by
 refine aR Tryz.func130 ?_;refine N J<|U<|N J ?_;refine y J (λh=>?_)<|λh=>?_
 .have h:d=f:=eq_of_beq h;subst h;refine w<|rc J J (XE _ _ i l)<|rc J J (oy _ _)<|s J<|bI<|cA<|dR J ?_;have g:sg d (m+k)=sg d m+sg d k:=by unfold sg;split<;>omega
  exact a8 aZ g
 .have h:d≠f:=λe=>by subst e;simp at h
  refine aA<|U<|bD J J (Lg _ _) J ?_;refine y J (λc=>?_)<|λc=>?_
  .have c:k<=m:=by have c:dy (m:O) (k:O)>=0:=aK c;unfold dy at c;split at c<;>omega
   refine w<|rc J J (QH _ _ c i)<|rc J J (oy _ _)<|s J<|bI<|cA<|dR J ?_;have g:sg d (m-k)=sg d m+sg f k:=by unfold sg;cases d<;>cases f<;>simp at h⊢<;>omega
   exact a8 aZ g
  .have c:m<=k:=by
    have c:¬dy (m:O) (k:O)>=0:=aT c;unfold dy at c;split at c
    .omega
    .split at c<;>omega
   refine aA<|w<|rc J J (QH _ _ c l)<|rc J J (oy _ _)<|s J<|bQ J ?_;have g:sg f (k-m)=sg d m+sg f k:=by unfold sg;cases d<;>cases f<;>simp at h⊢<;>omega
   exact a8 aZ g
def ai6 a c(d:Sm a)(f:Sm c):al z 130 [aZ a,aZ c] (aZ<|a+c):=by have h:=ai5 (b6 a) (b6 c) (aC a) (aC c) d f;rw[x5,x5]at h;exact h
def nf{x a:O}(h:(x==a)=ah):x≠a:=dH
def ai7 g v a n(hU:bP g)(hv:bP v)(hn:Z v=n+2)(hj:a+n+3<=Z g)(hl:Z g<=1099511627777)(ai8:2147483648<=E v (n+1) 0)(iN:val ((az a g).take<|n+3)<val v*4294967296):
  sW z 225 [.c (.W 0 a<|n+3),I ao v] 142 ao g (cW<|val ((az a g).take<|n+3)/val v) (cT g a<|bO (n+3)<|val ((az a g).take<|n+3)%val v):=by
 refine Gf Tryz.func225 J J J J J T ?_
 have K:=Xw hU hv hn hj ai8 iN
 have g1:=db hU<|a+(n+2)
 have g2:=db hU<|a+(n+1)
 have g3:=db hU<|a+n
 have k1:=db hv<|n+1
 have k2:=db hv n
 have oU:=K.oU
 have hvp:=K.BR
 have a1:ae ((Z v:O))=n+2:=G
 have a2:ae ((Z v:O)-1)=n+1:=G
 have a3:ae ((Z v:O)-2)=n:=G
 generalize hQ:qG 2 ((E g (a+(n+2)) 0*4294967296+E g (a+(n+1)) 0)/E v (n+1) 0) ((E g (a+(n+2)) 0*4294967296+E g (a+(n+1)) 0)%E v (n+1) 0) (E v (n+1) 0) (E v n 0) (E g (a+n) 0)=k
 refine N J<|N J<|N J (hp:=aF) ?_
 rw[a1,a2]
 have e6:ax .u64 ((iA (c7 .u64) (ax .u64<|ax .u64 (E g (a+(n+2)) 0)*2^(min (ae ((32:Y):O))<|c7 .u64))|||iA (c7 .u64) (ax .u64<|E g (a+(n+1)) 0)).toNat:O)=E g (a+(n+2)) 0*4294967296+E g (a+(n+1)) 0:=by rw[wrap_u64 (E g (a+(n+2)) 0) G G,wrap_u64 (E g (a+(n+1)) 0) G G,yb _ 32 G G G,Au _ _ 32 G (Dt _ _) G G G,show(2:O)^32=4294967296 from J]
 have ev1:ax .u64 (E v (n+1) 0)=E v (n+1) 0:=wrap_u64 _ G G
 have ev2:ax .u64 (E v n 0)=E v n 0:=wrap_u64 _ G G
 have eu2:ax .u64 (E g (a+n) 0)=E g (a+n) 0:=wrap_u64 _ G G
 have M:0<=E g (a+(n+2)) 0*4294967296+E g (a+(n+1)) 0:=G
 have ht1:E g (a+(n+2)) 0*4294967296+E g (a+(n+1)) 0<18446744073709551616:=G
 have GH:=@Kn1.small _ _ _ _ _ _ _ _ _ K
 have di:=@KO _ _ _ _ _ _ _ _ _ K
 have XK:=K.first
 have wi:=K.q0
 refine dU (st':=⟨[(0,.c<|.W 0 a<|n+3),(1,I ao v),(5,j<|Z v),(6,cU<|E g (a+(n+2)) 0*4294967296+E g (a+(n+1)) 0)],[(0,.vec 142 ao g)],4,[]⟩) (wk ⟨sR J,sR J,sR J,sE J ?_,e⟩ ⟨bR J,e⟩) ?_
 .exact bL e6
 generalize E g (a+(n+2)) 0*4294967296+E g (a+(n+1)) 0=t at*
 generalize Qu:E v (n+1) 0=v1 at*
 generalize ajc:E v n 0=v2 at*
 generalize ajd:E g (a+n) 0=u2 at*
 generalize XL:val ((az a g).take<|n+3)=u at*
 have x1:ax .u64 (E v (ae<|(Z v:O)-1) 0)=v1:=by rw[a2,Qu];exact ev1
 have x2:ax .u64 (E v (ae<|(Z v:O)-2) 0)=v2:=by rw[a3,ajc];exact ev2
 have x3:ax .u64 (E g (a+ae ((Z v:O)-2)) 0)=u2:=by rw[a3,ajd];exact eu2
 have QI:0<=t/v1:=xy M G
 have CL:0<=t%v1:=g6 _ G
 have uq:t%v1<v1:=g7 _ G
 have cp:=nc t v1
 have S:((-9223372036854775808<=(Z v:O)-1/\(Z v:O)-1<=9223372036854775807)/\0<=(Z v:O)-1/\(Z v:O)-1<(Z v:O))/\ax .u64 (E v (ae<|(Z v:O)-1) 0)≠0:=by rw[x1];omega
 have XM:=di 2 (t/v1) (t%v1) (by rw[ef];omega) CL G Qg XK
 rw[hQ]at XM
 let ⟨q1,q2,q3⟩:=XM
 refine N J (hp:=by simp only[Pr.an,Pr.h,num,fR,true_and,and_true];exact⟨⟨⟨S,S.1.1⟩,S.1.2⟩,S.2⟩) ?_
 refine jk ⟨[(0,.c<|.W 0 a<|n+3),(1,I ao v),(5,j<|Z v),(7,cU k)],[(0,.vec 142 ao g)],30,[]⟩ ?_<|λV=>R<|aY (α:=Y×O×O) (λx=>⟨[(0,.c<|.W 0 a<|n+3),(1,I ao v),(5,j<|Z v),(6,cU t),(7,cU x.2.1),(8,cU x.2.2)],[(0,.vec 142 ao g)],6,[]⟩) (λx=>qG x.1 x.2.1 x.2.2 v1 v2 u2=k/\t=x.2.1*v1+x.2.2/\0<=x.2.2/\x.2.2<4294967296/\4294967296<=x.2.2+x.1*2147483648/\u/val v<=x.2.1) (λx=>x.1) (2,t/v1,t%v1) ⟨hQ,by show t=t/v1*v1+t%v1;rw[ef];omega,CL,(G:t%v1<4294967296),Qg,XK⟩ (wk ⟨sR J,sR J,sR J,sR J,sE J ?_,sE J ?_,e⟩ ⟨bR J,e⟩) ?_
 .clear di GH hQ;refine N J<|U<|N J ?_;refine R (aY (α:=Y×O×O) (λx=>⟨[(0,.c<|.W 0 a<|n+3),(1,I ao v),(5,j<|Z v),(7,cU k),(9,cU x.2.1),(10,cU x.2.2),(82,j<|Z v),(83,j x.1)],[(0,.vec 142 ao<|cT g a<|bO x.1<|val ((az a g).take x.1)-k*val (List.take x.1 v))],32,[]⟩) (λx=>x.1<=n+2/\(val ((az a g).take x.1)-k*val (List.take x.1 v))/4294967296^x.1= -(x.2.1+x.2.2)/\x.2.1=k*val (List.take x.1 v)/4294967296^x.1/\(x.2.2=0\/x.2.2=1)) (λx=>n+2-x.1) (0,0,0) ⟨be _,wg,wg,.inl J⟩ (wk (bJ J) ⟨bE J ?_,e⟩) ?_)
  .exact a8 (aN.vec 142 ao) (KW g a).symm
  rintro⟨i,c,H⟩ ⟨L,h2,h3,h4⟩;simp only at L h2 h3 h4;have l:=Xu hv (G:0<=k) q3 i;rw[<-h3]at l;have gu:=db hU<|a+i;have P:=Xs g v a i k (c:=c) (b:=H) J h2;have Q:Z (bO i<|val ((az a g).take i)-k*val (List.take i v))=i:=rU _ _;have wo:=wj (U:=g) (j:=a) (ws:=bO i<|val ((az a g).take i)-k*val (List.take i v)) G;have C:=KX (U:=g) (j:=a) (ws:=bO i<|val ((az a g).take i)-k*val (List.take i v)) G;have F:=λQJ=>KY (U:=g) (j:=a) (ws:=bO i<|val ((az a g).take i)-k*val (List.take i v)) QJ G
  rw[Q]at C F;simp only at P;let ⟨s1,s2⟩:=P;refine N J<|U ?_;refine y J (λh=>?_)<|λh=>?_
  .have h:i<n+2:=by have h:(i:O)<(Z v:O):=aK h;omega
   have gv:=db hv i;have hm:0<=k*E v i 0/\k*E v i 0<=18446744065119617025:=Gt G G gv.1 G;have FQ:=Xv (v:=v) (q:=k) i h3;refine aA<|U<|R<|N J<|N J (hp:=aF) ?_;have ei:ae (i:O)=i:=bW i;have o:ax .u64 (ax .u64 (k*ax .u64 (E v (ae (i:O)) 0))+c)=k*E v i 0+c:=by rw[ei,wrap_u64 (E v i 0) G G,wrap_u64 (k*E v i 0) G G,wrap_u64 _ G G]
   generalize hp:k*E v i 0+c=p at*;refine dU (st':=⟨[(0,.c<|.W 0 a<|n+3),(1,I ao v),(5,j<|Z v),(7,cU k),(10,cU H),(11,j i),(12,cU p),(82,j<|Z v),(83,j i)],[(0,.vec 142 ao<|cT g a<|bO i<|val ((az a g).take i)-k*val (List.take i v))],40,[]⟩) (wk ⟨sR J,sR J,sR J,sR J,sR J,sR J,sE J ?_,sR J,sR J,e⟩ ⟨bR J,e⟩) ?_
   .exact bL o
   generalize hX:cT g a (bO i<|val ((az a g).take i)-k*val (List.take i v))=X at*;refine N J<|N J (hp:=aF) ?_;have w2:p.fdiv (2^(min (ae ((32:Y):O))<|c7 .u64))=p/4294967296:=yc p 32 G;have w3:ax .u64 (ax .u64 (ax .u64 (X.getD (a+ae (i:O)) 0)-ax .u64 (ax .u32 p))-H)=(E g (a+i) 0-p%4294967296-H)%18446744073709551616:=by rw[ei,C,px,px,px,px,wu];omega
   generalize hd:(E g (a+i) 0-p%4294967296-H)%18446744073709551616=d at*;refine dU (st':=⟨[(0,.c<|.W 0 a<|n+3),(1,I ao v),(5,j<|Z v),(7,cU k),(9,cU<|p/4294967296),(11,j i),(13,cU d),(82,j<|Z v),(83,j i)],[(0,.vec 142 ao X)],44,[]⟩) (wk ⟨sR J,sR J,sR J,sR J,sE J ?_,sR J,sE J ?_,sR J,sR J,e⟩ ⟨bR J,e⟩) ?_
   .exact bL w2
   .exact bL w3
   refine N J (hp:=aF)<|rt J (hp:=aF)<|aX<|rt J<|aG (i+1,p/4294967296,1-(4294967296+E g (a+i) 0-p%4294967296-H)/4294967296) ⟨(G:i+1<=n+2),s2,FQ.symm,(G:1-(4294967296+E g (a+i) 0-p%4294967296-H)/4294967296=0\/1-(4294967296+E g (a+i) 0-p%4294967296-H)/4294967296=1)⟩ (G:n+2-(i+1)<n+2-i)<|wk ⟨sR J,sR J,sR J,sR J,sR J,sE J ?_,sR J,sR J,e⟩ ⟨bE J ?_,e⟩
   .refine bL ?_;show d.fdiv (2^(min (ae ((63:Y):O))<|c7 .u64))=1-(4294967296+E g (a+i) 0-p%4294967296-H)/4294967296;rw[yc d 63 G];omega
   .refine a8 (aN.vec 142 ao) ?_;show X.set (a+ae (i:O)) (ax .u32 d)=cT g a (bO (i+1) _);rw[s1,ei,wu,(G:d%4294967296=(4294967296+E g (a+i) 0-p%4294967296-H)%4294967296),F]
  .have cz:i=n+2:=by have h:¬(i:O)<(Z v:O):=aT h;omega
   subst cz;have x9:E v (n+2) 0=0:=by simp[aV,jQ (G:Z v<=n+2)]
   rw[x9,gn,Aw,gk l.1 l.2,Dg l.1 l.2,Aw,lE v (n+2+1) G,XL]at s2;rw[x9,gn,Aw,gk l.1 l.2,lE v (n+2+1) G,XL]at s1;generalize hX:cT g a (bO (n+2)<|val ((az a g).take<|n+2)-k*val (List.take (n+2) v))=X at*;refine a6<|aO<|N J (hp:=aF) ?_;have w3:ax .u64 (ax .u64 (ax .u64 (X.getD (a+(Z v:O).toNat) 0)-c)-H)=(E g (a+(n+2)) 0-c-H)%18446744073709551616:=by rw[a1,C,px,px,px];omega
   generalize hd:(E g (a+(n+2)) 0-c-H)%18446744073709551616=d at*;refine dU (st':=⟨[(0,.c<|.W 0 a<|n+3),(1,I ao v),(5,j<|Z v),(7,cU k),(14,cU d)],[(0,.vec 142 ao X)],44,[]⟩) (wk ⟨sR J,sR J,sR J,sR J,sE J ?_,e⟩ ⟨bR J,e⟩) ?_
   .exact bL w3
   refine N J (hp:=aF)<|U<|N J (hp:=aF) ?_;have QK:X.set (a+(Z v:O).toNat) (ax .u32 d)=cT g a (bO (n+3)<|u-k*val v):=by rw[a1,show n+3=n+2+1 from J,s1,wu,(G:d%4294967296=(4294967296+E g (a+(n+2)) 0-c-H)%4294967296),F]
   have wq:d.fdiv (2^(min (ae ((63:Y):O))<|c7 .u64))=1-(4294967296+E g (a+(n+2)) 0-c-H)/4294967296:=by rw[yc d 63 G];omega
   generalize Gb:1-(4294967296+E g (a+(n+2)) 0-c-H)/4294967296=b' at*;have asU:b'=0\/b'=1:=G;have Qw:=nc u<|val v;have Ge:=g6 u (G:val v≠0);have Dm:=g7 u hvp;have hpn:=jc<|n+2+1;have h5:=nc (u-k*val v)<|4294967296^(n+2+1);have h6:=g6 (u-k*val v) (G:(4294967296:O)^(n+2+1)≠0);have m:=g7 (u-k*val v) hpn;rw[s2]at h5;refine y J (λB=>?_)<|λB=>?_
   .have B:b'=0:=by have B:d.fdiv (2^(min (ae ((63:Y):O))<|c7 .u64))=0:=eq_of_beq B;rw[<-wq];exact B
    have hq:k=u/val v:=by
     rw[B]at h5;simp only[Int.neg_zero,gn,qE]at h5;by_cases cz:k=u/val v
     .exact cz
     .exfalso;have e2:k=u/val v+1:=G;have Qx:k*val v=val v*(u/val v)+val v:=by rw[e2,mX,jS,ef]
      omega
    have e1:u-k*val v=u%val v:=by have:=ef (u/val v)<|val v;rw[hq];omega
    refine N J<|bI ?_;repeat(first|refine cA ?_|refine jJ ?_|refine kd ?_)
    refine Pc (st':=⟨[(4,cW<|u/val v)],[(0,.vec 142 ao<|cT g a<|bO (n+3)<|u%val v)],60,[]⟩) (wk ⟨sE J ?_,e⟩ ⟨bE J ?_,e⟩)<|xY cq J (bf.refl _) J
    .refine CH ?_;rw[wrap_u32 _ G G];exact hq
    .rw[QK,e1]
   .have B:b'=1:=by have B:¬d.fdiv (2^(min (ae ((63:Y):O))<|c7 .u64))=0:=nf B;rw[wq]at B;omega
    have hq:k=u/val v+1:=by
     rw[B]at h5;rw[Int.mul_neg,mF]at h5;by_cases cz:k=u/val v
     .exfalso;have:k*val v=val v*(u/val v):=by rw[cz,ef]
      omega
     .omega
    have Qx:k*val v=val v*(u/val v)+val v:=by rw[hq,mX,jS,ef]
    refine aA ?_;refine dU (st':=⟨[(0,.c<|.W 0 a<|n+3),(1,I ao v),(5,j<|Z v),(7,cU k)],[(0,.vec 142 ao<|cT g a<|bO (n+3)<|u-k*val v)],50,[]⟩) (wk (bJ J) ⟨bE J ?_,e⟩) ?_
    .rw[QK]
    have Dp:∀x,Z (bO (n+3) x)=n+3:=λx=>rU _ _
    have hU1:bP (cT g a<|bO (n+3)<|u-k*val v):=Qk hU<|Gx _ _;have asV:Z (cT g a<|bO (n+3)<|u-k*val v)=Z g:=wj s6;have ajg:cT (cT g a<|bO (n+3)<|u-k*val v) a (bO (n+3)<|val (List.take (n+3)<|az a<|cT g a<|bO (n+3)<|u-k*val v)+val v)=cT g a (bO (n+3)<|u%val v):=by rw[Xy s6 (by rw[Dp,Dp]),Ql s6,vw s6,iK s6,Gy];refine a8 (cT g a)<|KV _ _ _ ?_;rw[Int.emod_add_emod];congr 1;omega
    generalize cT g a (bO (n+3)<|u-k*val v)=A at*;clear QK wq Gb s1 s2 F C hX;refine N J<|U<|N J ?_;refine R<|aY (α:=Y×O) (λx=>⟨[(0,.c<|.W 0 a<|n+3),(1,I ao v),(5,j<|Z v),(7,cU k),(9,cU x.2),(135,j<|Z v),(136,j x.1)],[(0,.vec 142 ao<|cT A a<|bO x.1<|val ((az a A).take x.1)+val (List.take x.1 v))],60,[]⟩) (λx=>x.1<=n+2/\(val ((az a A).take x.1)+val (List.take x.1 v))/4294967296^x.1=x.2/\(x.2=0\/x.2=1)) (λx=>n+2-x.1) (0,0) ⟨be _,wg,.inl J⟩ (wk (bJ J) ⟨bE J ?_,e⟩) ?_
    .exact a8 (aN.vec 142 ao) (KW A a).symm
    rintro⟨i,c⟩ ⟨L,h2,h4⟩;simp only at L h2 h4;have gu:=db hU1<|a+i;have P:=Xt A v a i (c:=c) J h2;simp only at P;let ⟨s1,s2⟩:=P;have Q:Z (bO i<|val ((az a A).take i)+val (List.take i v))=i:=rU _ _;have wo:=wj (U:=A) (j:=a) (ws:=bO i<|val ((az a A).take i)+val (List.take i v)) G;have C:=KX (U:=A) (j:=a) (ws:=bO i<|val ((az a A).take i)+val (List.take i v)) G;have F:=λQJ=>KY (U:=A) (j:=a) (ws:=bO i<|val ((az a A).take i)+val (List.take i v)) QJ G
    rw[Q]at C F;refine N J<|U ?_;refine y J (λh=>?_)<|λh=>?_
    .have h:i<n+2:=by have h:(i:O)<(Z v:O):=aK h;omega
     have gv:=db hv i;generalize hX:cT A a (bO i<|val ((az a A).take i)+val (List.take i v))=X at*;have ei:ae (i:O)=i:=bW i;refine aA<|U<|R<|N J<|N J (hp:=aF) ?_;have o:ax .u64 (ax .u64 (ax .u64 (X.getD (a+ae (i:O)) 0)+ax .u64 (E v (ae (i:O)) 0))+c)=E A (a+i) 0+E v i 0+c:=by rw[ei,C,wrap_u64 (E A (a+i) 0) G G,wrap_u64 (E v i 0) G G,wrap_u64 (_+E v i 0) G G,wrap_u64 _ G G]
     generalize ht:E A (a+i) 0+E v i 0+c=D at*;have M:0<=D/\D<8589934592:=G;refine dU (st':=⟨[(0,.c<|.W 0 a<|n+3),(1,I ao v),(5,j<|Z v),(7,cU k),(15,j i),(16,cU D),(135,j<|Z v),(136,j i)],[(0,.vec 142 ao X)],70,[]⟩) (wk ⟨sR J,sR J,sR J,sR J,sR J,sE J ?_,sR J,sR J,e⟩ ⟨bR J,e⟩) ?_
     .exact bL o
     refine N J (hp:=aF)<|rt J (hp:=aF)<|aX<|rt J<|aG (i+1,D/4294967296) ⟨(G:i+1<=n+2),s2,(G:D/4294967296=0\/D/4294967296=1)⟩ (G:n+2-(i+1)<n+2-i)<|wk ⟨sR J,sR J,sR J,sR J,sE J ?_,sR J,sR J,e⟩ ⟨bE J ?_,e⟩
     .exact bL<|yc D 32 G
     .refine a8 (aN.vec 142 ao) ?_;show X.set (a+ae (i:O)) (ax .u32 D)=cT A a (bO (i+1) _);rw[s1,ei,wu,F]
    .have cz:i=n+2:=by have h:¬(i:O)<(Z v:O):=aT h;omega
     subst cz;rw[x9,qE,lE v (n+2+1) G]at s1;generalize hX:cT A a (bO (n+2)<|val ((az a A).take<|n+2)+val (List.take (n+2) v))=X at*;refine a6<|aO<|N J (hp:=aF)<|N J<|bI ?_;refine Pc (st':=⟨[(4,cW<|u/val v)],[(0,.vec 142 ao<|cT g a<|bO (n+3)<|u%val v)],90,[]⟩) (wk ⟨sE J ?_,e⟩ ⟨bE J ?_,e⟩)<|xY cq J (bf.refl _) J
     .refine CH ?_;rw[px,wu];omega
     .refine a8 (aN.vec 142 ao) ?_;rw[<-ajg,show n+3=n+2+1 from J,s1,a1,C,wu,wu,(G:(E A (a+(n+2)) 0+c%4294967296)%4294967296=(E A (a+(n+2)) 0+c)%4294967296),F]
 .refine bL ?_;show ax .u64 (t.tdiv<|ax .u64<|E v (ae<|(Z v:O)-1) 0)=t/v1;have:=Int.ediv_le_self v1 M;rw[x1,Di M,wrap_u64 _ QI G]
 .refine bL ?_;show(t.tmod<|ax .u64<|E v (ae<|(Z v:O)-1) 0)=t%v1;rw[x1,Gw M]
 .rintro⟨f,q,r⟩ ⟨L,h2,h3,h4,h5,h6⟩;simp only at L h2 h3 h4 h5 h6;have hqs:=GH h2 h3;cases f with
  |zero=>omega
  |succ f=>
  rw[qG]at L;have Dm:0<=q*v2/\q*v2<18446744073709551616:=by refine⟨iL G G,?_⟩;have:q*v2<=4294967297*4294967295:=vj G G G T;omega
  refine U<|w<|rg 50 J J (λh=>?_)<|λh=>?_
  .have XN:q>=4294967296:=by simpa using h
   have l:q>=4294967296\/q*v2>r*4294967296+u2:= .inl XN;refine s J (y J (λ_=>?_)<|λm=>by cases m);have iN:u/val v<q:=by
    rcases l with l|l
    .have:=K.BS;omega
    .exact K.down h2 G l
   have o:ax .u64 (q-1)=q-1:=wrap_u64 _ G G;have w2:ax .u64 (r+ax .u64 (E v (ae<|(Z v:O)-1) 0))=r+v1:=by rw[x1,wrap_u64 _ G G]
   refine aA<|R<|N J<|N J (hp:=aF)<|N J<|y J (λm=>?_)<|λm=>?_
   .have m:r+v1>=4294967296:=by have m:ax .u64 (r+ax .u64 (E v (ae<|(Z v:O)-1) 0))>=4294967296:=aK m;omega
    rw[aq l,aq m]at L;refine kJ<|JN<|nK<|kK<|dM V<|wk ⟨sR J,sR J,sR J,sE J ?_,e⟩ ⟨bR J,e⟩;refine bL ?_;rw[<-L];exact o
   .have m:¬r+v1>=4294967296:=by have m:¬ax .u64 (r+ax .u64 (E v (ae<|(Z v:O)-1) 0))>=4294967296:=aT m;omega
    rw[aq l,b m]at L;refine cZ<|eH<|aG (f,q-1,r+v1) ⟨L,KP,KQ,KR,KS,KT⟩ (dL f)<|wk ⟨sR J,sR J,sR J,sR J,sE J ?_,sE J ?_,e⟩ ⟨bR J,e⟩
    .exact bL o
    .exact bL w2
  .have XN:¬q>=4294967296:=by have:q<4294967296:=dH;omega
   have w3:ax .u64 (q*ax .u64 (E v (ae<|(Z v:O)-2) 0))=q*v2:=by rw[x2,wrap_u64 _ Dm.1 Dm.2]
   have w4:ax .u64 ((iA (c7 .u64) (ax .u64<|r*2^(min (ae ((32:Y):O))<|c7 .u64))|||iA (c7 .u64) (ax .u64<|E g (a+ae ((Z v:O)-2)) 0)).toNat:O)=r*4294967296+u2:=by rw[x3,yb r 32 h3 G G,Au _ _ 32 G (Dt _ _) G G G,show(2:O)^32=4294967296 from J]
   refine s J (hp:=aF)<|y J (λB=>?_)<|λB=>?_
   .have l:q>=4294967296\/q*v2>r*4294967296+u2:= .inr (by have B:ax .u64 (q*ax .u64 (E v (ae<|(Z v:O)-2) 0))>ax .u64 ((iA (c7 .u64) (ax .u64<|r*2^(min (ae ((32:Y):O))<|c7 .u64))|||iA (c7 .u64) (ax .u64<|E g (a+ae ((Z v:O)-2)) 0)).toNat:O):=aK B;rw[w3,w4]at B;exact B);have iN:u/val v<q:=by
     rcases l with l|l
     .have:=K.BS;omega
     .exact K.down h2 G l
    have o:ax .u64 (q-1)=q-1:=wrap_u64 _ G G;have w2:ax .u64 (r+ax .u64 (E v (ae<|(Z v:O)-1) 0))=r+v1:=by rw[x1,wrap_u64 _ G G]
    refine aA<|R<|N J<|N J (hp:=aF)<|N J<|y J (λm=>?_)<|λm=>?_
    .have m:r+v1>=4294967296:=by have m:ax .u64 (r+ax .u64 (E v (ae<|(Z v:O)-1) 0))>=4294967296:=aK m;omega
     rw[aq l,aq m]at L;refine kJ<|JN<|nK<|kK<|dM V<|wk ⟨sR J,sR J,sR J,sE J ?_,e⟩ ⟨bR J,e⟩;refine bL ?_;rw[<-L];exact o
    .have m:¬r+v1>=4294967296:=by have m:¬ax .u64 (r+ax .u64 (E v (ae<|(Z v:O)-1) 0))>=4294967296:=aT m;omega
     rw[aq l,b m]at L;refine cZ<|eH<|aG (f,q-1,r+v1) ⟨L,KP,KQ,KR,KS,KT⟩ (dL f)<|wk ⟨sR J,sR J,sR J,sR J,sE J ?_,sE J ?_,e⟩ ⟨bR J,e⟩
     .exact bL o
     .exact bL w2
   .have l:¬(q>=4294967296\/q*v2>r*4294967296+u2):=by have B:¬ax .u64 (q*ax .u64 (E v (ae<|(Z v:O)-2) 0))>ax .u64 ((iA (c7 .u64) (ax .u64<|r*2^(min (ae ((32:Y):O))<|c7 .u64))|||iA (c7 .u64) (ax .u64<|E g (a+ae ((Z v:O)-2)) 0)).toNat:O):=aT B;rw[w3,w4]at B;omega
    rw[b l]at L;subst L;exact a6<|dM V aH
def wz m:al z 188 [I ao (q m)] (I ao<|q m):=by have h:=uk<|q m;rwa[Ow]at h
def ajh{k n}(B:Z (q k)=n+2){x a:Y}(ex:(x:O)=E (q k) (n+1) 0)(F:2147483648<=x*2^a)(f:x*2^a<4294967296)(H:a<=31):
  ((k*2^a:Y):O)<4294967296^(n+2)/\Z (q<|k*2^a)=n+2/\2147483648<=E (q<|k*2^a) (n+1) 0:=by
 have l:0<2^a:=kh T
 have p:(x+1)*2^a<=4294967296:=by
  have e:4294967296=2^(32-a)*2^a:=by rw[<-mE,(G:32-a+a=32)]
  have:x<2^(32-a):=by rw[e]at f;exact Nat.lt_of_mul_lt_mul_right f
  rw[e];exact dT _ this
 generalize r:2^a=D at*
 have g:=jF (q k)<|n+1
 rw[lE _ _ (G:Z (q k)<=n+1+1),dS,<-ex]at g
 have t:=me<|ix (dC k)<|n+1
 rw[(bX:Z (h (n+1)<|q k)=n+1)]at t
 have C:=k6<|ix (dC k)<|n+1
 have K:=jc<|n+1
 generalize val (h (n+1)<|q k)=u at*
 have c:((x:O)+1)*(D:O)<=4294967296:=by have:(((x+1)*D:Y):O)<=((4294967296:Y):O):=G;rw[eU,wh]at this;exact this
 have i:((k*D:Y):O)<4294967296^(n+2):=by
  rw[eU,ov,g];have L:(u+(x:O)*4294967296^(n+1))*D<(((x:O)+1)*4294967296^(n+1))*D:=GA (by rw[mX,jS];omega) G;have M:((x:O)+1)*4294967296^(n+1)*D=4294967296^(n+1)*(((x:O)+1)*D):=by generalize (4294967296:O)^(n+1)=y;grind
  have P:4294967296^(n+1)*(((x:O)+1)*D)<=4294967296^(n+1)*4294967296:=jR c G;omega
 have v:Z (q<|k*D)=n+2:=by have Q:Z (q<|k*D)<=n+2:=zq i;have S:=rR (m:=k) (k:=k*D)<|Qr _ l;omega
 refine⟨i,v,?_⟩
 have d:=jF (q<|k*D)<|n+1
 rw[lE _ _ (G:Z (q<|k*D)<=n+1+1),dS]at d
 have A:=me<|ix (dC<|k*D)<|n+1
 rw[(bX:Z (h (n+1)<|q<|k*D)=n+1)]at A
 generalize E (q<|k*D) (n+1) 0=c1 at*
 generalize val (h (n+1)<|q<|k*D)=W at*
 by_cases e:2147483648<=c1
 .exact e
 .exfalso;have X:(c1+1)*4294967296^(n+1)<=(x:O)*D*4294967296^(n+1):=gG G G;have b:(x:O)*4294967296^(n+1)*D<=(k:O)*D:=gG G G;have j:(x:O)*4294967296^(n+1)*D=(x:O)*D*4294967296^(n+1):=by generalize (4294967296:O)^(n+1)=y;grind
  have o:(c1+1)*4294967296^(n+1)=c1*4294967296^(n+1)+4294967296^(n+1):=EV;rw[eU]at d;omega
def aji m k n(f:Z (q k)=n+2)(n9:k<=m)(lm:Z (q m)<=1099511627776):al z 190 [I ao (q m),I ao<|q k] (.t [(ah,[.S ao (q<|m/k)]),(ah,[.S ao (q<|m%k)])]):=by
 refine aR XO ?_;have rO:=db (dC k)<|n+1;have Ax:E (q k) (n+1) 0≠0:=by
  rcases tS k with l|l
  .rw[l]at f;simp at f
  .rw[f]at l;exact l
 obtain⟨x,ex⟩:∃x:Y,(x:O)=E (q k) (n+1) 0:=⟨ae<|E (q k) (n+1) 0,ui rO.1⟩;let ⟨a,hlz,P,x1,x2⟩:=aiX x G G;let ⟨f5,f6,f7⟩:=ajh f ex x1 x2 P;have hD:0<2^a:=kh T;have hD2:2^a<=2^31:=fT T P;have H:(2:O)^a=((2^a:Y):O):=ay;have FB:0<k:=by
  rcases pq k with l|l
  .subst l;rw[BP]at f;simp at f
  .exact l
 have hla:n+2<=Z (q m):=by rw[<-f];exact rR n9
 obtain⟨M,hM⟩:∃M,Z (q m)=M+(n+2):=⟨Z (q m)-(n+2),G⟩;have GB:((m*2^a:Y):O)<4294967296^(M+(n+2)+1):=by have L:=so (n:=m);rw[hM]at L;rw[ov,eU];have:=jc<|M+(n+2);have h2:(m:O)*((2^a:Y):O)<=(m:O)*4294967296:=jR G G;omega
 have W:¬dy (m:O) (k:O)<0:=by unfold dy;rw[b G];split<;>decide
 have o:=XJ (q m) a (dC m) P lm;have D:=(XJ (q k) a (dC k) P G).fs;have wA:=so (n:=k);rw[f]at wA;rw[dS,f,H,<-eU]at D;rw[dS,H,<-eU,hM]at o;have hVt:h (n+2) (bO (n+2+1) ((k*2^a:Y):O))=q (k*2^a):=by have:=Xq<|dC<|k*2^a;rw[f6,dS]at this;rw[Dj,List.take_left'<|rU _ _,this]
 refine N J<|w<|rc J J (wz m)<|rc J J (wz k)<|s J ?_;refine U<|bD J J (Lg m k) J<|y J (λr=>absurd (aK r) W)<|λ_=>aA ?_;refine U<|N J<|y J (λr=>?_)<|λ_=>aA ?_
 .exfalso;have r:(Z (q k):O)=1:=eq_of_beq r;omega
 have a2:ae ((Z (q k):O)-1)=n+1:=G;have ajl:al z 223 [cW (E (q k) (ae<|(Z (q k):O)-1) 0)] (j a):=by rw[a2,<-ex];exact hlz
 refine N J<|w<|rc J J ajl<|s J (hp:=aF) ?_;refine w<|Ai J J o<|s J ?_;refine w<|rc J J D<|s J (hp:=by simp only[Pr.an,Pr.h,num,fR,true_and,and_true];rw[rU];omega) ?_;refine w<|rm ao (M+1) J J J J J J (lM .u32) G ?_ ?_<|s J ?_
 .show _*4<=_;omega
 .show _*1<=_;omega
 generalize K:bO (M+(n+2)+1) ((m*2^a:Y):O)=u;have B:val u=((m*2^a:Y):O):=by rw[<-K,Gy,gk G GB]
 have F:bP u:=by rw[<-K];exact Gx _ _
 have Qt:Z u=M+(n+2)+1:=by rw[<-K,rU]
 have x9:(0:O)<((k*2^a:Y):O):=by have:0<k*2^a:=ya FB hD;omega
 have uu:s0 ((m*2^a:Y):O) ((k*2^a:Y):O) (n+2) M (M+1,u,bp (M+1) 0):=by
  refine⟨a7 _,Qt,F,?_,ay,p' _,λi hi=>?_,?_⟩
  .show val (az (M+1) u)<_;have L:=x7 u (M+1) G;have h2:=k6<|ix F<|M+1;have hp:=jc<|M+1;by_cases l:val (az (M+1) u)<((k*2^a:Y):O)
   .exact l
   .exfalso;have h3:4294967296^(M+1)*((k*2^a:Y):O)<=4294967296^(M+1)*val (az (M+1) u):=jR G G;have h4:=Ja (dC k) (tS k) (by intro l;rw[l]at f;simp at f);rw[dS,f,(G:n+2-1=n+1)]at h4;have h5:=so (n:=m);rw[hM,(G:M+(n+2)=M+1+(n+1)),Int.pow_add]at h5;have h6:4294967296^(M+1)*4294967296^(n+1)*((2^a:Y):O)<=4294967296^(M+1)*((k*2^a:Y):O):=by rw[eU,iy];exact jR (gG h4 G) G
    have h7:(m:O)*((2^a:Y):O)<4294967296^(M+1)*4294967296^(n+1)*((2^a:Y):O):=GA h5 G;rw[B,eU m]at L;omega
  .show E (bp (M+1) (0:O)) i 0=0;rw[aV,ln];split<;>rfl
  .show _=val u+_*val (bp (M+1) 0);rw[I',B];omega
 refine U<|N J ?_;refine R<|aY (α:=Y×V O×V O) (λx=>⟨[(8,j ((n+2:Y):O)),(9,j a),(10,.c<|.X 6002000),(11,I ao<|q<|k*2^a),(12,.c<|.X 8005000),(13,j<|(x.1:O)-1)],[(6002000,.vec 142 ao x.2.1),(8005000,.vec 142 ao x.2.2)],10,[]⟩) (s0 ((m*2^a:Y):O) ((k*2^a:Y):O) (n+2) M) (λx=>x.1) (M+1,u,bp (M+1) 0) uu (wk ⟨sE J ?_,sR J,sR J,sE J ?_,sR J,sE J ?_,e⟩<|vG J) ?_
 .exact im G
 .refine a8 (λfK=>AV.c<|C.S ao fK) ?_;rw[<-hVt];simp only[f,bW,o5]
 .exact im G
 rintro⟨c,g,Q⟩ v;have o8:Z g=M+(n+2)+1:=v.ul;have A:bP g:=v.ur;have K2:Z Q=M+1:=v.ql;have Ky:c<=M+1:=v.k;refine U<|N J ?_;refine y J (λr=>?_)<|λr=>?_
 .have r:(c:O)-1>=0:=aK r;obtain⟨d,rfl⟩:∃d,c=d+1:=⟨c-1,G⟩;have ej:((d+1:Y):O)-1=(d:O):=G;rw[ej];have p:=v.next x9 f5;let ⟨_,wo⟩:=v.Qo f5;have XP:=ai7 g (q<|k*2^a) d n A (dC _) f6 G G f7 (by rw[dS];exact wo);rw[dS]at XP;rw[show n+2+1=n+3 from J]at p wo;have hu0:=k6<|ix (xv A d)<|n+3;refine aA<|U<|R ?_;refine bT<|Xd d (d+(n+3)) J J J J J J G G (G:d+(n+3)<=Z g) ?_;rw[(G:d+(n+3)-d=n+3)];refine xZ 6002000 J XP J J<|s J ?_;refine aX<|rt J<|aG (d,cT g d<|bO (n+3)<|val ((az d g).take<|n+3)%((k*2^a:Y):O),Q.set d<|val ((az d g).take<|n+3)/((k*2^a:Y):O)) p (dL d)<|wk (bJ J) ⟨bR J,bE J ?_,e⟩;refine a8 (aN.vec 142 ao) ?_;show Q.set (ae (d:O)) _=Q.set d _;rw[bW]
 .have r:¬(c:O)-1>=0:=aT r;have hc:c=0:=G;subst hc;let ⟨e1,e2⟩:=v.fin;have q1:aS Q=q (m/k):=by
   rw[n6 v.qr];show q (ae<|val Q)=_;rw[e1];have:((m*2^a:Y):O)/((k*2^a:Y):O)=((m/k:Y):O):=by rw[<-wm,Nat.mul_div_mul_right _ _ hD]
   rw[this,bW]
  have hub:val g<((k*2^a:Y):O):=v.ub;have hut:val (h (n+2) g)=val g:=by have L:=x7 g (n+2) G;rw[Xx A (n+2) G G,gn,qE]at L;exact L.symm
  have wq:=ai2 (h (n+2) g) a (ix A _) P GJ;have q2:q (ae<|val (h (n+2) g)/2^a)=q (m%k):=by
   rw[hut,e2,H];have:((m*2^a:Y):O)%((k*2^a:Y):O)/((2^a:Y):O)=((m%k:Y):O):=by rw[<-GC,Nat.mul_mod_mul_right,<-wm,Qy _ hD]
   rw[this,bW]
  rw[q2]at wq;have ht:=uk Q;rw[q1]at ht;refine a6<|aO<|c6 6002000 J J J<|c6 8005000 J J J ?_;refine w<|rc J J ht<|rc J J wq (hp:=aF)<|s J<|bQ J ?_;rfl
def XQ m k(l:k≠0)(g:Z (q m)<=1099511627776):al z 190 [I ao (q m),I ao<|q k] (.t [(ah,[.S ao (q<|m/k)]),(ah,[.S ao (q<|m%k)])]):=by
 by_cases a:m<k
 .refine aR XO ?_;refine N J<|w<|rc J J (wz m)<|rc J J (wz k)<|s J ?_;refine U (bD J J (Lg m k) J<|y J (λ_=>?_)<|λh=>?_)
  .refine bD J J (K9 (q m) g) J<|bI<|cA<|gZ cq J ?_;rw[Aq a,ou a];exact bf.t2<|bf.nil ao
  .exfalso;have h:¬dy (m:O) (k:O)<0:=aT h;unfold dy at h;rw[aq G]at h;omega
 .by_cases d:k<4294967296
  .refine aR XO ?_;have x:q k=[(k:O)]:=by rw[vi l,Aq d,BP,ou d]
   have f:¬dy (m:O) (k:O)<0:=by unfold dy;rw[b G];split<;>decide
   have p:=aiY (q m) (k:O) (dC m) G G g;rw[dS,<-wm,<-GC,bW]at p;have r:=Lg m k;have u:=wz k;rw[x]at r u⊢;refine N J<|w<|rc J J (wz m)<|rc J J u<|s J ?_;refine U<|bD J J r J<|y J (λh=>absurd (aK h) f)<|λ_=>aA ?_;have i:al z 222 [I ao (q m),.c (num .u64 (k:O)).1] (.t [(ah,[.S ao (q<|m/k)]),(ah,[.I .u64 ((m%k:Y):O)])]):=by rw[show(AV.c (num .u64 (k:O)).1)=cU (k:O)from bL<|wrap_u64 _ G G];exact p
   have v:=fb m<|qF l;refine U<|N J<|y J (λ_=>?_)<|λh=>er;refine bD J J i J ?_;refine bD J J (K7 (m%k) G) J<|bI<|cA<|atR J
  .have B:2<=Z (q k):=by
    by_cases e:2<=Z (q k)
    .exact e
    .exfalso;have C:=so (n:=k);have A:=sp (m:=Z<|q k) (n:=1) G;rw[Int.pow_one]at A;omega
   exact aji m k (Z (q k)-2) G G g
def XR a c(p:c≠0)(n:Sm a)(k:Sm c):al z 158 [aZ a,aZ c] (.t [(af,av .z<|a/c),(af,av .z<|a%c),(ah,[.I .i64 0])]):=by
 refine aR Tryz.func158 ?_;have d:aC c≠0:=G;refine N J<|U<|bD J J (wz<|aC c) J ?_;refine y J (λl=>?_)<|λl=>?_
 .exfalso;have l:(Z (q<|aC c):O)=0:=eq_of_beq l;have:=ot.2 d;omega
 .refine aA<|bD J J (XQ _ _ d n) J<|U<|w ?_;refine rg 26 J J (λh3=>?_) (λh3=>?_)
  .have h3:a<0:=by simpa[b6]using h3
   refine s J<|y J (λh4=>?_)<|λh4=>?_
   .have h4:aC a%aC c≠0:=by have h4:(Z (q<|aC a%aC c):O)>0:=K3;exact ot.1 G
    let ⟨e1,f⟩:=Xn (qF d) h3 h4;have hz:b6 a=af:=Dr;let ⟨g,i⟩:=Dh a c (aC a/aC c+1) (aC c-aC a%aC c) Ds f;have r:aC a%aC c<aC c:=fb _<|qF d;refine w<|rl ao [_] J J (rc J J (XE (aC a/aC c) 1 ?_ T)<|s J<|bT<|rc J J (QH (aC c) _ G k)<|s J<|aO<|w ?_)
    .exact cj (rR<|Nat.div_le_self _ _) n
    refine rc J J (oy _ _)<|rc J J (oy _ _)<|s J<|bQ J ?_;rw[g,i];rfl
   .have h4:aC a%aC c=0:=by have h4:¬(Z (q<|aC a%aC c):O)>0:=K3;exact GD λm=>by have:=ot.2 m;omega
    let ⟨e1,f⟩:=Xm (qF d) h3 h4;have hz:b6 a=af:=Dr;let ⟨g,i⟩:=Dh a c (aC a/aC c) (aC a%aC c) Ds (by rw[f,h4];rfl);refine aA<|w<|rc J J (oy _ _)<|rc J J (oy _ _)<|s J<|bQ J ?_;rw[g,i];rfl
  .have h3:¬a<0:=by simpa[b6]using h3
   refine s J<|y J (λh4=>by simp at h4)<|λh4=>?_;let ⟨e1,f⟩:=Xl (qF d) h3;have hz:b6 a=ah:=Dr;let ⟨g,i⟩:=Dh a c (aC a/aC c) (aC a%aC c) Ds f;refine aA<|w<|rc J J (oy _ _)<|rc J J (oy _ _)<|s J<|bQ J ?_;rw[g,i];rfl
def XS m(n:m<18446744073709551616):al z 189 [I ao (q m)] (cU m):=by
 refine aR Tryz.func189 ?_;have r:=Gv n;refine N J<|N J<|U<|N J ?_;refine R<|aY (α:=Y) (λi=>⟨[(0,I ao<|q m),(3,cU<|val<|h i<|q m),(6,j<|Z<|q m),(7,j i)],[],4,[]⟩) (λi=>i<=Z (q m)) (λi=>Z (q m)-i) 0 (be _) aH ?_;intro i t;have g:=db (dC m) i;have d:=jF (q m) i;have l:=me<|ix (dC m) i;have p:=k6<|ix (dC m) i;refine N J<|U ?_;refine y J (λa=>?_)<|λa=>?_
 .have a:i<Z (q m):=by have a:(i:O)<(Z (q m):O):=aK a;omega
  have f:Z (h i<|q m)=i:=bX;rw[f]at l;refine aA<|U<|R<|N J<|rt J (hp:=aF)<|aX<|rt J<|aG (i+1) a (G:Z (q m)-(i+1)<Z (q m)-i)<|wk ⟨sR J,sE J ?_,sR J,sR J,e⟩ e;refine bL ?_;have c:i=0\/i=1:=G;rcases c with k|k
  .subst k;show ax .u64 ((iA (c7 .u64) (val<|h 0<|q m)|||iA (c7 .u64) (ax .u64<|ax .u64 (E (q m) 0 0)*2^(min (ae<|((0:Y):O))<|c7 .u64))).toNat:O)=val (h (0+1)<|q m);rw[d,wrap_u64 (E (q m) 0 0) G G,yb _ 0 g.1 G G];have:=Au (E (q m) 0 0*2^0) 0 0 G (by simp[Int.emod_one]) T T G;rw[GK];simp only[val];rw[BitVec.or_comm,this];simp
  .subst k;show ax .u64 ((iA (c7 .u64) (val<|h 1<|q m)|||iA (c7 .u64) (ax .u64<|ax .u64 (E (q m) 1 0)*2^(min (ae<|((32:Y):O))<|c7 .u64))).toNat:O)=val (h (1+1)<|q m);rw[Int.pow_one]at l d;rw[d,wrap_u64 (E (q m) 1 0) G G,yb _ 32 g.1 G G];have:=Au (E (q m) 1 0*2^32) (val<|h 1<|q m) 32 G (Dt _ _) p G G;rw[BitVec.or_comm,this,show(2:O)^32=4294967296 from J];omega
 .have a:i=Z (q m):=by have a:¬(i:O)<(Z (q m):O):=aT a;omega
  subst a;refine a6<|aO<|N J<|bQ J<|bL ?_;rw[fv,dS]
def Lh(K:Y)(m:V (Y×aN)):Prop:=∀t v,o t m=some v->t<K/\∀a∈v.ak,a<K
def Lh.of{K}{m}(a:vF K m=af):Lh K m:=JP a
def QL{d:Type}(t:Y):∀(a c:V (Y×d)),o t (a++c)=(o t a).or (o t c)
 |[],_=>rfl
 | (k,x)::a,c=>by
  simp only[mc,o];split
  .rfl
  .exact QL t a c
def Li(m:Y)(c:Ks):V Ks->Y->Bool
 |[],_=>af
 |a::l,i=>(Nat.testBit m i|| !qt a c)&&Li m c l (i+1)
def Lj:V Y->V Ks->V Ks->Bool
 |m::ms,a::c,done=>Li m a done 0&&Lj ms c (done++[a])
 |[],[],_=>af
 |_,_,_=>ah
def QM(a:V Oper)(c:V Ks):Bool:=Ct a 0&&Lj (oZ a []) c []
def XT(m:Y)(c:Ks):∀(l:V Ks)(i:Y),Li m c l i=zQ m c l i
 |[],_=>rfl
 |a::l,i=>by rw[Li,zQ,XT m c l,Bool.or_comm]
def XU:∀(a:V Y)(c done:V Ks),Lj a c done=vC a c done
 |[],[],_=>rfl
 |[],_::_,_=>rfl
 |_::_,[],_=>rfl
 |m::a,d::c,done=>by rw[Lj,vC,XT,XU a c]
def ajn{c}{a}{d}(f:(!c||QM a d)=af):(!c||rJ a d)=af:=by
 have:QM a d=rJ a d:=by rw[QM,rJ,XU]
 rwa[this]at f
def lr(a:V O):Y->Y
 |0=>0
 |i+1=>lr a i+aC (E a i 0)
def fU(a:V O):Y:=lr a (Z a)*2^(Z a-1)
def qJ:Y->Y->Y->Y->Y->Y
 |0,r,_,_,_=>r
 |f+1,r,a,n,p=>if n=0 then r else qJ f (if n%2=1 then r*a%p else r) (a*a%p) (n/2) p
def s8(a n p:Y):Y:=qJ 64 (1%p) (a%p) n p
def iq(a p:Y):Y:=s8 a (p-2) p
def XV:∀(f r a n p:Y),0<p->r<p->qJ f r a n p<p
 |0,r,_,_,_,_,c=>c
 |f+1,r,a,n,p,hp,c=>by
  unfold qJ;split
  .exact c
  .refine XV f _ _ _ _ hp ?_;split
   .exact fb _ hp
   .exact c
def QN a n p(c:0<p):s8 a n p<p:=XV _ _ _ _ _ c<|fb _ c
def lN(x a:Y):(x:O).tmod (a:O)=((x%a:Y):O):=by rw[kf G];omega
def Du(x a p:Y)(d:x<p)(f:a<p)(c:p<=4294967296):(ax .u64<|(x:O)*(a:O)).tmod (p:O)=((x*a%p:Y):O):=by have h:x*a<18446744073709551616:=iz (Lk d f)<|cj (ls c c) T;rw[<-eU,wrap_u64 _ G G,lN]
def Ay(x:Y)(a:x<18446744073709551616):(ax .u64<|(x:O).tdiv 2)=((x/2:Y):O):=by
 have e:(x:O).tdiv 2=((x/2:Y):O):=by rw[sX G];omega
 rw[e,wrap_u64 _ G G]
def XW(a n p:Y)(L:a<18446744073709551616)(F:n<18446744073709551616)(c:0<p)(v:p<=4294967296):al z 301 [cU a,cU n,cU p] (cU<|s8 a n p):=by
 refine aR Tryz.func301 ?_;refine N J<|U<|N J ?_;refine y J (λh=>?_)<|λh=>?_
 .exfalso;have h:(p:O)=0:=dH;omega
 .have C:(p:O)≠0:=by omega
  refine aA<|N J<|U<|N J<|R<|aY (α:=Y×Y×Y×Y) (λx=>⟨[(0,cU x.2.2.1),(1,cU x.2.2.2),(2,cU p),(7,cU x.2.1)],[],4,[]⟩) (λx=>qJ x.1 x.2.1 x.2.2.1 x.2.2.2 p=s8 a n p/\x.2.2.2<2^x.1/\x.2.1<p/\x.2.2.1<p/\x.2.2.2<18446744073709551616) (λx=>x.2.2.2) (64,1%p,a%p,n) ⟨J,F,fb _ c,fb _ c,F⟩ (wk ⟨sE J ?_,sR J,sR J,sE J ?_,e⟩ e) ?_
  .exact bL<|lN a p
  .exact bL<|lN 1 p
  .rintro⟨f,r,d,m⟩ ⟨i,hm,A,l,k⟩;simp only at i hm A l k;refine U<|N J ?_;refine y J (λt=>?_) (λt=>?_)
   .have t:(m:O)>0:=by simpa using t
    cases f with
    |zero=>rw[py]at hm;omega
    |succ f=>
     have u:m/2<2^f:=by rw[fF]at hm;omega
     rw[qJ,b G]at i
     refine aA<|U<|R<|U<|N J ?_
     refine y J (λg=>?_)<|λg=>?_
     .have g:m%2=1:=by have g:=eq_of_beq g;have H:(m:O).tmod 2=((m%2:Y):O):=lN m 2;have B:(m:O).tmod 2=1:=g;omega
      rw[aq g]at i;refine rt J<|aO<|rt J<|aX<|rt J<|aG (f,r*d%p,d*d%p,m/2) ⟨i,u,fb _ c,fb _ c,Ll⟩ Lm<|wk ⟨sE J ?_,sE J ?_,sR J,sE J ?_,e⟩ e
      .exact bL<|Du d d p l l v
      .exact bL<|Ay m k
      .exact bL<|Du r d p A l v
     .have g:¬m%2=1:=by intro H;have K:(m:O).tmod 2=((m%2:Y):O):=lN m 2;have B:((m:O).tmod 2==1)=ah:=g;rw[(G:(m:O).tmod 2=1)]at B;cases B
      rw[b g]at i;refine aA<|rt J<|aX<|rt J<|aG (f,r,d*d%p,m/2) ⟨i,u,A,fb _ c,Ll⟩ Lm<|wk ⟨sE J ?_,sE J ?_,sR J,sR J,e⟩ e
      .exact bL<|Du d d p l l v
      .exact bL<|Ay m k
   .have t:¬(m:O)>0:=by simpa using t
    have:m=0:=G;subst this;refine a6<|aO<|N J<|bQ J ?_;rw[<-i];cases f with
    |zero=>rfl
    |succ f=>rw[qJ,aq J]
def ajo(a p:Y)(d:a<18446744073709551616)(k:a%p≠0)(f:2<=p)(g:p<=4294967296):al z 291 [cU a,cU p] (.t [(ah,[.I .u64 (iq a p)]),(ah,[.I .i64 0])]):=by
 refine aR Tryz.func291 ?_;have i:(p:O)≠0:=G;refine N J<|U<|w ?_;refine rg 8 J J (λh=>?_)<|λh=>?_
 .exfalso;have h:(p:O)<2:=dH;omega
 .refine s J (y J (λh2=>?_)<|λh2=>?_)
  .exfalso;have h2:(a:O).tmod (p:O)=0:=o0;rw[lN]at h2;omega
  .have e:al z 301 [cU a,.c (num .u64<|(p:O)-2).1,cU p] (cU<|s8 a (p-2) p):=by rw[show(AV.c (num .u64<|(p:O)-2).1)=cU ((p-2:Y):O)from bL<|(wrap_u64 _ G G).trans G];exact XW a (p-2) p d G G g
   exact aA<|bD J J e J<|cx J
def XX{m}(c:Z (q m)<=2):m<18446744073709551616:=by have a:=so (n:=m);have d:(4294967296:O)^2=18446744073709551616:=rfl;have f:(4294967296:O)^1=4294967296:=rfl;have g:(4294967296:O)^0=1:=rfl;rcases(G:Z (q m)=0\/Z (q m)=1\/Z (q m)=2)with e|e|e<;>rw[e]at a<;>omega
def ajp a f(t:Sm a)(A:Sm f):al z 157 [aZ a,aZ f] (aZ ((Int.gcd a f:Y):O)):=by
 refine aR Tryz.func157 ?_;refine N J<|w<|rc J J (wz<|aC a)<|rc J J (K9 _ t)<|rc J J (wz<|aC f)<|rc J J (K9 _ A)<|s J ?_ (ho:=ajn dD);refine U<|R<|aY (α:=Y×Y) (λx=>⟨[(4,.c<|.P 2000 0),(5,I ao<|q x.1),(6,I ao<|q x.2)],[(2000,.box 42 0 [.B ah,.V<|.slice none 0 0])],2,[]⟩) (λx=>Nat.gcd x.1 x.2=Int.gcd a f/\Z (q x.1)<=1099511627776/\Z (q x.2)<=1099511627776) (λx=>x.2) (aC a,aC f) ⟨J,t,A⟩ (wk (bJ J) ⟨bE J J,e⟩) ?_;rintro⟨m,k⟩ ⟨hg,hm,n⟩;simp only at hg hm n;refine U<|N J<|y J (λh=>?_)<|λh=>?_
 .have h:k≠0:=by have h:(Z (q k):O)>0:=aK h;exact ot.1 G
  refine aA<|R<|jk ⟨[(4,.c<|.P 2000 0),(5,I ao<|q m),(6,I ao<|q k)],[(2000,.box 42 0 [.B ah,.V<|.slice none 0 0])],8,[]⟩ ?_<|λg=>w<|rg 25 J J (λi=>s J<|y J (λh2=>?_)<|λh2=>cZ<|dM g<|wk (bJ J) ⟨bE J J,e⟩)<|λi=>s J<|y J (λh2=>oz)<|λh2=>cZ<|dM g<|wk (bJ J) ⟨bE J J,e⟩
  .refine bD J J (XQ m k h hm) J (rt J<|eH<|aG (k,m%k) ⟨?_,n,?_⟩ (fb _ G)<|wk (bJ J) ⟨bE J J,e⟩)
   .show Nat.gcd k (m%k)=_;rw[<-hg,x6 m k,Nat.gcd_rec k m,x6]
   .exact cj (rR<|BO<|fb _ G) n
  .have i:Z (q m)<=2:=by have i:(Z (q m):O)<=2:=aK i;omega
   have h2:Z (q k)<=2:=by have h2:(Z (q k):O)<=2:=aK h2;omega
   have C:=XX i;have F:=XX h2;refine w<|rc J J (XS m C)<|rc J J (XS k F)<|s J ?_;refine U<|R<|aY (α:=Y×Y) (λx=>⟨[(4,.c<|.P 2000 0),(7,cU x.1),(8,cU x.2)],[(2000,.box 42 0 [.B ah,.V<|.slice none 0 0])],10,[]⟩) (λx=>Nat.gcd x.1 x.2=Int.gcd a f/\x.1<18446744073709551616/\x.2<18446744073709551616) (λx=>x.2) (m,k) ⟨hg,C,F⟩ (wk (bJ J) ⟨bE J J,e⟩) ?_;rintro⟨u,v⟩ ⟨l,g2,H⟩;simp only at l g2 H;refine U<|N J<|y J (λd=>?_)<|λd=>?_
   .have d:0<v:=by have d:(v:O)>0:=aK d;omega
    have p:=fb u d;refine aA<|R<|rt J (eH<|aG (v,u%v) ⟨?_,H,by show u%v<_;omega⟩ p<|wk ⟨sR J,sR J,sE J ?_,e⟩ ⟨bE J J,e⟩) (hp:=?_)
    .show Nat.gcd v (u%v)=_;rw[<-l,x6 u v,Nat.gcd_rec v u,x6]
    .exact bL<|lN u v
    .simp only[Pr.an,Pr.h,num,fR,true_and,and_true];omega
   .have d:v=0:=by have d:¬(v:O)>0:=aT d;omega
    subst d;rw[KM]at l;subst l;refine a6<|aO<|w<|rc J J (K7 _ g2)<|rc J J (oy ah _)<|s J<|bI ?_;repeat(first|refine cA ?_|refine jJ ?_|refine kd ?_)
    exact atR J
 .have h:k=0:=by have h:¬(Z (q k):O)>0:=aT h;exact GD λr=>by have:=ot.2 r;omega
  subst h;rw[KM]at hg;subst hg;exact a6<|aO<|bD J J (oy ah _) J<|cx J
def aP(xs:V O)(p:O):AV:= .a [.S au xs,.I .u64 p]
def XY{a}{k}(c:fq a k=fq a (Z a))(d:k=0\/E a (k-1) 0≠0):h k a=aS a:=by
 unfold aS;rw[<-c];cases k with
 |zero=>rfl
 |succ k=>
  rcases d with d|d
  .omega
  .simp only[dE]at d;simp only[fq,d,bN]
def XZ ws p(i:Z ws<=1000000):al z 263 [aP ws p] (aP (aS ws) p):=by
 refine aR Tryz.func263 ?_;refine N J<|N J ?_;refine U<|R<|aY (α:=Y) (λk=>⟨[(1,.c<|.P 0 0),(2,.c<|.P 1000 0),(3,j k)],[(0,.box 221 0 [.S au ws,.I .u64 p]),(1000,.box 221 0 [.V (.slice none 0 0),.I .u64 0])],2,[]⟩) (λk=>k<=Z ws/\fq ws k=fq ws (Z ws)) (λk=>k) (Z ws) ⟨a7 _,J⟩ (wk (bJ J) ⟨bE J J,bE J J,e⟩) ?_;rintro k ⟨l,a⟩;refine U<|w ?_;refine rg 9 J J (λh=>?_)<|λh=>?_
 .simp at h;refine s J (y J (λd=>?_)<|λd=>?_)
  .refine aA (R<|rt J<|eH<|aG (k-1) ⟨G,?_⟩ (G:k-1<k)<|wk ⟨sR J,sR J,sE J ?_,e⟩ ⟨bE J J,bE J J,e⟩)
   .rw[<-a];obtain⟨f,rfl⟩:∃f,k=f+1:=⟨k-1,G⟩;have g:E ws f 0=0:=by have:ae (((f+1:Y):O)-1)=f:=G;simpa[this]using d
    simp only[dE,fq,g,b9]
   .congr 2;omega
  .refine a6<|aO<|N J<|bQ J ?_;refine a8 (aP · p) ?_;rw[<-XY a (.inr ?_)]
   .simp
   .have:ae ((k:O)-1)=k-1:=by omega
    simpa[this]using d
 .simp at h;subst h;refine s J<|y J (λd=>by simp at d)<|λ_=>?_;refine a6<|aO<|N J<|bQ J ?_;exact a8 (aP · p)<|XY a<|.inl J
def rp(p:O)(r:V O):Prop:=∀i,0<=E r i 0/\E r i 0<p
def Ln{p}{r}(a:rp p r) i{x}(c:0<=x)(d:x<p):rp p (r.set i x):=by
 intro j;have:=a j;simp only[aV,P9]at this⊢;split
 .split
  .exact⟨c,d⟩
  .rename_i f g;simp only[Option.getD_none];exact⟨eO _,G⟩
 .exact this
def QO{p}(a:0<p) n:rp p (bp n 0):=by
 intro j;simp only[aV,ln];split
 .exact⟨eO _,a⟩
 .exact⟨eO _,a⟩
def qK(a d:V O)(p:O)(i:Y):Y->V O->V O
 |0,r=>r
 |c+1,r=>(qK a d p i c r).set (i+c)<|(E (qK a d p i c r) (i+c) 0+E a i 0*E d c 0)%p
def lO(a c:V O)(p:O):Y->V O
 |0=>bp (Z a+Z c-1) 0
 |i+1=>qK a c p i (Z c)<|lO a c p i
def GL(a d:V O)(p:O)(i:Y)(r:V O):∀c,Z (qK a d p i c r)=Z r
 |0=>rfl
 |c+1=>by rw[qK,rH,GL a d p i r c]
def GM(a c:V O)(p:O):∀i,Z (lO a c p i)=Z a+Z c-1
 |0=>by simp[lO]
 |i+1=>by rw[lO,GL,GM a c p i]
def Lo{a b:V O}{p:O}(d:0<p)(i:Y){r:V O}(f:rp p r):∀c,rp p (qK a b p i c r)
 |0=>f
 |c+1=>Ln (Lo d i f c) _ (g6 _ G)<|g7 _ d
def GN(a d:V O){p:O}(c:0<p):∀i,rp p (lO a d p i)
 |0=>QO c _
 |i+1=>Lo c i (GN a d c i) _
def cG(a c:V O)(p:O):V O:=if a=[]\/c=[]then[]else aS (lO a c p<|Z a)
def X0 x a c p(i:0<=x/\x<p)(f:0<=a/\a<p)(d:0<=c/\c<p)(k:p<=2147483648):(ax .u64<|x+ax .u64 (a*c)).tmod p=(x+a*c)%p:=by have g:0<=a*c:=iL f.1 d.1;have l:a*c<=2147483648*2147483648:=vj G G d.1 G;rw[wrap_u64 (a*c) g G,wrap_u64 _ G G,kf G]
def bf.trans{x a c}(d:bf x a)(k:bf a c):bf x c:=⟨λg v e=>k.1 g v<|d.1 g v e,λf e=>d.2 f<|k.2 f e⟩
def bf.a2{x k l}(f:bf (.c x) (.c k)):bf (.a [x,l]) (.a [k,l]):=by
 refine⟨?_,?_⟩
 .rintro g v ⟨vs,rfl,v1,r,rfl,m,i⟩;exact⟨_,J,v1,r,J,f.1 g v1 m,i⟩
 .intro n d;have i:=f.2 n;simp only[AV.ak,b7,gO,bg]at d i⊢;exact d.elim (λf=> .inl<|i f) .inr
def ajq a b p(F:Z a<=1000)(H:Z b<=1000)(k:0<p)(r:p<=2147483648)(t:rp p a)(u:rp p b):al z 292 [aP a p,aP b p] (aP (cG a b p) p):=by
 refine aR Tryz.func292 ?_;refine N J<|U<|w ?_;have l:a=[]\/b=[]->aP [] p=aP (cG a b p) p:=λh=>by rw[cG,aq h]
 refine rg 12 J J (λh=>?_)<|λh=>?_
 .have h:a=[]:=by simpa using h
  refine s J (y J (λd=>?_)<|λd=>by simp at d);exact N J<|bI<|cA<|gZ cq J<|bf.trans (bf.a2<|bf.nil au)<|bf.of_eq<|l<|.inl h
 .have h:a≠[]:=by simpa using h
  refine s J<|y J (λd=>?_)<|λd=>?_
  .have d:b=[]:=by simpa using d
   exact N J<|bI<|cA<|gZ cq J<|bf.trans (bf.a2<|bf.nil au)<|bf.of_eq<|l<|.inr d
  .have d:b≠[]:=by simpa using d
   have C:=cQ.2 h;have K:=cQ.2 d;refine aA<|w ?_;refine rm au (Z a+Z b-1) J J J J J J (lM .u64) G ?_ ?_ ?_
   .show _*8<=_;omega
   .show _*1<=_;omega
   refine s J<|U<|N J ?_;refine R<|aY (α:=Y) (λi=>⟨[(2,.c<|.P 0 0),(3,.c<|.P 1000 0),(4,.c<|.P 2000 0),(5,.c<|.X 2008000),(32,cI<|Z a),(33,cI i)],[(0,.box 221 0 [.S au a,.I .u64 p]),(1000,.box 221 0 [.S au b,.I .u64 p]),(2000,.box 221 0 [.V (.slice none 0 0),.I .u64 0]),(2008000,.vec 150 au<|lO a b p i)],4,[]⟩) (λi=>i<=Z a) (λi=>Z a-i) 0 (be _) (wk (bJ J) ⟨bE J J,bE J J,bE J J,bE J J,e⟩) ?_;intro i L;have v:=GM a b p i;refine N J<|U ?_;refine y J (λf=>?_)<|λf=>?_
   .have f:i<Z a:=by simpa using f
    refine aA<|U<|R<|N J<|N J ?_;refine R<|aY (α:=Y) (λj=>⟨[(2,.c<|.P 0 0),(3,.c<|.P 1000 0),(4,.c<|.P 2000 0),(5,.c<|.X 2008000),(6,cI i),(32,cI<|Z a),(33,cI i),(38,cI<|Z b),(39,cI j)],[(0,.box 221 0 [.S au a,.I .u64 p]),(1000,.box 221 0 [.S au b,.I .u64 p]),(2000,.box 221 0 [.V (.slice none 0 0),.I .u64 0]),(2008000,.vec 150 au<|qK a b p i j<|lO a b p i)],7,[]⟩) (λj=>j<=Z b) (λj=>Z b-j) 0 (be _) (wk (bJ J) ⟨bE J J,bE J J,bE J J,bE J J,e⟩) ?_;intro j M;have x:=GL a b p i (lO a b p i) j;refine N J<|U ?_;refine y J (λg=>?_)<|λg=>?_
    .have g:j<Z b:=by simpa using g
     have A:=t i;have B:=u j;have gr:=Lo k (a:=a) (b:=b) i (GN a b k i) j<|i+j;have n:ae ((i:O)+(j:O))=i+j:=G;refine aA<|U<|R<|N J<|rt J ?_ (hp:=jK);refine aX<|rt J<|aG (j+1) g QP<|wk (bJ J) ⟨bE J J,bE J J,bE J J,bE J ?_,e⟩;rw[qK,n,<-X0 _ _ _ p gr A B r];rfl
    .have g:¬j<Z b:=by simpa using g
     have m:j=Z b:=G;subst m;refine a6<|aX<|rt J<|aG (i+1) f oq<|wk (bJ J) ⟨bE J J,bE J J,bE J J,bE J J,e⟩
   .have f:¬i<Z a:=by simpa using f
    have m:i=Z a:=G;subst m;refine a6<|aO<|c6 2008000 J J J<|bD J J (XZ (lO a b p<|Z a) p G) J<|bQ J ?_;rw[cG,hY<|λm=>m.elim h d];rfl
def ajr(x:O)(a:V O)(c:Z a<=1000000):nO z 290 [I au (x::a)] 150 au (x::a):=by
 refine Gd Tryz.func290 J J J J T ?_;refine N J<|U<|w<|rx J J e<|s J ?_;refine y J (λh=>by simp at h)<|λh=>?_;refine aA<|w<|fg au [] J J (ra J J J J J J J J J ?_ ?_<|s J<|bI<|Gc (id:=2002000) cq J J)
 .show(_+(_+1)+(_+(_+1))/4+192)*8<=_;simp only[m7];omega
 .show(_+(_+1))*1<=_;simp only[m7];omega
def ajs ws p(a:Z ws<=1000000):al z 232 [aP ws p] (j<|(Z ws:O)-1):=by refine aR Tryz.func232 ?_;exact N J<|N J<|cx J
def s'(d:V O)(p c:O)(i:Y):Y->V O->V O
 |0,r=>r
 |a+1,r=>(s' d p c i a r).set (i+a)<|(E (s' d p c i a r) (i+a) 0+(p-c)*E d a 0)%p
def gL(a c:V O)(p v:O)(m n:Y):Y->V O×V O
 |0=>(bp m 0,a)
 |k+1=>((gL a c p v m n k).1.set (m-(k+1))<|(gL a c p v m n k).2.getD (m-(k+1)+n) 0*v%p,s' c p ((gL a c p v m n k).2.getD (m-(k+1)+n) 0*v%p) (m-(k+1)) (Z c) (gL a c p v m n k).2)
def Lp(d:V O)(p c:O)(i:Y)(r:V O):∀a,Z (s' d p c i a r)=Z r
 |0=>rfl
 |a+1=>by rw[s',rH,Lp d p c i r a]
def QQ{b:V O}{p c:O}(d:0<p)(i:Y){r:V O}(f:rp p r):∀a,rp p (s' b p c i a r)
 |0=>f
 |a+1=>Ln (QQ d i f a) _ (g6 _ G)<|g7 _ d
def Lq(a c:V O)(p v:O)(m n:Y):∀k,(gL a c p v m n k).1.length=m/\(gL a c p v m n k).2.length=Z a
 |0=>by simp[gL]
 |k+1=>by have:=Lq a c p v m n k;simp only[gL,rH,Lp];exact this
def QR{a:V O}(d:V O){p:O}(v:O)(m n:Y)(c:0<p)(f:rp p a):∀k,rp p (gL a d p v m n k).1/\rp p (gL a d p v m n k).2
 |0=>⟨QO c _,f⟩
 |k+1=>by have g:=QR d v m n c f k;exact⟨Ln g.1 _ (g6 _ G)<|g7 _ c,QQ c _ g.2 _⟩
def aU(a c:V O)(p:O):V O×V O:=
 if Z a<=Z c-1 then([],a)
 else(λx=>(x.1,aS<|h (Z c-1) x.2)) (gL a c p (iq (ae<|E c (Z c-1) 0) (ae p):Y) (Z a-(Z c-1)) (Z c-1)<|Z a-(Z c-1))
def ajt x a c p(i:0<=x/\x<p)(f:0<=a/\a<=p)(d:0<=c/\c<p)(k:p<=2147483648):(ax .u64<|x+ax .u64 (a*c)).tmod p=(x+a*c)%p:=by have g:0<=a*c:=iL f.1 d.1;have l:a*c<=2147483648*2147483648:=vj G G d.1 G;rw[wrap_u64 (a*c) g G,wrap_u64 _ G G,kf G]
def X2 a c p(f:0<=a/\a<p)(d:0<=c/\c<p)(i:p<=2147483648):(ax .u64<|a*c).tmod p=a*c%p:=by have g:0<=a*c:=iL f.1 d.1;have k:a*c<=2147483648*2147483648:=vj G G d.1 G;rw[wrap_u64 (a*c) g G,kf G]
def X3 a p(c:0<=a/\a<p)(f:a≠0)(d:2<=p)(g:p<=2147483648):al z 291 [cU a,cU p] (.t [(ah,[.I .u64 (iq (ae a) (ae p):Y)]),(ah,[.I .i64 0])]):=by have h:=ajo (ae a) (ae p) G (by rw[ou G];omega) G G;rwa[ui c.1,ui (by omega:0<=p)]at h
def bf.ta{x f i}{r}(k:bf (.c x) (.c f)):bf (.t<|(af,[x,i])::r) (.t<|(af,[f,i])::r):=by
 refine⟨?_,?_⟩
 .rintro g v ⟨vs,rfl,v1,r1,rfl,⟨us,rfl,v2,l,rfl,m,d⟩,n⟩;exact⟨_,J,_,_,J,⟨_,J,v2,l,J,k.1 g v2 m,d⟩,n⟩
 .intro p a;have d:=k.2 p;simp only[AV.ak,fP,b7,gO,bg]at a d⊢;rcases a with(a|a)|a
  .exact .inl<|.inl<|d a
  .exact .inl<|.inr a
  .exact .inr a
def aju x a' b p{a}(ea:a=x::a')(la:Z a<=1000)(lb:Z b<=1000)(B:2<=p)(F:p<=2147483648)(ha:rp p a)(hb:rp p b)(H:b≠[])(l:E b (Z b-1) 0≠0):al z 264 [aP a p,aP b p] (.t [(af,[.S au (aU a b p).1,.I .u64 p]),(af,[.S au (aU a b p).2,.I .u64 p])]):=by
 refine aR Tryz.func264 ?_;have T:p≠0:=G;have pb:=cQ.2 H;have C:nO z 290 [I au a] 150 au a:=by rw[ea]at la⊢;exact ajr x a' (by simp at la;omega)
 refine N J<|w<|Ai J J C<|s J<|bD J J (ajs b p G) J<|U<|N J ?_;refine y J (λh=>?_)<|λh=>?_
 .have h:Z a<=Z b-1:=by have h:(Z a:O)<=(Z b:O)-1:=dH;omega
  have f:aU a b p=([],a):=by rw[aU,aq h]
  rw[f];refine N J<|bI<|cA<|gZ cq J ?_;exact bf.ta<|bf.nil au
 .have h:¬Z a<=Z b-1:=by have h:¬(Z a:O)<=(Z b:O)-1:=dH;omega
  obtain⟨n,q⟩:∃n,Z b=n+1:=⟨Z b-1,G⟩;obtain⟨m,hm⟩:∃m,Z a=n+m:=⟨Z a-n,G⟩;have f:aU a b p=((gL a b p (iq (ae<|E b n 0) (ae p):Y) m n m).1,aS<|(gL a b p (iq (ae<|E b n 0) (ae p):Y) m n m).2.take n):=by rw[aU,hY h,q,hm,dE,GO]
  rw[f];rw[q,dE]at l;have en:(Z b:O)-1=(n:O):=G;generalize D:(iq (ae<|E b n 0) (ae p):Y)=v;have K:(0:O)<=(v:O)/\(v:O)<p:=by have:=QN (ae<|E b n 0) (ae p-2) (ae p) G;unfold iq at D;omega
  rw[en];have d:=X3 (E b n 0) p (hb n) l B F;rw[D]at d;refine aA<|bD J J d J<|w ?_;refine rm au m J J J J J J (lM .u64) G ?_ ?_ ?_
  .show _*8<=_;omega
  .show _*1<=_;omega
  refine s J<|U<|N J ?_;refine R<|aY (α:=Y) (λk=>⟨[(2,.c<|.P 0 0),(3,.c<|.P 1000 0),(4,.c<|.P 2000 0),(5,.c<|.P 3000 0),(6,.c<|.X 1002000),(7,cI n),(8,cU v),(10,.c<|.X 5004000),(11,cI<|(m:O)-1-k)],[(0,.box 221 0 [.S au a,.I .u64 p]),(1000,.box 221 0 [.S au b,.I .u64 p]),(2000,.box 221 0 [.V (.slice none 0 0),.I .u64 0]),(3000,.box 221 0 [.V (.slice none 0 0),.I .u64 0]),(1002000,.vec 150 au (gL a b p v m n k).2),(5004000,.vec 150 au (gL a b p v m n k).1)],7,[]⟩) (λk=>k<=m) (λk=>m-k) 0 (be _) (wk ⟨sR J,sR J,sR J,sR J,sR J,sR J,sR J,sR J,sE J ?_,e⟩ ⟨bE J J,bE J J,bE J J,bE J J,bE J J,bE J J,e⟩) ?_
  .exact a8 cI (by simp only[fE];omega)
  intro k hk;have L:=Lq a b p v m n k;have r:=QR b v m n G ha k;refine U<|N J ?_;refine y J (λh3=>?_)<|λh3=>?_
  .have h3:k<m:=by have h3:(m:O)-1-k>=0:=zD;omega
   obtain⟨i,hi⟩:∃i,m=i+(k+1):=⟨m-(k+1),G⟩;have ei:(m:O)-1-k=(i:O):=G;have u:m-(k+1)=i:=G;rw[ei];have M:ae ((i:O)+(n:O))=i+n:=G;generalize hc:(gL a b p v m n k).2.getD (i+n) 0*v%p=c;have vV:0<=c/\c<p:=by rw[<-hc];exact⟨g6 _ G,g7 _ G⟩
   have Q:=r.2<|i+n;refine aA<|U<|R<|N J (hp:=jK)<|N J ?_;refine R<|aY (α:=Y) (λj=>⟨[(2,.c<|.P 0 0),(3,.c<|.P 1000 0),(4,.c<|.P 2000 0),(5,.c<|.P 3000 0),(6,.c<|.X 1002000),(7,cI n),(8,cU v),(10,.c<|.X 5004000),(11,cI i),(65,cI<|Z b),(66,cI j)],[(0,.box 221 0 [.S au a,.I .u64 p]),(1000,.box 221 0 [.S au b,.I .u64 p]),(2000,.box 221 0 [.V (.slice none 0 0),.I .u64 0]),(3000,.box 221 0 [.V (.slice none 0 0),.I .u64 0]),(1002000,.vec 150 au<|s' b p c i j (gL a b p v m n k).2),(5004000,.vec 150 au<|(gL a b p v m n k).1.set i c)],10,[]⟩) (λj=>j<=Z b) (λj=>Z b-j) 0 (be _) (wk (bJ J) ⟨bE J J,bE J J,bE J J,bE J J,bE J J,bE J ?_,e⟩) ?_
   .rw[<-hc,<-X2 _ _ p Q K F,<-M];rfl
   intro j hj;have hlj:=Lp b p c i (gL a b p v m n k).2 j;have W:=QQ (b:=b) (p:=p) (c:=c) G i r.2 j<|i+j;refine N J<|U ?_;refine y J (λg=>?_)<|λg=>?_
   .have g:j<Z b:=by simpa using g
    have gb:=hb j;have o:ae ((i:O)+(j:O))=i+j:=G;have A:E ((gL a b p v m n k).1.set i c) i 0=c:=by rw[aV,List.getElem?_set_self G];rfl
    have X4:Z ((gL a b p v m n k).1.set i c)=m:=by rw[rH];exact L.1
    refine aA<|U<|R<|N J<|rt J ?_ (hp:=jK);refine aX<|rt J<|aG (j+1) g QP<|wk (bJ J) ⟨bE J J,bE J J,bE J J,bE J J,bE J ?_,bE J J,e⟩;rw[s',o,<-ajt _ (p-c) _ p W G gb F];have e2:ax .u64 (p-E ((gL a b p v m n k).1.set i c) (ae (i:O)) 0)=p-c:=by rw[bW,A,wrap_u64 _ G G]
    rw[<-e2];rfl
   .have g:¬j<Z b:=by simpa using g
    have f:j=Z b:=G;subst f;refine a6<|aX<|rt J<|aG (k+1) h3 (G:m-(k+1)<m-k)<|wk ⟨sR J,sR J,sR J,sR J,sR J,sR J,sR J,sR J,sE J ?_,e⟩ ⟨bE J J,bE J J,bE J J,bE J J,bE J ?_,bE J ?_,e⟩
    .exact a8 cI G
    .rw[gL,u,hc]
    .rw[gL,u,hc]
  .have h3:¬k<m:=by have h3:¬(m:O)-1-k>=0:=zD;omega
   have f:k=m:=G;subst f;refine a6<|aO<|c6 1002000 J J J<|c6 5004000 J J J<|bD J J (XZ ((gL a b p v k n k).2.take n) p GJ) J<|cx J
def sm(f:Y->O):Y->O
 |0=>0
 |k+1=>sm f k+f k
def Lr(A B:Y->O)(n:Y):∀k,jL A B n k=sm (λi=>A i*B (n-i)) k
 |0=>rfl
 |k+1=>by rw[jL,sm,Lr A B n k]
def fM{f g:Y->O}:∀{k:Y},(∀i,i<k->f i=g i)->sm f k=sm g k
 |0,_=>rfl
 |k+1,a=>by rw[sm,sm,fM<|λi c=>a i G,a k G]
def pB{f:Y->O}{k}(a:∀i,i<k->f i=0):sm f k=0:=by
 induction k with
 |zero=>rfl
 |succ k c=>rw[sm,c<|λi d=>a i G,a k G];rfl
def Ls(f g:Y->O):∀k,sm (λi=>f i+g i) k=sm f k+sm g k
 |0=>rfl
 |k+1=>by simp only[sm,Ls f g k];omega
def yf(c:O)(f:Y->O):∀k,sm (λi=>c*f i) k=c*sm f k
 |0=>by simp[sm]
 |k+1=>by simp only[sm,yf c f k,nD]
def QT c(f:Y->O) k:sm (λi=>f i*c) k=sm f k*c:=by rw[ef,<-yf];exact fM<|λi _=>ef _ _
def X5(f:Y->O):∀k,sm f (k+1)=f 0+sm (λi=>f<|i+1) k
 |0=>by simp[sm]
 |k+1=>by rw[sm,X5 f k,sm];omega
def X6(f:Y->O):∀k,sm f k=sm (λi=>f<|k-1-i) k
 |0=>rfl
 |k+1=>by rw[sm,X6 f k,X5<|λi=>f<|k+1-1-i];have:sm (λi=>f<|k+1-1-(i+1)) k=sm (λi=>f<|k-1-i) k:=fM (λi _=>by congr 1;omega);rw[this,(G:k+1-1-0=k)];omega
def X7(F:Y->Y->O):∀n,sm (λi=>sm (λa=>F i a)<|i+1) n=sm (λa=>sm (λk=>F (a+k) a)<|n-a) n
 |0=>rfl
 |n+1=>by
  rw[sm,X7 F n];have c:sm (λa=>sm (λk=>F (a+k) a)<|n+1-a) n=sm (λa=>sm (λk=>F (a+k) a) (n-a)+F n a) n:=by refine fM<|λa d=>?_;rw[(G:n+1-a=(n-a)+1),sm,(G:a+(n-a)=n)]
  rw[show sm (λa=>sm (λk=>F (a+k) a)<|n+1-a) (n+1)=sm (λa=>sm (λk=>F (a+k) a)<|n+1-a) n+sm (λk=>F (n+k) n) (n+1-n)from J,c,Ls];rw[(G:n+1-n=1),show sm (λa=>F n a) (n+1)=sm (λa=>F n a) n+F n n from J,show sm (λk=>F (n+k) n) 1=0+F (n+0) n from J,jd];have f:sm (λa=>F n a) n=sm (F n) n:=rfl;omega
def PS:Type:=Y->O
namespace PS
instance:Add PS:=⟨λA B i=>A i+B i⟩
instance:Mul PS:=⟨λA B=>conv A B⟩
instance:Neg PS:=⟨λA i=> -(A i)⟩
instance:_root_.Sub PS:=⟨λA B i=>A i-B i⟩
instance:OfNat PS 0:=⟨λ_=>(0:O)⟩
instance:OfNat PS 1:=⟨λi=>if i=0 then(1:O)else 0⟩
def K(c:O):PS:=λi=>if i=0 then c else 0
def X(k:Y):PS:=λi=>if i=k then 1 else 0
def ext{A B:PS}(a:∀i,A i=B i):A=B:=funext a
def eI(A B:PS) i:(A+B) i=A i+B i:=rfl
def GP(A:PS) i:(-A) i= -(A i):=rfl
def yg(A B:PS) i:(A-B) i=A i-B i:=rfl
def lP i:(0:PS) i=0:=rfl
def eW(A B:PS) n:(A*B) n=sm (λi=>A i*B (n-i)) (n+1):=Lr A B n<|n+1
def add_comm(A B:PS):A+B=B+A:=ext λi=>uo _ _
def add_assoc(A B C:PS):A+B+C=A+(B+C):=ext λi=>Int.add_assoc _ _ _
def zero_add(A:PS):0+A=A:=ext λi=>Aw _
def add_zero(A:PS):A+0=A:=ext λi=>qE _
def add_neg(A:PS):A+ -A=0:=ext λi=>Int.add_right_neg _
def X8(A:PS): -A+A=0:=ext λi=>Int.add_left_neg _
def sub_def(A B:PS):A-B=A+ -B:=ext λi=>QA
def neg_zero: -(0:PS)=0:=rfl
def neg_add(A B:PS): -(A+B)= -A+ -B:=ext λi=>Int.neg_add
def mul_comm(A B:PS):A*B=B*A:=by
 refine ext λn=>?_
 rw[eW,eW,X6];refine fM<|λi a=>?_;rw[ef];congr 1<;>congr 1<;>omega
def mul_add(A B C:PS):A*(B+C)=A*B+A*C:=by
 refine ext λn=>?_
 rw[eI,eW,eW,eW,<-Ls];exact fM (λi _=>by rw[eI,nD])
def add_mul(A B C:PS):(A+B)*C=A*C+B*C:=by rw[mul_comm,mul_add,mul_comm C A,mul_comm C B]
def mul_assoc(A B C:PS):A*B*C=A*(B*C):=by
 refine ext λn=>?_
 rw[eW,eW];have a:sm (λi=>(A*B) i*C (n-i)) (n+1)=sm (λi=>sm (λj=>A j*B (i-j)*C (n-i))<|i+1) (n+1):=fM (λi _=>by rw[eW,QT]);rw[a,X7<|λi j=>A j*B (i-j)*C (n-i)];refine fM<|λj c=>?_;rw[eW,<-yf,(G:n+1-j=n-j+1)];refine fM<|λk d=>?_;rw[iy,(G:j+k-j=k),(G:n-(j+k)=n-j-k)]
def mul_zero(A:PS):A*0=0:=by
 refine ext λn=>?_
 rw[eW];exact pB (λi _=>by rw[lP,gn])
def zero_mul(A:PS):0*A=0:=by rw[mul_comm,mul_zero]
def mG k A i:(X k*A) i=if k<=i then A (i-k)else 0:=by
 rw[eW];by_cases h:k<=i
 .rw[aq h];have e:sm (λj=>X k j*A (i-j)) (i+1)=X k k*A (i-k):=by have:=K6 (X k) A i k (i+1) G (λj _ a=>by simp[X,a]);exact(Lr (X k) A i<|i+1).symm.trans this
  rw[e];simp[X]
 .rw[b h];exact pB (λj a=>by simp[X,(G:j≠k)])
def eX c A i:(K c*A) i=c*A i:=by rw[eW];have:=K6 (K c) A i 0 (i+1) G (λj _ a=>by simp[K,a]);rw[show sm (λj=>K c j*A (i-j)) (i+1)=K c 0*A (i-0)from(Lr (K c) A i<|i+1).symm.trans this];simp[K]
def GQ:(1:PS)=K 1:=rfl
def nP:K 0=0:=ext λi=>by simp[K,lP]
def one_mul(A:PS):1*A=A:=ext λi=>by rw[GQ,eX,jS]
def mul_one(A:PS):A*1=A:=by rw[mul_comm,one_mul]
def neg_eq A: -A=K (-1)*A:=ext λi=>by rw[eX,GP];omega
def neg_mul(A B:PS): -A*B= -(A*B):=by rw[neg_eq,neg_eq<|A*B,mul_assoc]
def mul_neg(A B:PS):A* -B= -(A*B):=by rw[mul_comm,neg_mul,mul_comm B A]
def Az a c:K (a+c)=K a+K c:=ext λi=>by rw[eI];unfold K;split<;>rfl
def yh a c:K (a*c)=K a*K c:=ext λi=>by rw[eX];unfold K;split<;>simp
def Lt a k:X (a+k)=X a*X k:=ext λi=>by
 rw[mG];unfold X;by_cases h:a<=i
 .rw[aq h];by_cases h2:i=a+k
  .rw[aq h2,aq G]
  .rw[b h2,b G]
 .rw[b h,b G]
instance:Std.Associative (α:=PS) (·+·):=⟨add_assoc⟩
instance:Std.Commutative (α:=PS) (·+·):=⟨add_comm⟩
instance:Std.Associative (α:=PS) (·*·):=⟨mul_assoc⟩
instance:Std.Commutative (α:=PS) (·*·):=⟨mul_comm⟩
end PS
def ps(a:V O):PS:=λi=>E a i 0
def cw a i:ps a i=E a i 0:=rfl
def Cg(m:O)(A B:PS):Prop:=∃U:PS,A=B+PS.K m*U
def Cg.at{m}{A B}(a:Cg m A B) i:A i%m=B i%m:=by obtain⟨U,rfl⟩:=a;rw[PS.eI,PS.eX];exact K0 _ _ _
def Cg.of{m}{A B}(a:∀i,A i%m=B i%m):Cg m A B:=by
 let U:PS:=λi=>A i/m-B i/m
 refine⟨U,PS.ext λi=>?_⟩;have c:=nc (A i) m;have d:=nc (B i) m;have:=a i;have e:U i=A i/m-B i/m:=rfl;rw[PS.eI,PS.eX,e,Dk];omega
def Cg.dvd{m}{A B}(a:Cg m A B) i:m∣A i-B i:=by obtain⟨U,rfl⟩:=a;rw[PS.eI,PS.eX];exact⟨U i,G⟩
def Cg.QU{m}{A B}(a:∀i,m∣A i-B i):Cg m A B:=Cg.of λi=>QV.2<|AA<|a i
def Cg.refl m A:Cg m A A:=⟨0,by rw[PS.mul_zero,PS.add_zero]⟩
def Cg.of_eq{m}{A B}(a:A=B):Cg m A B:=a▸Cg.refl m A
def Cg.symm{m}{A B}(a:Cg m A B):Cg m B A:=Cg.of λi=>(a.at i).symm
def Cg.trans{m}{A B C}(a:Cg m A B)(k:Cg m B C):Cg m A C:=Cg.of λi=>(a.at i).trans<|k.at i
def Cg.add{m}{A B C a}(c:Cg m A B)(k:Cg m C a):Cg m (A+C) (B+a):=by obtain⟨U,rfl⟩:=c;obtain⟨V,rfl⟩:=k;exact⟨U+V,by rw[PS.mul_add];ac_rfl⟩
def Cg.neg{m}{A B}(a:Cg m A B):Cg m (-A) (-B):=by obtain⟨U,rfl⟩:=a;exact⟨-U,by rw[PS.neg_add,PS.mul_neg]⟩
def Cg.sub{m}{A B C a}(c:Cg m A B)(k:Cg m C a):Cg m (A-C) (B-a):=by rw[PS.sub_def,PS.sub_def];exact c.add k.neg
def Cg.mul{m}{A B C a}(c:Cg m A B)(k:Cg m C a):Cg m (A*C) (B*a):=by obtain⟨U,rfl⟩:=c;obtain⟨V,rfl⟩:=k;refine⟨B*V+U*a+PS.K m*U*V,?_⟩;simp only[PS.mul_add,PS.add_mul];ac_rfl
def Cg.GR{m}A{C a}(k:Cg m C a):Cg m (A*C) (A*a):=(Cg.refl m A).mul k
def Cg.AB{m}{A B}(k:Cg m A B) C:Cg m (A*C) (B*C):=k.mul<|Cg.refl m C
def Cg.X9{m}A{C a}(k:Cg m C a):Cg m (A+C) (A+a):=(Cg.refl m A).add k
def Cg.Dv{m}{A B}(k:Cg m A B) C:Cg m (A+C) (B+C):=k.add<|Cg.refl m C
def Cg.K{m a c}(d:a%m=c%m):Cg m (PS.K a) (PS.K c):=Cg.of λi=>by
 unfold PS.K;split
 .exact d
 .rfl
def Dl(p:O)(n:Y)(A:PS):Prop:=∀i,n<=i->A i%p=0
def Dl.cg{p}{n}{A B}(a:Dl p n A)(k:Cg p A B):Dl p n B:=λi c=>by rw[<-k.at i];exact a i c
def Dl.le{p}{n m}{A}(a:Dl p n A)(k:n<=m):Dl p m A:=λi c=>a i G
def Dl.add{p}{n}{A B}(c:Dl p n A)(k:Dl p n B):Dl p n (A+B):=λi a=>by rw[PS.eI,GS,c i a,k i a];rfl
def Dl.neg{p}{n}{A}(a:Dl p n A):Dl p n (-A):=λi c=>by rw[PS.GP];exact AA<|Int.dvd_neg.2<|Dw<|a i c
def Dl.sub{p}{n}{A B}(a:Dl p n A)(k:Dl p n B):Dl p n (A-B):=by rw[PS.sub_def];exact a.add k.neg
def X'{p}{f:Y->O}{k}(a:∀i,i<k->f i%p=0):sm f k%p=0:=by
 induction k with
 |zero=>exact gw _
 |succ k c=>rw[sm,GS,c<|λi d=>a i G,a k G];rfl
def Lu{p a c:O}(d:a%p=0):a*c%p=0:=by rw[pC,d,mD,gw]
def Lv{p a c:O}(d:c%p=0):a*c%p=0:=by rw[ef];exact Lu d
def Dl.mul{p}{n m}{A B}(c:Dl p (n+1) A)(k:Dl p m B):Dl p (n+m) (A*B):=λi d=>by
 rw[PS.eW];refine X'<|λj f=>?_;by_cases a:n+1<=j
 .exact Lu<|c j a
 .exact Lv<|k (i-j) G
def Dl.mul'{p}{n m}{A B}(a:Dl p n A)(k:Dl p m B):Dl p (n+m) (A*B):=by
 cases n with
 |zero=>
  intro i c
  rw[PS.eW]
  exact X'<|λj d=>Lu<|a j<|be _
 |succ n=>exact(a.mul k).le G
def Dl.top{p}{n m}{A B}(c:Dl p (n+1) A)(k:Dl p (m+1) B):(A*B) (n+m)%p=A n*B m%p:=by
 rw[PS.eW];have:∀r,r<=n+m+1->sm (λi=>A i*B (n+m-i)) r%p=if n<r then A n*B m%p else 0:=by
  intro r f;induction r with
  |zero=>simp[sm]
  |succ r d=>
   rw[sm,GS,d G]
   by_cases a:n<r
   .rw[aq a,aq G,Lu<|c r G,qE,lR]
   .rw[b a];by_cases h2:n=r
    .subst h2;rw[aq G,Aw,lR,(G:n+m-n=m)]
    .rw[b G,Lv<|k _ G];rfl
 rw[this _ (a7 _),aq G]
def ajv{p}{A}(a:Dl p 0 A):Cg p A 0:=Cg.of λi=>by rw[a i (be _),PS.lP,gw]
def kj p a:Dl p (Z a) (ps a):=λi c=>by rw[cw,aV,jQ c];simp
def ajw p k:Dl p (k+1) (PS.X k):=λi a=>by unfold PS.X;rw[b G];simp
def QW p c:Dl p 1 (PS.K c):=λi a=>by unfold PS.K;rw[b G];simp
def ajx p n:Dl p n 0:=λi _=>by rw[PS.lP,gw]
def Ya p:Dl p 1 1:=QW p 1
def dw(p:Y):Prop:=2<=p/\∀d,2<=d->d*d<=p->p%d≠0
def dw.Dx{p d}(c:dw p)(g:d∣p):d=1\/d=p:=by
 let ⟨e,he⟩:=g;have k:=c.1;have l:d≠0:=by intro a;subst a;simp at he;omega
 have a:e≠0:=by intro a;subst a;simp at he;omega
 by_cases d1:d=1
 .exact .inl d1
 by_cases i:e=1
 .subst i;right;omega
 exfalso;by_cases f:d<=e
 .exact c.2 d G (by rw[he];exact jh d f) (by rw[he];exact Nat.mul_mod_right d e)
 .exact c.2 e G (by rw[he];exact dT e G) (by rw[he];exact Nat.mul_mod_left d e)
def dw.coprime{p a}(c:dw p)(d:¬p∣a):Nat.Coprime p a:=by
 rcases c.Dx (Nat.gcd_dvd_left p a)with e|e
 .exact e
 .exact absurd (e▸QX p a) d
def dw.dvd_mul{p a b}(d:dw p)(f:p∣a*b):p∣a\/p∣b:=by
 by_cases c:p∣a
 .exact .inl c
 .exact .inr<|(d.coprime c).dvd_of_dvd_mul_left f
def dw.Yb{p}{a c}(d:dw p)(f:(p:O)∣a*c):(p:O)∣a\/(p:O)∣c:=by
 have:p∣aC a*aC c:=by rw[<-pD];have:=GU.2 f;rwa[oA]at this
 rcases d.dvd_mul this with e|e
 .exact .inl (GU.1<|by rwa[oA])
 .exact .inr (GU.1<|by rwa[oA])
def dw.pE{p}{a c}(d:dw p)(f:a%(p:O)≠0)(g:c%(p:O)≠0):a*c%(p:O)≠0:=λe=>by
 rcases d.Yb (Dw e)with e|e
 .exact f<|AA e
 .exact g<|AA e
def ch:Y->Y->Y
 |_,0=>1
 |0,_+1=>0
 |n+1,k+1=>ch n k+ch n (k+1)
def qL n:ch n 0=1:=by cases n<;>rfl
def yi:∀(n k:Y),n<k->ch n k=0
 |0,0,a=>by omega
 |0,k+1,_=>rfl
 |n+1,0,a=>by omega
 |n+1,k+1,a=>by rw[ch,yi n k G,yi n (k+1) G]
def GV:∀n,ch n n=1
 |0=>rfl
 |n+1=>by rw[ch,GV n,yi n (n+1) G]
def Lw:∀(n k:Y),(k+1)*ch (n+1) (k+1)=(n+1)*ch n k
 |0,0=>rfl
 |0,k+1=>by rw[yi 1 (k+1+1) G];rfl
 |n+1,0=>by have:=Lw n 0;rw[qL]at this;rw[show ch (n+1+1) (0+1)=ch (n+1) 0+ch (n+1) (0+1)from J,qL];omega
 |n+1,k+1=>by have a:=Lw n k;have c:=Lw n<|k+1;rw[ch,yj,c];rw[(zL:(k+1+1)*ch (n+1) (k+1)=(k+1)*ch (n+1) (k+1)+ch (n+1) (k+1)),a];rw[show ch (n+1) (k+1)=ch n k+ch n (k+1)from J];grind
def dw.ajy{p k}(a:dw p)(d:0<k)(f:k<p):p∣ch p k:=by
 obtain⟨n,rfl⟩:∃n,p=n+1:=⟨p-1,G⟩;obtain⟨j,rfl⟩:∃j,k=j+1:=⟨k-1,G⟩;have c:n+1∣(j+1)*ch (n+1) (j+1):=⟨ch n j,Lw n j⟩;rcases a.dvd_mul c with e|e
 .have:=uw G e;omega
 .exact e
def pw(A:PS):Y->PS
 |0=>1
 |n+1=>pw A n*A
def sP(f:Y->PS):Y->PS
 |0=>0
 |k+1=>sP f k+f k
def QY{f g:Y->PS}:∀{k:Y},(∀i,i<k->f i=g i)->sP f k=sP g k
 |0,_=>rfl
 |k+1,a=>by rw[sP,sP,QY<|λi c=>a i G,a k G]
def Yc(f g:Y->PS):∀k,sP (λi=>f i+g i) k=sP f k+sP g k
 |0=>(PS.add_zero 0).symm
 |k+1=>by simp only[sP,Yc f g k];ac_rfl
def QZ(f:Y->PS)(A:PS):∀k,sP (λi=>f i*A) k=sP f k*A
 |0=>(PS.zero_mul A).symm
 |k+1=>by simp only[sP,QZ f A k,PS.add_mul]
def Lx(f:Y->PS):∀k,sP f (k+1)=f 0+sP (λi=>f<|i+1) k
 |0=>by simp only[sP];exact PS.add_comm _ _
 |k+1=>by rw[sP,Lx f k,sP,PS.add_assoc]
def ajz{m}{f:Y->PS}{k}(a:∀i,i<k->Cg m (f i) 0):Cg m (sP f k) 0:=by
 induction k with
 |zero=>exact Cg.refl m _
 |succ k c=>
  have:=(c<|λi d=>a i G).add<|a k G
  rwa[PS.add_zero]at this
def Yd(A B:PS):∀n,pw (A+B) n=sP (λk=>PS.K (ch n k)*(pw A k*pw B (n-k))) (n+1)
 |0=>by rw[show sP (λk=>PS.K (ch 0 k)*(pw A k*pw B (0-k))) (0+1)=0+1*(1*1)from J,PS.zero_add,PS.mul_one,PS.mul_one];rfl
 |n+1=>by
  rw[pw,Yd A B n,PS.mul_add,<-QZ,<-QZ];rw[Lx (λk=>PS.K (ch (n+1) k)*(pw A k*pw B (n+1-k))) (n+1)];have a:sP (λi=>PS.K (ch (n+1)<|i+1)*(pw A (i+1)*pw B (n+1-(i+1)))) (n+1)=sP (λi=>PS.K (ch n i)*(pw A i*pw B (n-i))*A) (n+1)+sP (λi=>PS.K (ch n<|i+1)*(pw A (i+1)*pw B (n-i))) (n+1):=by rw[<-Yc];refine QY<|λi _=>?_;rw[(G:n+1-(i+1)=n-i),ch,wh,PS.Az,PS.add_mul,pw];ac_rfl
  have c:sP (λi=>PS.K (ch n i)*(pw A i*pw B (n-i))*B) (n+1)=PS.K (ch (n+1) 0)*(pw A 0*pw B (n+1-0))+sP (λi=>PS.K (ch n<|i+1)*(pw A (i+1)*pw B (n-i))) (n+1):=by
   rw[Lx,show sP (λi=>PS.K (ch n<|i+1)*(pw A (i+1)*pw B (n-i))) (n+1)=sP (λi=>PS.K (ch n<|i+1)*(pw A (i+1)*pw B (n-i))) n+PS.K (ch n<|n+1)*(pw A (n+1)*pw B (n-n))from J];rw[yi n (n+1) G,qL,qL,show PS.K ((0:Y):O)=0 from PS.nP,PS.zero_mul,PS.add_zero];have d:sP (λi=>PS.K (ch n<|i+1)*(pw A (i+1)*pw B (n-(i+1)))*B) n=sP (λi=>PS.K (ch n<|i+1)*(pw A (i+1)*pw B (n-i))) n:=by refine QY<|λi g=>?_;rw[(G:n-i=n-(i+1)+1),pw.eq_2 B];ac_rfl
   rw[d];have f:pw B (n+1-0)=pw B (n-0)*B:=rfl;rw[f];ac_rfl
  rw[a,c];ac_rfl
def dw.GW{p}(h:dw p) A B:Cg p (pw (A+B) p) (pw A p+pw B p):=by
 rw[Yd];obtain⟨n,rfl⟩:∃n,p=n+1:=⟨p-1,AD⟩;rw[sP,Lx];rw[GV,qL,(G:n+1-(n+1)=0),Dy];have e:Cg ((n+1:Y):O) (sP (λi=>PS.K (ch (n+1)<|i+1)*(pw A (i+1)*pw B (n+1-(i+1)))) n) 0:=by refine ajz<|λi g=>?_;have a:=h.ajy (k:=i+1) G G;have:Cg ((n+1:Y):O) (PS.K (ch (n+1) (i+1):Y)) (PS.K 0):=Cg.K (by rw[gw];exact AA<|wB.2 a);rw[PS.nP]at this;have c:=this.AB<|pw A (i+1)*pw B (n+1-(i+1));rwa[PS.zero_mul]at c
 have d:PS.K ((1:Y):O)*(pw A 0*pw B (n+1))=pw B (n+1):=by rw[show PS.K ((1:Y):O)=1 from J,PS.one_mul,show pw A 0=1 from J,PS.one_mul]
 have f:PS.K ((1:Y):O)*(pw A (n+1)*pw B 0)=pw A (n+1):=by rw[show PS.K ((1:Y):O)=1 from J,PS.one_mul,show pw B 0=1 from J,PS.mul_one]
 rw[d,f];have:=((Cg.refl ((n+1:Y):O)<|pw B<|n+1).add e).add<|Cg.refl _<|pw A<|n+1;rw[PS.add_zero]at this;rw[PS.add_comm (pw A<|n+1)];exact this
def Q1(a:O):∀n,pw (PS.K a) n=PS.K (a^n)
 |0=>by rw[ow];rfl
 |n+1=>by rw[pw,Q1 a n,<-PS.yh,eZ]
def Ye:∀n,pw 1 n=1
 |0=>rfl
 |n+1=>by rw[pw,Ye n,PS.mul_one]
def dw.Dz{p:Y}(h:dw p):∀a:Y,((a:O)^p)%(p:O)=(a:O)%(p:O)
 |0=>by obtain⟨n,rfl⟩:∃n,p=n+1:=⟨p-1,AD⟩;rw[eZ];simp
 |a+1=>by
  have g:=h.Dz a;have d:=(h.GW (PS.K (a:O)) 1).at 0;rw[show PS.K (a:O)+1=PS.K ((a+1:Y):O)by rw[PS.GQ,<-PS.Az];rfl,Q1,Ye,PS.eI,Q1]at d;have f:∀c:O,PS.K c 0=c:=λc=>by simp[PS.K]
  rw[f,f,PS.GQ,f,GS,g,<-GS]at d;exact d
def dw.ajA{p a}(h:dw p)(c:¬p∣a):a^(p-1)%p=1:=by
 have d:=h.Dz a;obtain⟨n,rfl⟩:∃n,p=n+1:=⟨p-1,AD⟩;have f:((n+1:Y):O)∣(a:O)*((a:O)^n-1):=by rw[Dk,mF,ef,<-eZ];exact Dw<|QV.1 d
 rcases h.Yb f with e|e
 .exact absurd (wB.1 e) c
 .have h3:((a:O)^n)%((n+1:Y):O)=1%((n+1:Y):O):=QV.2<|AA e;have g:(1:O)%((n+1:Y):O)=1:=gk T AD;rw[g]at h3;simp only[dE];have:((a^n%(n+1):Y):O)=1:=zD;omega
def dw.inv{p a}(c:dw p)(d:¬p∣a):a*(a^(p-2)%p)%p=1:=by rw[DA,Nat.mod_mod,<-DA];have:=c.ajA d;have f:=c.1;rwa[(G:p-1=p-2+1),fF,gN]at this
def Q2:∀(f r a n p:Y),n<2^f->r<p->qJ f r a n p=r*a^n%p
 |0,r,a,n,p,h,c=>by have:n=0:=dH;subst this;rw[qJ,py,qD,ou c]
 |f+1,r,a,n,p,h,c=>by
  rw[qJ];split
  .rename_i i;subst i;rw[py,qD,ou c]
  .have k:0<p:=by omega
   have d:n/2<2^f:=by rw[fF]at h;omega
   have g:(a*a%p)^(n/2)%p=a^(2*(n/2))%p:=by rw[<-Nat.pow_mod,<-Nat.pow_two,GX]
   split
   .rename_i l;rw[Q2 f _ _ _ _ d (fb _ k),DA,g,<-DA,Nat.mod_mul_mod];have:a^n=a*a^(2*(n/2)):=by rw[gN,<-fF];congr 1;omega
    rw[this,yd]
   .rename_i l;rw[Q2 f _ _ _ _ d c,DA,g,<-DA];have:2*(n/2)=n:=G;rw[this]
def ajB a n p(c:n<18446744073709551616)(d:1<p):s8 a n p=a^n%p:=by rw[s8,Q2 _ _ _ _ _ c<|fb _ G,ou d,hO,<-Nat.pow_mod]
def Yf a p(c:p<18446744073709551616)(d:1<p):iq a p=a^(p-2)%p:=ajB a (p-2) p G d
def Q3(n:Y):Y->Bool:=λk=>Nat.rec (motive:=λ_=>Bool) af (λi a=>match Nat.beq (n%(i+2)) 0 with|true=>ah|false=>a) k
def Yg{n:Y}:∀{k:Y},Q3 n k=af->∀d,2<=d->d<k+2->n%d≠0
 |0,_,d,h2,f=>by omega
 |k+1,g,d,h2,f=>by
  have a:(match Nat.beq (n%(k+2)) 0 with|true=>ah|false=>Q3 n k)=af:=g;split at a
  .cases a
  .rename_i c;by_cases e:d=k+2
   .subst e;intro i;rw[i]at c;cases c
   .exact Yg a d h2 G
def ajC:Q3 2147483647 46340=af:=dD
def ajD:dw 2147483647:=⟨T,λd a c=>Yg ajC d a (by
 by_cases e:d<46342
 .exact e
 .have:46342*46342<=d*d:=ls G G;omega)⟩
def Yh:∀(m n:Y),m+n=2147483647->0<m->∃p,dw p/\n<p/\p<=2147483647/\∀a,n<a->a<p->¬dw a
 |0,_,_,f=>by omega
 |m+1,n,f,_=>by
  by_cases c:dw (n+1)
  .exact⟨n+1,c,G,G,λa d g=>G⟩
  .by_cases i:m=0
   .subst i;have:n+1=2147483647:=G;rw[this]at c;exact absurd ajD c
   .let ⟨p,d,g,k,l⟩:=Yh m (n+1) G G;refine⟨p,d,G,k,λa u r=>?_⟩;by_cases t:a=n+1
    .rw[t];exact c
    .exact l a G r
def Yi n(i:dw n)(v:n<=2147483647):al z 204 [cU n] (cB af):=by
 refine aR Tryz.func204 ?_;have x:=i.1;refine N J<|U<|w<|rg 6 J J (λf=>?_)<|λf=>?_
 .exfalso;have f:(n:O)<2:=aK f;omega
 refine s J<|y J (λk=>?_)<|λ_=>aA ?_
 .exfalso;have k:(n:O)>2147483647:=aK k;omega
 refine U<|N J<|R<|aY (α:=Y) (λd=>⟨[(0,cU n),(3,cU d)],[],4,[]⟩) (λd=>2<=d/\(d-1)*(d-1)<=n) (λd=>n+2-d) 2 ⟨T,G⟩ aH ?_;rintro d ⟨l,m⟩;have c:d<65536:=by
  by_cases p:d<65536
  .exact p
  .have:65535*65535<=(d-1)*(d-1):=ls G G;omega
 have r:d*d<4294967296:=Lk c c;have t:ax .u64 ((d:O)*(d:O))=((d*d:Y):O):=by rw[<-eU,wrap_u64 _ G G]
 refine U<|N J<|y J (λa=>?_)<|λa=>?_
 .have a:ax .u64 ((d:O)*(d:O))<=(n:O):=aK a;rw[t]at a;have a:d*d<=n:=G;have u:=i.2 d l a;refine aA (U<|R<|N J (hp:=aF)<|y J (λg=>?_)<|λ_=>cZ<|aX ?_)
  .exfalso;have g:(n:O).tmod (d:O)=0:=eq_of_beq g;rw[lN]at g;omega
  .have:d<=n:=cj (Ly d G) a;refine rt J<|aG (d+1) ⟨G,by rw[dE];exact a⟩ (G:n+2-(d+1)<n+2-d)<|wk ⟨sR J,sE J ?_,e⟩ e;refine bL ?_;show ax .u64 ((d:O)+1)=((d+1:Y):O);rw[wrap_u64 _ G G];omega
 .exact a6<|aO<|N J<|cx J
def ajE n(u:¬dw n)(A:n<=2147483647):al z 204 [cU n] (cB ah):=by
 refine aR Tryz.func204 ?_;refine N J<|U<|w<|rg 6 J J (λi=>?_)<|λi=>?_
 .exact s J (y J (λ_=>N J<|bI<|cA<|atR J)<|λl=>by cases l)
 have r:2<=n:=by have i:¬(n:O)<2:=aT i;omega
 refine s J<|y J (λl=>?_)<|λ_=>aA ?_
 .exfalso;have l:(n:O)>2147483647:=aK l;omega
 refine U<|N J<|R<|aY (α:=Y) (λd=>⟨[(0,cU n),(3,cU d)],[],4,[]⟩) (λd=>2<=d/\(d-1)*(d-1)<=n/\∀k,2<=k->k<d->n%k≠0) (λd=>n+2-d) 2 ⟨T,G,λk m r=>G⟩ aH ?_;rintro d ⟨B,v,c⟩;have f:d<65536:=by
  by_cases g:d<65536
  .exact g
  .have:65535*65535<=(d-1)*(d-1):=ls G G;omega
 have x:d*d<4294967296:=Lk f f;have t:ax .u64 ((d:O)*(d:O))=((d*d:Y):O):=by rw[<-eU,wrap_u64 _ G G]
 refine U<|N J<|y J (λa=>?_)<|λa=>?_
 .have a:ax .u64 ((d:O)*(d:O))<=(n:O):=aK a;rw[t]at a;have a:d*d<=n:=G;refine aA (U<|R<|N J (hp:=aF)<|y J (λp=>?_)<|λp=>cZ<|aX ?_)
  .refine N J<|bI ?_;repeat(first|refine cA ?_|refine jJ ?_|refine kd ?_)
   exact atR J
  .have p:(n:O).tmod (d:O)≠0:=nf p;rw[lN]at p;have:d<=n:=cj (Ly d G) a;refine rt J (aG (d+1) ⟨G,by rw[dE];exact a,λk m r=>?_⟩ (G:n+2-(d+1)<n+2-d)<|wk ⟨sR J,sE J ?_,e⟩ e)
   .by_cases g:k=d
    .subst g;omega
    .exact c k m G
   .refine bL ?_;show ax .u64 ((d:O)+1)=((d+1:Y):O);rw[wrap_u64 _ G G];omega
 .exfalso;have a:¬ax .u64 ((d:O)*(d:O))<=(n:O):=aT a;rw[t]at a;refine u ⟨r,λk m i=>c k m ?_⟩;by_cases g:k<d
  .exact g
  .have:d*d<=k*k:=ls G G;omega
def ajF n(l:n<2147483647):∃p,dw p/\n<p/\p<=2147483647/\(∀a,n<a->a<p->¬dw a)/\al z 174 [cU n] (.t [(ah,[.I .u64 p]),(ah,[.I .i64 0])]):=by
 let ⟨p,d,h2,f,g⟩:=Yh (2147483647-n) n G G;refine⟨p,d,h2,f,g,?_⟩;refine aR Tryz.func174 ?_;refine N J<|U<|N J<|y J (λh=>?_)<|λ_=>aA ?_
 .exfalso;have h:(n:O)>=2147483647:=aK h;omega
 refine N J<|U<|R<|aY (α:=Y) (λa=>⟨[(4,cU a)],[],4,[]⟩) (λa=>n<a/\a<=p) (λa=>p-a) (n+1) ⟨G,G⟩ (wk ⟨sE J ?_,e⟩ e) ?_
 .refine bL ?_;show ax .u64 ((n:O)+1)=((n+1:Y):O);rw[wrap_u64 _ G G];omega
 rintro a ⟨c,i⟩;by_cases k:a=p
 .subst k;refine U<|bD J J (Yi a d f) J<|y J (λh=>er)<|λ_=>?_;exact a6<|aO<|N J<|cx J
 .refine U<|bD J J (ajE a (g a c G) G) J<|y J (λ_=>?_)<|λh=>er;refine aA<|R<|rt J<|eH<|aG (a+1) ⟨G,G⟩ (G:p-(a+1)<p-a)<|wk ⟨sE J ?_,e⟩ e;refine bL ?_;show ax .u64 ((a:O)+1)=((a+1:Y):O);rw[wrap_u64 _ G G];omega
end Go.El
