/- Contracts: products of words. Own work; no condition. -/
import Derived.Test.YtceihkmakfdcnaaGreatA4
import Derived.Test.YtceihkmakfdcnaaGreatA1
set_option linter.all false
set_option maxHeartbeats 16000000
set_option maxRecDepth 100000
open BitVec renaming ofInt->iA
open Bool renaming false->ah,true->af
open Decidable renaming byContradiction->GD
open Go.El renaming cS->I,rr->N,asM->R,Pb->U,iO->o,re->s,cI->j,rb->w,Cy->y,mV->q
open Go.IntKind renaming wrap->ax,bits->c7,signed->Dc
open Go.Proofs.Tryz renaming prog->z
open Int renaming toNat->ae,natAbs->aC,ediv_ediv_of_nonneg->aiA,gcd->gP,neg_ediv_of_dvd->aiG,pow_nonneg->XF,fdiv->QF
open List renaming length->Z,getD->E,take->h,replicate->bp,drop->az
open Nat renaming gcd->nb
open _root_ renaming List->V,Int->O,Nat->Y
namespace Go.El
open Go Go.Proofs Go.RowKit
structure P'(a b:V O)(x:Y×V O):Prop where
 i:x.1<=a.length
 len:x.2.length=a.length+b.length
 r:bP x.2
 z:∀c,x.1+b.length<=c->x.2.getD c 0=0
 v:val x.2=val (a.take x.1)*val b
structure An(a b:V O)(i:Y)(x:Y×V O×O):Prop where
 k:x.1<=b.length
 len:x.2.1.length=a.length+b.length
 r:bP x.2.1
 z:∀c,i+b.length<=c->x.2.1.getD c 0=0
 c0:0<=x.2.2
 c1:x.2.2<4294967296
 v:val x.2.1+x.2.2*4294967296^(i+x.1)=val (a.take i)*val b+a.getD i 0*val (b.take x.1)*4294967296^i
def Gt{x a:O}(f:0<=x)(c:x<=4294967295)(d:0<=a)(g:a<=4294967295):0<=x*a/\x*a<=18446744065119617025:=by refine⟨iL f d,?_⟩;have i:x*a<=4294967295*a:=gG c d;omega
def An.next{a c}{i}{x}(d:An a c i x)(F:i<Z a)(l:x.1<Z c)(m:bP a)(n:bP c):An a c i (x.1+1,x.2.1.set (i+x.1)<|(E a i 0*E c x.1 0+E x.2.1 (i+x.1) 0+x.2.2)%4294967296,(E a i 0*E c x.1 0+E x.2.1 (i+x.1) 0+x.2.2)/4294967296):=by
 have k:=db m i;have p:=db n x.1;have H:=d.c0;have K:=d.c1;have L:=db d.r<|i+x.1;have M:=Gt k.1 G p.1 G;have f:i+x.1<Z x.2.1:=by rw[d.len];omega
 refine⟨l,by simp[d.len],xw d.r _ ⟨G,G⟩,?_,(by show 0<=_/_;omega),(by show _/_<(4294967296:O);omega),?_⟩
 .intro j t;simp only;rw[sY _ _ _ _ f,b G];exact d.z j t
 .simp only;rw[Ou _ _ _ f,jF,<-qk,eZ];have u:=d.v;have g:(4294967296:O)^(i+x.1)=4294967296^i*4294967296^x.1:=Int.pow_add ..;generalize P:(4294967296:O)^(i+x.1)=q at u g⊢;generalize ht:E a i 0*E c x.1 0+E x.2.1 (i+x.1) 0+x.2.2=s;have A:s%4294967296+s/4294967296*4294967296=s:=G;have e:s%4294967296*q+s/4294967296*(q*4294967296)=s*q:=by rw[show s/4294967296*(q*4294967296)=s/4294967296*4294967296*q by grind,<-mX,A]
  have Q:s*q=E a i 0*E c x.1 0*q+E x.2.1 (i+x.1) 0*q+x.2.2*q:=by rw[<-ht];grind
  have B:(s%4294967296-E x.2.1 (i+x.1) 0)*q=s%4294967296*q-E x.2.1 (i+x.1) 0*q:=by grind
  have C:E a i 0*(val (h x.1 c)+E c x.1 0*4294967296^x.1)*4294967296^i=E a i 0*val (h x.1 c)*4294967296^i+E a i 0*E c x.1 0*q:=by rw[g];grind
  rw[B,C];omega
def An.done{a f}{i}{l}{c}(d:An a f i (Z f,l,c))(m:i<Z a):P' a f (i+1,l.set (i+Z f) c):=by
 have g:Z l=Z a+Z f:=d.len;have n:=d.c0;have p:=d.c1;have t:E l (i+Z f) 0=0:=d.z _<|a7 _;refine⟨m,by simp[g],xw d.r _ ⟨n,p⟩,?_,?_⟩
 .intro j u;simp only at u⊢;rw[sY _ _ _ _ G,b G];exact d.z j G
 .simp only;rw[Gn _ _ _ G t,jF];have k:=d.v;simp only[fv]at k;rw[k];grind
def ais a d(F:bP a)(H:bP d)(la:Z a<=1099511627776)(lb:Z d<=1099511627776):al z 146 [I ao a,I ao d] (I ao<|q<|ae<|val a*val d):=by
 refine aR Tryz.func146 ?_;refine N J<|w ?_;refine rm ao (Z a+Z d) J J J J J J (lM .u32) J ?_ ?_ ?_
 .show _*4<=_;omega
 .show _*1<=_;omega
 refine s J<|U<|N J ?_;refine R<|aY (α:=Y×V O) (λx=>⟨[(0,I ao a),(1,I ao d),(5,.c<|.X 1005000),(6,j x.1)],[(1005000,.vec 142 ao x.2)],3,[]⟩) (P' a d) (λx=>Z a-x.1) (0,bp (Z a+Z d) 0) ?_ ?_ ?_
 .refine⟨be _,ay,p' _,?_,Al⟩;intro T _;simp only[aV,ln];split<;>rfl
 .exact wk (bJ J) ⟨bR J,e⟩
 .rintro⟨i,o⟩ l;have g:Z o=Z a+Z d:=l.len;refine U<|N J ?_;refine y J (λh=>?_) (λh=>?_)
  .have h:i<Z a:=by simpa using h
   refine aA<|U<|R<|N J<|U<|N J ?_;refine R<|aY (α:=Y×V O×O) (λx=>⟨[(0,I ao a),(1,I ao d),(5,.c<|.X 1005000),(6,j i),(7,cU x.2.2),(8,j x.1)],[(1005000,.vec 142 ao x.2.1)],6,[]⟩) (An a d i) (λx=>Z d-x.1) (0,o,0) ?_ ?_ ?_
   .refine⟨be _,g,l.r,l.z,eO _,(by show(0:O)<_;decide),?_⟩;have:=l.v;simp only at this;simp[this,val]
   .exact wk (bJ J) ⟨bR J,e⟩
   .rintro⟨k,o,c⟩ m;have g:Z o=Z a+Z d:=m.len;have t:0<=c:=m.c0;have u:c<4294967296:=m.c1;refine U<|N J ?_;refine y J (λp=>?_) (λp=>?_)
    .have p:k<Z d:=by simpa using p
     have L:=db F i;have M:=db H k;have P:=db m.r<|i+k;simp only at P;have gm:=Gt L.1 G M.1 G;refine aA<|U<|R<|N J ?_ (hp:=jK);have f:ae ((i:O)+(k:O))=i+k:=G;have C:ax .u64 (ax .u64 (ax .u64 (ax .u64 (E a (ae (i:O)) 0)*ax .u64 (E d (ae (k:O)) 0))+ax .u64 (E o (ae<|(i:O)+(k:O)) 0))+c)=E a i 0*E d k 0+E o (i+k) 0+c:=by rw[f,bW,bW,wrap_u64 (E a i 0) G G,wrap_u64 (E d k 0) G G,wrap_u64 (E o (i+k) 0) G G,wrap_u64 (E a i 0*E d k 0) G G,wrap_u64 (E a i 0*E d k 0+E o (i+k) 0) G G,wrap_u64 _ G G]
     have A:=m.next h p F H;simp only at A;generalize ht:E a i 0*E d k 0+E o (i+k) 0+c=n at A C;have B:ax .u32 (n.tmod 4294967296)=n%4294967296:=by rw[kf G,wrap_u32 _ G G]
     have Q:ax .u64 (n.tdiv 4294967296)=n/4294967296:=by rw[sX G,wrap_u64 _ G G]
     refine dU (st':=⟨[(0,I ao a),(1,I ao d),(5,.c<|.X 1005000),(6,j i),(8,j k),(9,cU n)],[(1005000,.vec 142 ao o)],8,[]⟩) (wk ⟨sR J,sR J,sR J,sR J,sR J,sE J ?_,e⟩ ⟨bR J,e⟩) ?_
     .exact bL C
     refine N J<|rt J<|aX<|rt J<|aG (k+1,o.set (i+k)<|n%4294967296,n/4294967296) A (G:Z d-(k+1)<Z d-k)<|wk ⟨sR J,sR J,sR J,sR J,sE J ?_,sE J ?_,e⟩ ⟨bE J ?_,e⟩
     .exact bL Q
     .rfl
     .rw[B,f]
    .have p:¬k<Z d:=by simpa using p
     have S:k=Z d:=by have:=m.k;simp only at this;omega
     subst S;have W:=m.done h;have f:ae ((i:O)+(Z d:O))=i+Z d:=G;have B:ax .u32 c=c:=wrap_u32 c t u;refine a6<|aO<|rt J<|aX<|rt J<|aG (i+1,o.set (i+Z d) c) W oq<|wk ⟨sR J,sR J,sR J,sE J ?_,e⟩ ⟨bE J ?_,e⟩
     .rfl
     .rw[B,f]
  .have h:¬i<Z a:=by simpa using h
   have D:i=Z a:=by have:=l.i;simp only at this;omega
   subst D;refine a6<|aO<|c6 1005000 J J J<|w ?_;refine rc J J (x4 _)<|s J<|bQ J ?_;have K:=l.v;simp only[fv]at K;rw[n6 l.r];simp only[K]
def Sm(a:O):Prop:=Z (dN a)<=1099511627776
def sg(neg:Bool)(m:Y):O:=if neg then-(m:O)else m
def x5 a:sg (b6 a) (aC a)=a:=by
 unfold sg b6;by_cases h:a<0
 .simp[h];omega
 .simp[h];omega
def ot{m}:0<Z (q m)↔m≠0:=by
 constructor
 .intro h e;subst e;simp[BP]at h
 .intro h;rw[vi h];simp
def Xg neg m:(AV.a [.B (neg&&decide (0<Z (q m))),.S ao<|q m])=aZ (sg neg m):=by
 have c:b6 (sg neg m)=(neg&&decide (0<Z (q m))):=by
  unfold b6 sg;cases neg with
  |false=>simp
  |true=>
   simp only[b9,Bool.true_and]
   rw[Bool.eq_iff_iff]
   simp only[decide_eq_true_eq]
   rw[ot];omega
 have d:aC (sg neg m)=m:=by unfold sg;cases neg<;>simp
 unfold aZ;simp only[av,dN,c,d]
def po neg m:al z 135 [cB neg,I ao<|q m] (aZ<|sg neg m):=by have:=aio neg<|q m;rw[Ow,Xg]at this;exact this
def iD n(d: -9223372036854775808<=n)(g:n<=9223372036854775807):al z 84 [j n] (aZ n):=by
 refine aR Tryz.func84 ?_;refine N J<|U<|N J ?_;refine y J (λh=>?_)<|λh=>?_
 .have h:n<0:=by simpa using h
  have e:ax .u64 (ax .u64 (0-(n+1))+1)=(ae (-n):Y):=by rw[wrap_u64 (0-(n+1)) G G,wrap_u64 _ G G];omega
  refine w ?_;refine rc J J (f:=136) (r:=I ao<|q<|ae<| -n) (by rw[e];exact Dd _ G) ?_;refine rc J J (po af _)<|s J<|bI<|cA<|dR J ?_;have a:sg af (ae<| -n)=n:=by unfold sg;simp;omega
  rw[a];rfl
 .have h:¬n<0:=by simpa using h
  have e:ax .u64 n=(ae n:Y):=by rw[wrap_u64 _ G G];omega
  refine aA<|w ?_;refine rc J J (f:=136) (r:=I ao<|q<|ae n) (by rw[show(AV.c (num .u64 n).1)=cU ((ae n:Y):O)from bL e];exact Dd _ G) ?_;refine rc J J (po ah _)<|s J<|bQ J ?_;have a:sg ah (ae n)=n:=by unfold sg;simp;omega
  rw[a];rfl
def dY(a:O):O:=if a<0 then-1 else if a=0 then 0 else 1
def Ao a:al z 94 [aZ a] (j<|dY a):=by
 refine aR Tryz.func94 ?_;refine N J<|U<|N J ?_;refine y J (λh=>?_)<|λh=>?_
 .have h:a<0:=by simpa[b6]using h
  refine N J<|bI<|cA<|dR J ?_;rw[dY,aq h];rfl
 .have h:¬a<0:=by simpa[b6]using h
  refine aA<|N J<|bQ J ?_;have e:(if af=ah then(0:O)else if(1:O)<Z (dN a)then 1 else Z (dN a))=dY a:=by
   rw[b T,dY,b h];by_cases c:a=0
   .subst c;rfl
   .have:0<Z (dN a):=ot.2 G;rw[b c];split<;>omega
  exact im e
def Xh a:al z 97 [aZ a] (aZ<| -a):=by
 refine aR Tryz.func97 ?_;refine N J<|w ?_;refine rc J J (po (!b6 a)<|aC a)<|s J<|bQ J ?_;have c:sg (!b6 a) (aC a)= -a:=by
  unfold sg b6;by_cases h:a<0
  .simp[h];omega
  .simp[h];omega
 rw[c];rfl
def Gu m k:al z 144 [I ao (q m),I ao<|q k] (j<|dy m k):=by have:=aip (q m) (q k) (dC m) (dC k) (tS m)<|tS k;rw[dS,dS]at this;exact this
def KL a d:al z 95 [aZ a,aZ d] (j<|dy a d):=by
 refine aR Tryz.func95 ?_;refine N J<|U<|w ?_;refine rg 7 J J (λh=>?_)<|λh=>?_
 .have g:a<0:=by simpa[b6]using h
  refine s J<|y J (λf=>?_)<|λf=>?_
  .have k:¬d<0:=by simpa[b6]using f
   refine N J<|bI<|cA<|dR J ?_;rw[dy,aq G];rfl
  .have k:d<0:=by simpa[b6]using f
   refine aA<|U<|w ?_;refine rg 15 J J (λi=>?_)<|λi=>?_
   .simp[b6,g]at i
   .refine s J<|y J (λc=>by simp at c)<|λ_=>?_;refine aA<|U<|N J ?_;refine y J (λc=>?_) (λc=>?_)
    .refine bD J J (Gu _ _) J<|bI<|cA<|dR J ?_;have e:dy (aC d) (aC a)=dy a d:=by unfold dy;split<;>split<;>(try split)<;>omega
     exact im e
    .simp[b6,g]at c
 .have g:¬a<0:=by simpa[b6]using h
  refine s J<|y J (λf=>by simp at f)<|λf=>?_;refine aA<|U<|w ?_;refine rg 15 J J (λi=>?_)<|λi=>?_
  .refine s J (y J (λc=>?_)<|λc=>?_)
   .have k:d<0:=by simpa[b6]using c
    refine N J<|bI<|cA<|dR J ?_;rw[dy,b G,aq G];rfl
   .have k:¬d<0:=by simpa[b6]using c
    refine aA<|U<|N J ?_;refine y J (λc=>?_)<|λc=>?_
    .simp[b6,g]at c
    .refine aA<|bD J J (Gu _ _) J<|bQ J ?_;have e:dy (aC a) (aC d)=dy a d:=by unfold dy;split<;>split<;>(try split)<;>omega
     exact im e
  .simp[b6,g]at i
def Xi m k(a:Z (q m)<=1099511627776)(c:Z (q k)<=1099511627776):al z 143 [I ao (q m),I ao<|q k] (I ao<|q<|m+k):=by have:=aiq (q m) (q k) (dC m) (dC k) a c;rw[dS,dS,(G:ae ((m:O)+(k:O))=m+k)]at this;exact this
def rR{m k}(a:m<=k):Z (q m)<=Z (q k):=zq (by have:=so (n:=k);omega)
def Qa m k(a:k<=m)(c:Z (q m)<=1099511627776):al z 145 [I ao (q m),I ao<|q k] (I ao<|q<|m-k):=by have:=air (q m) (q k) (dC m) (dC k) (rR a) (by rw[dS,dS];omega) c;rw[dS,dS,(G:ae ((m:O)-(k:O))=m-k)]at this;exact this
def Qb m k(a:Z (q m)<=1099511627776)(c:Z (q k)<=1099511627776):al z 146 [I ao (q m),I ao<|q k] (I ao<|q<|m*k):=by have:=ais (q m) (q k) (dC m) (dC k) a c;rw[dS,dS,show ae ((m:O)*(k:O))=m*k by rw[<-eU];rfl]at this;exact this
def kg a c(k:Sm a)(l:Sm c):al z 91 [aZ a,aZ c] (aZ<|a*c):=by
 refine CC Tryz.func91 J J J J J T ?_;refine N J<|w ?_;refine rc J J (Qb _ _ k l)<|rc J J (po _ _)<|s J<|bI<|gZ cq J<|bf.of_eq ?_;have m:sg (b6 a !=b6 c) (aC a*aC c)=a*c:=by have d:=x5 a;have f:=x5 c;generalize aC a=x at d⊢;generalize aC c=y at f⊢;cases g:b6 a<;>cases i:b6 c<;>rw[g]at d<;>rw[i]at f<;>simp only[sg,b9,bN,gY]at d f<;>rw[<-d,<-f]<;>simp[sg]<;>grind
 exact a8 aZ m
def we a c(i:Sm a)(k:Sm c):al z 90 [aZ a,aZ c] (aZ<|a+c):=by
 refine aR Tryz.func90 ?_;refine N J<|U<|N J ?_;refine y J (λh=>?_)<|λh=>?_
 .have h:b6 a=b6 c:=by simpa using h
  refine w<|rc J J (Xi _ _ i k)<|rc J J (po _ _)<|s J<|bI<|cA<|dR J ?_;have d:sg (b6 a) (aC a+aC c)=a+c:=by unfold b6 sg at*;by_cases f:a<0<;>by_cases h2:c<0<;>simp[f,h2]at h⊢<;>omega
  exact a8 aZ d
 .have h:b6 a≠b6 c:=by simpa using h
  refine aA<|U<|bD J J (Gu _ _) J ?_;refine y J (λh2=>?_)<|λh2=>?_
  .have h2:aC a<aC c:=by
    have h2:dy (aC a) (aC c)<0:=o0;unfold dy at h2;split at h2
    .omega
    .split at h2<;>omega
   refine w<|rc J J (Qa _ _ G k)<|rc J J (po _ _)<|s J<|bI<|cA<|dR J ?_;have d:sg (b6 c) (aC c-aC a)=a+c:=by unfold b6 sg at*;by_cases f:a<0<;>by_cases g:c<0<;>simp[f,g]at h⊢<;>omega
   exact a8 aZ d
  .have h2:aC c<=aC a:=by
    have h2:¬dy (aC a) (aC c)<0:=o0;unfold dy at h2;split at h2
    .omega
    .omega
   refine aA<|w<|rc J J (Qa _ _ G i)<|rc J J (po _ _)<|s J<|bQ J ?_;have d:sg (b6 a) (aC a-aC c)=a+c:=by unfold b6 sg at*;by_cases f:a<0<;>by_cases g:c<0<;>simp[f,g]at h⊢<;>omega
   exact a8 aZ d
def ait(m k:Y)(d:m<18446744073709551616)(f:k<18446744073709551616):al z 184 [cU m,cU k] (cU<|nb m k):=by
 refine aR Tryz.func184 ?_;refine N J<|U<|R<|aY (α:=Y×Y) (λx=>⟨[(0,cU x.1),(1,cU x.2)],[],1,[]⟩) (λx=>nb x.1 x.2=nb m k/\x.1<18446744073709551616/\x.2<18446744073709551616) (λx=>x.2) (m,k) ⟨J,d,f⟩ aH ?_;rintro⟨x,a⟩ ⟨hg,hx,c⟩;simp only at hg hx c;refine U<|N J ?_;refine y J (λh=>?_)<|λh=>?_
 .have h:0<a:=by have:(a:O)>0:=dH;omega
  refine aA<|R<|N J<|N J<|rt J<|eH<|aG (a,x%a) ⟨?_,c,?_⟩ ?_<|wk ⟨sR J,sE J ?_,e⟩ e
  .rw[<-hg,x6 x a,Nat.gcd_rec a x,x6]
  .exact iz (fb _ h)<|BO c
  .exact fb _ h
  .have g:(x:O).tmod (a:O)=((x%a:Y):O):=by rw[kf G];omega
   exact bL g
 .have h:a=0:=by have:¬(a:O)>0:=dH;omega
  subst h;refine a6<|aO<|N J<|bQ J ?_;rw[<-hg,KM]
def Xj m:E (q m) 0 0=((m%4294967296:Y):O):=by
 by_cases h:m=0
 .subst h;rfl
 .rw[vi h];rfl
def aiu m(a:m<18446744073709551616):E (q m) 1 0=((m/4294967296:Y):O):=by
 by_cases h:m=0
 .subst h;rfl
 .rw[vi h,Ov,Xj];congr 1;omega
def Qc m(a:m<18446744073709551616):al z 185 [I ao (q m)] (cU m):=by
 refine aR Tryz.func185 ?_;refine N J<|w ?_;refine rc J J (Ak _ 1<|dC m)<|rc J J (Ak _ 0<|dC m)<|s J<|bQ J ?_;have e:ax .u64 (ax .u64 (E (q m) 1 0*4294967296)+E (q m) 0 0)=m:=by rw[Xj,aiu m a,wrap_u64 (((m/4294967296:Y):O)*4294967296) G G,wrap_u64 _ G G];omega
 exact bL e
def Gv{m}(a:m<18446744073709551616):Z (q m)<=2:=zq (G:(m:O)<4294967296^2)
structure Df(a:V O)(d:O)(x:Y×V O×O):Prop where
 k:x.1<=a.length
 len:x.2.1.length=a.length
 r:bP x.2.1
 r0:0<=x.2.2
 r1:x.2.2<d
 v:val (a.drop x.1)=val (x.2.1.drop x.1)*d+x.2.2
def drop_cons(l:V O) a(c:a<Z l):az a l=E l a 0::az (a+1) l:=by rw[pn c];simp[aV,cH c]
def KN{r a d:O}(f:0<=r)(g:r<d)(i:0<=a)(k:a<4294967296)(l:d<4294967296):0<=r*4294967296+a/\r*4294967296+a<18446744073709551616/\0<=(r*4294967296+a)/d/\(r*4294967296+a)/d<4294967296/\0<=(r*4294967296+a)%d/\(r*4294967296+a)%d<d:=by have c:0<d:=G;refine⟨G,G,xy G G,?_,g6 _ G,g7 _ c⟩;apply BT c;have:(r+1)*4294967296<=d*4294967296:=gG G T;omega
def Df.next{a}{d}{c}{l}{f}(i:Df a d (c+1,l,f))(n:bP a)(p:d<4294967296):Df a d (c,l.set c<|(f*4294967296+E a c 0)/d,(f*4294967296+E a c 0)%d):=by have g:=db n c;have t:0<=f:=i.r0;have u:f<d:=i.r1;have m:=KN t u g.1 g.2 p;have C:c+1<=Z a:=i.k;have A:Z l=Z a:=i.len;refine⟨by show c<=_;omega,by simp[A],xw i.r _ ⟨m.2.2.1,m.2.2.2.1⟩,m.2.2.2.2.1,m.2.2.2.2.2,?_⟩;have B:val (az (c+1) a)=val (az (c+1) l)*d+f:=i.v;simp only;rw[drop_cons a c G,drop_cons (l.set c _) c bX,sY _ _ _ _ G,aq J,List.drop_set_of_lt G];simp only[val];rw[B];have:=nc (f*4294967296+E a c 0) d;generalize (f*4294967296+E a c 0)/d=x at*;generalize (f*4294967296+E a c 0)%d=y at*;grind
def Xk a d(u:bP a)(m:0<d)(A:d<4294967296)(la:Z a<=1099511627776):al z 217 [I ao a,cU d] (.t [(ah,[.S ao (q<|ae<|val a/d)]),(ah,[.I .u64 (val a%d)])]):=by
 refine aR Tryz.func217 ?_;refine N J<|w ?_;refine rm ao (Z a) J J J J J J (lM .u32) J ?_ ?_ ?_
 .show _*4<=_;omega
 .show _*1<=_;omega
 refine s J<|N J<|U<|N J ?_;refine R<|aY (α:=Y×V O×O) (λx=>⟨[(0,I ao a),(1,cU d),(6,.c<|.X 1002000),(7,cU x.2.2),(8,cI<|(x.1:O)-1)],[(1002000,.vec 142 ao x.2.1)],4,[]⟩) (Df a d) (λx=>x.1) (Z a,bp (Z a) 0,0) ?_ ?_ ?_
 .exact⟨a7 _,ay,p' _,eO _,m,wg⟩
 .exact wk (bJ J) ⟨bR J,e⟩
 .rintro⟨k,l,r⟩ f;have B:Z l=Z a:=f.len;have n:0<=r:=f.r0;have p:r<d:=f.r1;have b:k<=Z a:=f.k;refine U<|N J ?_;refine y J (λh=>?_) (λh=>?_)
  .have h:(k:O)-1>=0:=by simpa using h
   obtain⟨j,rfl⟩:∃j,k=j+1:=⟨k-1,G⟩;have C:ae (((j+1:Y):O)-1)=j:=G;have g:=db u j;have L:=KN n p g.1 g.2 A;have F:=f.next u A;refine aA<|U<|R<|N J ?_;have H:ax .u64 (ax .u64 (r*4294967296)+ax .u64 (E a (ae<|((j+1:Y):O)-1) 0))=r*4294967296+E a j 0:=by rw[C,wrap_u64 (r*4294967296) G G,wrap_u64 (E a j 0) G G,wrap_u64 _ G G]
   generalize ht:r*4294967296+E a j 0=i at F L H;have M:ax .u32 (ax .u64<|i.tdiv d)=i/d:=by rw[sX G,wrap_u64 _ G G,wrap_u32 _ G G]
   have P:i.tmod d=i%d:=kf G;refine dU (st':=⟨[(0,I ao a),(1,cU d),(6,.c<|.X 1002000),(8,cI<|((j+1:Y):O)-1),(9,cU i)],[(1002000,.vec 142 ao l)],6,[]⟩) (wk ⟨sR J,sR J,sR J,sR J,sE J ?_,e⟩ ⟨bR J,e⟩) ?_
   .exact bL H
   refine N J<|rt J<|aX<|rt J<|aG (j,l.set j<|i/d,i%d) F rQ<|wk ⟨sR J,sR J,sR J,sE J ?_,sE J ?_,e⟩ ⟨bE J ?_,e⟩
   .exact bL P
   .refine im ?_;show((j+1:Y):O)-1-1=(j:O)-1;omega
   .rw[M,C]
  .have h:¬((k:O)-1>=0):=by simpa using h
   have:k=0:=G;subst this;refine a6<|aO<|c6 1002000 J J J<|w ?_;refine rc J J (x4 _)<|s J<|bQ J ?_;have K:val a=val l*d+r:=f.v;have Q:bP l:=f.r;have eq:val a/d=val l:=by rw[K,uo,Ap _ _ G,Dg n p];omega
   have W:val a%d=r:=by rw[K,uo,Qd,gk n p]
   rw[n6 Q,eq,W];rfl
def bf.t2{x i k}(d:bf (.c x) (.c i)):bf (.t [(ah,[x]),(ah,[k])]) (.t [(ah,[i]),(ah,[k])]):=by
 refine⟨?_,?_⟩
 .rintro g v ⟨vs,rfl,v1,r,rfl,l,f⟩;exact⟨_,J,v1,r,J,d.1 g v1 l,f⟩
 .intro m a;have f:=d.2 m;simp only[AV.ak,fP,b7,gO,bg]at a f⊢;exact a.elim (λd=> .inl<|f d) .inr
def aiv m k(a:k≠0)(g:m<k\/k<4294967296)(i:Z (q m)<=1099511627776):al z 186 [I ao (q m),I ao<|q k] (.t [(ah,[.S ao (q<|m/k)]),(ah,[.S ao (q<|m%k)])]):=by
 refine aR Tryz.func186 ?_;refine N J<|U<|bD J J (Gu m k) J ?_;refine y J (λh2=>?_)<|λh2=>?_
 .have h2:m<k:=by
   have h2:dy m k<0:=o0;unfold dy at h2;split at h2
   .omega
   .split at h2<;>omega
  refine N J<|bI<|cA<|gZ cq J ?_;rw[Aq h2,ou h2];exact bf.t2<|bf.nil ao
 .have h2:¬m<k:=by have h2:¬dy m k<0:=o0;unfold dy at h2;split at h2<;>omega
  have l:k<4294967296:=g.resolve_left h2;have n:q k=[(k:O)]:=by rw[vi a,(G:k%4294967296=k),(G:k/4294967296=0)];rfl
  refine aA<|U<|N J ?_;rw[n];refine y J (λd=>?_) (λd=>by simp at d);refine w ?_;have p:ax .u64 (k:O)=k:=wrap_u64 _ G G;refine rc J J (f:=217) (r:= .t [(ah,[.S ao (q<|m/k)]),(ah,[.I .u64 ((m%k:Y):O)])]) ?_ ?_
  .have:=Xk (q m) k (dC m) G G i;rw[dS,show ae ((m:O)/(k:O))=m/k from J,show(m:O)%(k:O)=((m%k:Y):O)from J]at this;rw[show(AV.c (num .u64<|[(k:O)].getD (ae (0:O)) 0).1)=cU (k:O)from bL p];exact this
  refine s J<|bD J J (Dd _ ?_) J<|bI<|cA<|atR J;have:=fb m<|qF a;omega
def Qe a B(c:0<B):(aC a:O)=((aC a%B:Y):O)+(B:O)*((aC a/B:Y):O)/\aC a%B<B:=by refine⟨?_,fb _ c⟩;have:=Nat.mod_add_div (aC a) B;rw[<-eU,<-wh,this]
def Xl{a}{B:Y}(c:0<B)(d:¬a<0):a/(B:O)=((aC a/B:Y):O)/\a%(B:O)=((aC a%B:Y):O):=by let ⟨f,h2⟩:=Qe a B c;exact(Qf G).2 ⟨G,G,G⟩
def Xm{a}{B}(c:0<B)(g:a<0)(d:aC a%B=0):a/(B:O)= -((aC a/B:Y):O)/\a%(B:O)=0:=by let ⟨f,h2⟩:=Qe a B c;refine(Qf G).2 ⟨?_,G,G⟩;rw[d]at f;rw[Int.mul_neg];omega
def Xn{a}{B}(c:0<B)(d:a<0)(f:aC a%B≠0):a/(B:O)= -((aC a/B+1:Y):O)/\a%(B:O)=((B-aC a%B:Y):O):=by let ⟨g,h2⟩:=Qe a B c;refine(Qf G).2 ⟨?_,G,G⟩;rw[Int.mul_neg,wh,nD];omega
def Dh a c(i r:Y)(d:a/(aC c:O)=sg (b6 a) i)(f:a%(aC c:O)=r):a/c=sg (b6 a !=b6 c) i/\a%c=sg ah r:=by
 by_cases k:c<0
 .have e:c= -(aC c:O):=by omega
  have g:b6 c=af:=by simp[b6,k]
  rw[e,Ar,Int.emod_neg,<-e,d,f,g];refine⟨?_,J⟩;unfold sg;cases b6 a<;>simp
 .have e:c=(aC c:O):=by omega
  have g:b6 c=ah:=by simp[b6,k]
  rw[<-e]at d f;rw[d,f,g];refine⟨?_,J⟩;cases b6 a<;>rfl
def qG:Y->O->O->O->O->O->O
 |0,a,_,_,_,_=>a
 |f+1,a,r,v1,v2,u2=>if a>=4294967296\/a*v2>r*4294967296+u2 then(if r+v1>=4294967296 then a-1 else qG f (a-1) (r+v1) v1 v2 u2)else a
def KO{M d i A v t l B u:O}(c:Kn1 M d i A v t l B u):∀(f:Y)(a r:O),t=a*d+r->0<=r->r<4294967296->4294967296<=r+f*2147483648->u/v<=a->u/v<=qG f a r d i l/\qG f a r d i l<=u/v+1/\qG f a r d i l<4294967296
 |0,a,r,_,_,h2,F,_=>by omega
 |f+1,a,r,ht,L,h2,F,H=>by
  have q0:=c.q0;have BS:=c.BS;have C:=c.oU;rw[qG];split
  .rename_i g;have K:u/v<a:=by
    rcases g with g|g
    .omega
    .exact c.down ht G g
   have k:t=(a-1)*d+(r+d):=by rw[EW,jS];omega
   split
   .rename_i p;have x:=c.afH k p;have g:a-1-1<=u/v:=c.close k G x (by have P:(a-1)*i<=4294967296*4294967296:=vj G (by have:=c.UZ;omega) c.zr T;have:=c.ij;omega);exact⟨G,G,x⟩
   .rename_i p;exact KO c f (a-1) (r+d) k G G G G
  .rename_i g;have m:a<4294967296:=by
    by_cases e:a<4294967296
    .exact e
    .exact absurd (.inl G) g
   have n:a*i<=r*4294967296+l:=by
    by_cases e:a*i<=r*4294967296+l
    .exact e
    .exact absurd (.inr G) g
   have:=c.close ht G m n;exact⟨H,G,m⟩
def Di{a c:O}(d:0<=a):a.tdiv c=a/c:=sX d
def Gw{a c:O}(d:0<=a):a.tmod c=a%c:=kf d
def aiw a v d n(M:bP a)(hv:bP v)(hn:Z v=n+2)(hj:d+n+3<=Z a)(hl:Z a<=1099511627777){v' u' u}
  (K:Kn1 (4294967296^n) (E v (n+1) 0) (E v n 0) v' (val v) (E a (d+(n+2)) 0*4294967296+E a (d+(n+1)) 0) (E a (d+n) 0) u' u):
  sW z 218 [.c (.W 0 d<|n+3),I ao v] 142 ao a (cU<|qG 2 ((E a (d+(n+2)) 0*4294967296+E a (d+(n+1)) 0)/E v (n+1) 0) ((E a (d+(n+2)) 0*4294967296+E a (d+(n+1)) 0)%E v (n+1) 0) (E v (n+1) 0) (E v n 0)<|E a (d+n) 0) a:=by
 refine Gf Tryz.func218 J J J J J T ?_
 have g1:=db M<|d+(n+2)
 have g2:=db M<|d+(n+1)
 have g3:=db M<|d+n
 have k1:=db hv<|n+1
 have k2:=db hv n
 have oU:=K.oU
 have a1:ae ((Z v:O))=n+2:=G
 have a2:ae ((Z v:O)-1)=n+1:=G
 have a3:ae ((Z v:O)-2)=n:=G
 generalize hQ:qG 2 ((E a (d+(n+2)) 0*4294967296+E a (d+(n+1)) 0)/E v (n+1) 0) ((E a (d+(n+2)) 0*4294967296+E a (d+(n+1)) 0)%E v (n+1) 0) (E v (n+1) 0) (E v n 0) (E a (d+n) 0)=Q0
 refine N J<|N J<|N J (hp:=jK) ?_
 rw[a1,a2]
 have e6:ax .u64 (ax .u64 (ax .u64 (E a (d+(n+2)) 0)*4294967296)+ax .u64 (E a (d+(n+1)) 0))=E a (d+(n+2)) 0*4294967296+E a (d+(n+1)) 0:=by rw[wrap_u64 (E a (d+(n+2)) 0) G G,wrap_u64 (E a (d+(n+1)) 0) G G,wrap_u64 (_*_) G G,wrap_u64 _ G G]
 have P:ax .u64 (E v (n+1) 0)=E v (n+1) 0:=wrap_u64 _ G G
 have Q:ax .u64 (E v n 0)=E v n 0:=wrap_u64 _ G G
 have S:ax .u64 (E a (d+n) 0)=E a (d+n) 0:=wrap_u64 _ G G
 have l:0<=E a (d+(n+2)) 0*4294967296+E a (d+(n+1)) 0:=G
 have ht1:E a (d+(n+2)) 0*4294967296+E a (d+(n+1)) 0<18446744073709551616:=G
 have X:=@Kn1.small _ _ _ _ _ _ _ _ _ K
 have di:=@KO _ _ _ _ _ _ _ _ _ K
 have o:=K.first
 generalize E a (d+(n+2)) 0*4294967296+E a (d+(n+1)) 0=t at*
 generalize p:E v (n+1) 0=v1 at*
 generalize A:E v n 0=v2 at*
 generalize B:E a (d+n) 0=u2 at*
 have C:ax .u64 (E v (ae<|(Z v:O)-1) 0)=v1:=by rw[a2,p];exact P
 have x2:ax .u64 (E v (ae<|(Z v:O)-2) 0)=v2:=by rw[a3,A];exact Q
 have x3:ax .u64 (E a (d+ae ((Z v:O)-2)) 0)=u2:=by rw[a3,B];exact S
 have D:0<=t/v1:=xy l G
 have V:0<=t%v1:=g6 _ G
 have uq:t%v1<v1:=g7 _ G
 have cp:=nc t v1
 refine dU (st':=⟨[(0,.c<|.W 0 d<|n+3),(1,I ao v),(5,j<|Z v),(6,cU t)],[(0,.vec 142 ao a)],4,[]⟩) (wk ⟨sR J,sR J,sR J,⟨_,J,bf.of_eq<|bL e6⟩,e⟩ ⟨bR J,e⟩) ?_
 have hp1:((-9223372036854775808<=(Z v:O)-1/\(Z v:O)-1<=9223372036854775807)/\0<=(Z v:O)-1/\(Z v:O)-1<(Z v:O))/\ax .u64 (E v (ae<|(Z v:O)-1) 0)≠0:=by rw[C];omega
 refine N J (hp:=Xo)<|N J (hp:=Xo) ?_
 refine U<|R<|aY (α:=Y×O×O) (λx=>⟨[(0,.c<|.W 0 d<|n+3),(1,I ao v),(5,j<|Z v),(6,cU t),(7,cU x.2.1),(8,cU x.2.2)],[(0,.vec 142 ao a)],6,[]⟩) (λx=>qG x.1 x.2.1 x.2.2 v1 v2 u2=Q0/\t=x.2.1*v1+x.2.2/\0<=x.2.2/\x.2.2<4294967296/\4294967296<=x.2.2+x.1*2147483648/\u/val v<=x.2.1) (λx=>x.1) (2,t/v1,t%v1) ⟨hQ,by show t=t/v1*v1+t%v1;rw[ef];omega,V,(G:t%v1<4294967296),Qg,o⟩ (wk ⟨sR J,sR J,sR J,sR J,sE J ?_,sE J ?_,e⟩ ⟨bR J,e⟩) ?_
 .refine bL ?_;show ax .u64 (t.tdiv<|ax .u64<|E v (ae<|(Z v:O)-1) 0)=t/v1;have:=Int.ediv_le_self v1 l;rw[C,Di l,wrap_u64 _ D G]
 .refine bL ?_;show(t.tmod<|ax .u64<|E v (ae<|(Z v:O)-1) 0)=t%v1;rw[C,Gw l]
 .rintro⟨f,q,r⟩ ⟨k,h2,h3,h4,h5,h6⟩;simp only at k h2 h3 h4 h5 h6;have wi:=K.q0;have hqs:=X h2 h3;cases f with
  |zero=>omega
  |succ f=>
  rw[qG]at k;have F:0<=q*v2/\q*v2<18446744073709551616:=by refine⟨iL G G,?_⟩;have:q*v2<=4294967297*4294967295:=vj G G G T;omega
  refine U<|w<|rg 42 J J (λh=>?_)<|λh=>?_
  .have H:q>=4294967296:=by simpa using h
   have i:q>=4294967296\/q*v2>r*4294967296+u2:= .inl H;refine s J (y J (λ_=>?_)<|λg=>by cases g);have iN:u/val v<q:=by
    rcases i with i|i
    .have:=K.BS;omega
    .exact K.down h2 G i
   have L:ax .u64 (q-1)=q-1:=wrap_u64 _ G G;have w2:ax .u64 (r+ax .u64 (E v (ae<|(Z v:O)-1) 0))=r+v1:=by rw[C,wrap_u64 _ G G]
   refine aA<|R<|N J<|N J (hp:=jK)<|N J<|y J (λg=>?_)<|λg=>?_
   .have g:r+v1>=4294967296:=by
     have g:4294967296<=ax .u64 (r+ax .u64 (E v (ae<|(Z v:O)-1) 0)):=by simpa using g
     omega
    rw[aq i,aq g]at k;refine kJ<|JN<|nK<|kK<|aO<|N J<|bI<|xY cq J (bf.of_eq ?_) J;refine bL ?_;rw[<-k];exact L
   .have g:¬r+v1>=4294967296:=by
     have g:ax .u64 (r+ax .u64 (E v (ae<|(Z v:O)-1) 0))<4294967296:=by simpa using g
     omega
    rw[aq i,b g]at k;refine cZ<|eH<|aG (f,q-1,r+v1) ⟨k,KP,KQ,KR,KS,KT⟩ (dL f)<|wk ⟨sR J,sR J,sR J,sR J,⟨_,J,bf.of_eq<|bL L⟩,⟨_,J,bf.of_eq<|bL w2⟩,e⟩ ⟨bR J,e⟩
  .have H:¬q>=4294967296:=by have:q<4294967296:=dH;omega
   have w3:ax .u64 (q*ax .u64 (E v (ae<|(Z v:O)-2) 0))=q*v2:=by rw[x2,wrap_u64 _ F.1 F.2]
   have w4:ax .u64 (ax .u64 (r*4294967296)+ax .u64 (E a (d+ae ((Z v:O)-2)) 0))=r*4294967296+u2:=by rw[x3,wrap_u64 (r*4294967296) G G,wrap_u64 _ G G]
   refine s J (hp:=jK)<|y J (λm=>?_)<|λm=>?_
   .have i:q>=4294967296\/q*v2>r*4294967296+u2:= .inr (by
     have m:ax .u64 (q*ax .u64 (E v (ae<|(Z v:O)-2) 0))>ax .u64 (ax .u64 (r*4294967296)+ax .u64 (E a (d+ae ((Z v:O)-2)) 0)):=by simpa using m
     rw[w3,w4]at m;exact m)
    have iN:u/val v<q:=by
     rcases i with i|i
     .have:=K.BS;omega
     .exact K.down h2 G i
    have L:ax .u64 (q-1)=q-1:=wrap_u64 _ G G;have w2:ax .u64 (r+ax .u64 (E v (ae<|(Z v:O)-1) 0))=r+v1:=by rw[C,wrap_u64 _ G G]
    refine aA<|R<|N J<|N J (hp:=jK)<|N J<|y J (λg=>?_)<|λg=>?_
    .have g:r+v1>=4294967296:=by
      have g:4294967296<=ax .u64 (r+ax .u64 (E v (ae<|(Z v:O)-1) 0)):=by simpa using g
      omega
     rw[aq i,aq g]at k;refine kJ<|JN<|nK<|kK<|aO<|N J<|bI<|xY cq J (bf.of_eq ?_) J;refine bL ?_;rw[<-k];exact L
    .have g:¬r+v1>=4294967296:=by
      have g:ax .u64 (r+ax .u64 (E v (ae<|(Z v:O)-1) 0))<4294967296:=by simpa using g
      omega
     rw[aq i,b g]at k;refine cZ<|eH<|aG (f,q-1,r+v1) ⟨k,KP,KQ,KR,KS,KT⟩ (dL f)<|wk ⟨sR J,sR J,sR J,sR J,⟨_,J,bf.of_eq<|bL L⟩,⟨_,J,bf.of_eq<|bL w2⟩,e⟩ ⟨bR J,e⟩
   .have i:¬(q>=4294967296\/q*v2>r*4294967296+u2):=by
     have m:¬ax .u64 (q*ax .u64 (E v (ae<|(Z v:O)-2) 0))>ax .u64 (ax .u64 (r*4294967296)+ax .u64 (E a (d+ae ((Z v:O)-2)) 0)):=by simpa using m
     rw[w3,w4]at m;omega
    rw[b i]at k;subst k;exact a6<|aO<|N J<|bI<|xY cq J (bf.refl _) J
def bO:Y->O->V O
 |0,_=>[]
 |n+1,x=>x%4294967296::bO n (x/4294967296)
def rU:∀(n:Y)(x:O),Z (bO n x)=n
 |0,_=>rfl
 |n+1,x=>by rw[bO,eB,rU n]
def Gx:∀(n:Y)(x:O),bP (bO n x)
 |0,_=>Oq
 |n+1,x=>xu.2 ⟨⟨g6 _ T,g7 _ T⟩,Gx n _⟩
def ov n:(4294967296:O)^(n+1)=4294967296^n*4294967296:=eZ _ _
def KU(x:O) n:x/4294967296^(n+1)=x/4294967296^n/4294967296:=by rw[ov,aiA<|by have:=jc n;omega]
def Xp(x:O) n:x/4294967296^(n+1)=x/4294967296/4294967296^n:=by rw[ov,ef,aiA T]
def Qh(x:O) n:x%4294967296^(n+1)=x%4294967296+4294967296*(x/4294967296%4294967296^n):=by
 have f:=nc x<|4294967296^(n+1);have g:=nc x 4294967296;have i:=nc (x/4294967296)<|4294967296^n;rw[Xp,ov]at f;rw[ov];generalize x/4294967296/4294967296^n=a at*;generalize x/4294967296%4294967296^n=b at*;generalize x/4294967296=c at*;have e:4294967296^n*4294967296*a=4294967296*(4294967296^n*a):=by rw[ef (4294967296^n) 4294967296,iy]
 rw[e]at f;generalize (4294967296:O)^n*a=d at*;omega
def Gy:∀(n:Y)(x:O),val (bO n x)=x%4294967296^n
 |0,x=>by rw[ow,Int.emod_one];rfl
 |n+1,x=>by rw[bO,val,Gy n,Qh]
def Dj:∀(n:Y)(x:O),bO (n+1) x=bO n x++[x/4294967296^n%4294967296]
 |0,x=>by rw[ow,sZ];rfl
 |n+1,x=>by rw[bO,Dj n,bO,Xp];rfl
def KV:∀(n:Y)(x a:O),x%4294967296^n=a%4294967296^n->bO n x=bO n a
 |0,_,_,_=>rfl
 |n+1,x,a,c=>by rw[Qh,Qh]at c;rw[bO,bO,KV n (x/4294967296) (a/4294967296) G,(G:x%4294967296=a%4294967296)]
def Qi n x a:bO n (x+a*4294967296^n)=bO n x:=KV n _ _<|Qd _ _ _
def Xq:∀{a:V O},bP a->bO (Z a) (val a)=a
 |[],_=>rfl
 |c::a,d=>by let ⟨f,h2⟩:=xu.1 d;rw[eB,bO,val];rw[(G:(c+4294967296*val a)%4294967296=c),(G:(c+4294967296*val a)/4294967296=val a),Xq h2]
def cT(a:V O)(c:Y)(d:V O):V O:=h c a++(d++az (c+Z d) a)
def KW a c:cT a c []=a:=by simp[cT]
def wj{U}{j}{ws}(a:j+Z ws<=Z U):Z (cT U j ws)=Z U:=by simp[cT];omega
def KX{U}{j}{ws}(c:j+Z ws<=Z U):E (cT U j ws) (j+Z ws) 0=E U (j+Z ws) 0:=by unfold cT;have a:(h j U).length=j:=bX;rw[aV,Ck G,a,Ck G,vz,aV];congr 2;omega
def KY{U}{j}{ws}a(c:j+Z ws<Z U):(cT U j ws).set (j+Z ws) a=cT U j (ws++[a]):=by unfold cT;have d:(h j U).length=j:=bX;rw[KZ _ _ G,d,KZ _ _ G,(G:j+Z ws-j-Z ws=0)];rw[pn c,Qj,kF,hP];rfl
def Qk{a}{f}{c}(d:bP a)(g:bP c):bP (cT a f c):=Ot (ix d _)<|Ot g<|xv d _
def Ql{c}{a}{d}(f:a+Z d<=Z c):az a (cT c a d)=d++az (a+Z d) c:=by unfold cT;have g:(h a c).length=a:=bX;rw[zI G,qp G,sF]
def Xr{c}{a}{d}(f:a+Z d<=Z c):h a (cT c a d)=h a c:=by unfold cT;have g:(h a c).length=a:=bX;rw[vw G,iK G]
def Qm(a:V O) c i:(az c a).getD i 0=E a (c+i) 0:=by rw[aV,vz,aV]
def Xs a v d i f{k c b}(n:k=val ((az d a).take i)-f*val (h i v))(r:k/4294967296^i= -(c+b)):
  (let p:=f*List.getD v i 0+c
   let t:=4294967296+List.getD a (d+i) 0-p%4294967296-b
   let g:=val ((az d a).take<|i+1)-f*val (List.take (i+1) v)
   bO (i+1) g=bO i k++[t%4294967296]/\g/4294967296^(i+1)= -(p/4294967296+(1-t/4294967296))):=by
 intro p t g
 have l:g=k+(E a (d+i) 0-f*E v i 0)*4294967296^i:=by show val ((az d a).take<|i+1)-f*val (h (i+1) v)=_;rw[jF,jF,Qm,n,nD,EW,iy];omega
 have m:g/4294967296^i= -(c+b)+(E a (d+i) 0-f*E v i 0):=by rw[l,Ap _ _ (by have:=jc i;omega),r]
 have u:p=f*E v i 0+c:=rfl
 have x:t=4294967296+E a (d+i) 0-p%4294967296-b:=rfl
 clear_value p t
 refine⟨?_,?_⟩
 .rw[Dj,l,Qi,<-l,m];congr 2;omega
 .rw[KU,m];omega
def Xt a v d i{g c}(m:g=val ((az d a).take i)+val (h i v))(n:g/4294967296^i=c):
  (let t:=List.getD a (d+i) 0+List.getD v i 0+c
   let f:=val ((az d a).take<|i+1)+val (List.take (i+1) v)
   bO (i+1) f=bO i g++[t%4294967296]/\f/4294967296^(i+1)=t/4294967296):=by
 intro t f
 have k:f=g+(E a (d+i) 0+E v i 0)*4294967296^i:=by show val ((az d a).take<|i+1)+val (h (i+1) v)=_;rw[jF,jF,Qm,m,mX];omega
 have l:f/4294967296^i=c+(E a (d+i) 0+E v i 0):=by rw[k,Ap _ _ (by have:=jc i;omega),n]
 have p:t=E a (d+i) 0+E v i 0+c:=rfl
 clear_value t
 refine⟨?_,?_⟩
 .rw[Dj,k,Qi,<-k,l];congr 2;omega
 .rw[KU,l];omega
def Xu{v}(d:bP v){a}(c:0<=a)(l:a<4294967296) i:0<=a*val (h i v)/4294967296^i/\a*val (h i v)/4294967296^i<4294967296:=by have f:=k6<|ix d i;have p:=me<|ix d i;have r:=sp (m:=(h i v).length) (n:=i) bX;have g:=jc i;have k:0<=a*val (h i v):=iL c f;refine⟨xy k G,BT g ?_⟩;have t:a*val (h i v)<=4294967296*val (h i v):=gG G f;have u:4294967296*val (h i v)<4294967296*4294967296^i:=Int.mul_lt_mul_of_pos_left G T;omega
def Xv{v}{q c}i(a:c=q*val (h i v)/4294967296^i):q*val (h (i+1) v)/4294967296^(i+1)=(q*E v i 0+c)/4294967296:=by rw[KU,jF,nD,<-iy,Ap _ _ (by have:=jc i;omega),a,uo]
def aiB{v}(d:bP v){a}(c:0<=a)(i:a<4294967296){L}(k:Z v<L):a*val (h L v)/4294967296^L=0:=by
 rw[lE v L G];have f:=k6 d;have l:=me d;have p:=sp (m:=Z v) (n:=L-1) G;have g:(4294967296:O)^L=4294967296^(L-1)*4294967296:=by rw[<-ov];congr 1;omega
 have r:a*val v<=4294967296*val v:=gG G f;exact Dg (iL c f) (by rw[g];omega)
def aiC d v a L f(S:bP d)(H:bP v)(hj:a+L<=Z d)(hL:Z v<L)(g:0<=f)(M:f<4294967296)(hl:Z d<=1099511627777):
  sW z 219 [.c (.W 0 a L),I ao v,cU f] 142 ao d (cB<|decide<|val ((az a d).take L)-f*val v<0) (cT d a<|bO L<|val ((az a d).take L)-f*val v):=by
 refine Gf Tryz.func219 J J J J J T ?_
 refine N J<|N J<|N J<|U<|N J ?_
 refine R<|aY (α:=Y×O×O) (λx=>⟨[(0,.c<|.W 0 a L),(1,I ao v),(2,cU f),(7,cU x.2.1),(8,cU x.2.2),(9,j x.1)],[(0,.vec 142 ao<|cT d a<|bO x.1<|val ((az a d).take x.1)-f*val (h x.1 v))],5,[]⟩) (λx=>x.1<=L/\(val ((az a d).take x.1)-f*val (h x.1 v))/4294967296^x.1= -(x.2.1+x.2.2)/\x.2.1=f*val (h x.1 v)/4294967296^x.1/\(x.2.2=0\/x.2.2=1)) (λx=>L-x.1) (0,0,0) ⟨be _,wg,wg,.inl J⟩ (wk (bJ J) ⟨bE J ?_,e⟩) ?_
 .exact a8 (aN.vec 142 ao) (KW d a).symm
 rintro⟨i,c,b⟩ ⟨o,h2,k,l⟩
 simp only at o h2 k l
 have s:=Xu H g M i
 rw[<-k]at s
 refine U<|N J ?_
 refine y J (λm=>?_)<|λm=>?_
 .have m:i<L:=by simpa using m
  have D:=db H i;have gu:=db S<|a+i;have hm:0<=f*E v i 0/\f*E v i 0<=18446744065119617025:=Gt g G D.1 G;have n:=Xs d v a i f (c:=c) (b:=b) J h2;have K:=Xv (v:=v) (q:=f) i k;simp only at n;let ⟨s1,s2⟩:=n;have r:Z (bO i<|val ((az a d).take i)-f*val (h i v))=i:=rU _ _;have V:=wj (U:=d) (j:=a) (ws:=bO i<|val ((az a d).take i)-f*val (h i v)) G;have u:=KX (U:=d) (j:=a) (ws:=bO i<|val ((az a d).take i)-f*val (h i v)) G;have A:=λw=>KY (U:=d) (j:=a) (ws:=bO i<|val ((az a d).take i)-f*val (h i v)) w G
  rw[r]at u A;refine aA<|U<|R<|bD J J (Ak v i H) J ?_;have w1:ax .u64 (ax .u64 (f*E v i 0)+c)=f*E v i 0+c:=by rw[wrap_u64 (f*E v i 0) G G,wrap_u64 _ G G]
  generalize P:f*E v i 0+c=p at*;have B:0<=p/\p<18446744073709551616:=G;refine dU (st':=⟨[(0,.c<|.W 0 a L),(1,I ao v),(2,cU f),(8,cU b),(9,j i),(10,cU p)],[(0,.vec 142 ao<|cT d a<|bO i<|val ((az a d).take i)-f*val (h i v))],7,[]⟩) (wk ⟨sR J,sR J,sR J,sR J,sR J,⟨_,J,bf.of_eq<|bL w1⟩,e⟩ ⟨bR J,e⟩) ?_;generalize hX:cT d a (bO i<|val ((az a d).take i)-f*val (h i v))=X at*;refine N J<|N J (hp:=jK) ?_;have Q:ae (i:O)=i:=bW i;have w2:ax .u64 (p.tdiv 4294967296)=p/4294967296:=by rw[Di B.1,wrap_u64 _ G G]
  have w3:ax .u64 (ax .u64 (ax .u64 (4294967296+ax .u64 (X.getD (a+ae (i:O)) 0))-p.tmod 4294967296)-b)=4294967296+E d (a+i) 0-p%4294967296-b:=by rw[Q,u,Gw B.1,wrap_u64 (E d (a+i) 0) G G,wrap_u64 (4294967296+_) G G,wrap_u64 (_-p%4294967296) G G,wrap_u64 _ G G]
  generalize ht:4294967296+E d (a+i) 0-p%4294967296-b=t at*;have C:0<=t/\t<8589934592:=G;refine dU (st':=⟨[(0,.c<|.W 0 a L),(1,I ao v),(2,cU f),(7,cU<|p/4294967296),(9,j i),(11,cU t)],[(0,.vec 142 ao X)],9,[]⟩) (wk ⟨sR J,sR J,sR J,⟨_,J,bf.of_eq<|bL w2⟩,sR J,⟨_,J,bf.of_eq<|bL w3⟩,e⟩ ⟨bR J,e⟩) ?_;refine N J (hp:=jK)<|rt J ?_;refine aX<|rt J<|aG (i+1,p/4294967296,1-t/4294967296) ⟨m,s2,K.symm,(G:1-t/4294967296=0\/1-t/4294967296=1)⟩ (G:L-(i+1)<L-i)<|wk ⟨sR J,sR J,sR J,sR J,sE J ?_,sE J ?_,e⟩ ⟨bE J ?_,e⟩
  .refine bL ?_;show ax .u64 (1-ax .u64 (t.tdiv 4294967296))=1-t/4294967296;rw[Di C.1,wrap_u64 (t/4294967296) G G,wrap_u64 _ G G]
  .exact a8 j G
  .refine a8 (aN.vec 142 ao) ?_;show X.set (a+ae (i:O)) (ax .u32<|t.tmod 4294967296)=cT d a (bO (i+1) _);rw[s1,Q,Gw C.1,wrap_u32 _ G G,A]
 .have m:¬i<L:=by simpa using m
  have cz:i=L:=G;subst cz;rw[aiB H g M hL]at k;rw[lE v i G]at h2⊢;refine a6<|aO<|N J<|bI<|xY cq J (bf.of_eq ?_) J;refine a8 cB ?_;show(b==1)=_;have P:=jc i;rcases l with l|l
  .subst l k;have:0<=val ((az a d).take i)-f*val v:=by have F:=nc (val ((az a d).take i)-f*val v)<|4294967296^i;have h6:=g6 (val ((az a d).take i)-f*val v) (G:(4294967296:O)^i≠0);rw[h2]at F;simp at F;omega
   rw[ox G];rfl
  .subst l k;have:val ((az a d).take i)-f*val v<0:=by have F:=nc (val ((az a d).take i)-f*val v)<|4294967296^i;have h6:=g7 (val ((az a d).take i)-f*val v) P;rw[h2]at F;simp at F;omega
   rw[rV G];rfl
def aiD d v a L(u:bP d)(p:bP v)(M:a+L<=Z d)(P:Z v<=L)(Q:Z d<=1099511627777):
  sW z 220 [.c (.W 0 a L),I ao v] 142 ao d (.t []) (cT d a<|bO L<|val ((az a d).take L)+val v):=by
 refine Gf Tryz.func220 J J J J J T ?_
 refine N J<|N J ?_
 refine R<|aY (α:=Y×O) (λx=>⟨[(0,.c<|.W 0 a L),(1,I ao v),(4,cU x.2),(5,j x.1)],[(0,.vec 142 ao<|cT d a<|bO x.1<|val ((az a d).take x.1)+val (h x.1 v))],3,[]⟩) (λx=>x.1<=L/\(val ((az a d).take x.1)+val (h x.1 v))/4294967296^x.1=x.2/\(x.2=0\/x.2=1)) (λx=>L-x.1) (0,0) ⟨be _,wg,.inl J⟩ (wk (bJ J) ⟨bE J ?_,e⟩) ?_
 .exact a8 (aN.vec 142 ao) (KW d a).symm
 rintro⟨i,c⟩ ⟨A,h2,B⟩
 simp only at A h2 B
 refine U<|N J ?_
 refine y J (λf=>?_)<|λf=>?_
 .have f:i<L:=by simpa using f
  have S:=db p i;have b:=db u<|a+i;have g:=Xt d v a i (c:=c) J h2;simp only at g;let ⟨s1,s2⟩:=g;have k:Z (bO i<|val ((az a d).take i)+val (h i v))=i:=rU _ _;have C:=wj (U:=d) (j:=a) (ws:=bO i<|val ((az a d).take i)+val (h i v)) G;have l:=KX (U:=d) (j:=a) (ws:=bO i<|val ((az a d).take i)+val (h i v)) G;have m:=λF=>KY (U:=d) (j:=a) (ws:=bO i<|val ((az a d).take i)+val (h i v)) F G
  rw[k]at l m;generalize o:cT d a (bO i<|val ((az a d).take i)+val (h i v))=X at*;have r:ae (i:O)=i:=bW i;refine aA<|U<|R<|w<|rc J J (Ak v i p) (hp:=jK)<|s J ?_;have H:ax .u64 (ax .u64 (ax .u64 (X.getD (a+ae (i:O)) 0)+E v i 0)+c)=E d (a+i) 0+E v i 0+c:=by rw[r,l,wrap_u64 (E d (a+i) 0) G G,wrap_u64 (_+E v i 0) G G,wrap_u64 _ G G]
  generalize ht:E d (a+i) 0+E v i 0+c=t at*;have n:0<=t/\t<8589934592:=G;refine dU (st':=⟨[(0,.c<|.W 0 a L),(1,I ao v),(5,j i),(6,cU t)],[(0,.vec 142 ao X)],5,[]⟩) (wk ⟨sR J,sR J,sR J,⟨_,J,bf.of_eq<|bL H⟩,e⟩ ⟨bR J,e⟩) ?_;refine N J (hp:=jK)<|rt J ?_;refine aX<|rt J<|aG (i+1,t/4294967296) ⟨f,s2,(G:t/4294967296=0\/t/4294967296=1)⟩ (G:L-(i+1)<L-i)<|wk ⟨sR J,sR J,sE J ?_,sE J ?_,e⟩ ⟨bE J ?_,e⟩
  .refine bL ?_;show ax .u64 (t.tdiv 4294967296)=t/4294967296;rw[Di n.1,wrap_u64 (t/4294967296) G G]
  .exact a8 j G
  .refine a8 (aN.vec 142 ao) ?_;show X.set (a+ae (i:O)) (ax .u32<|t.tmod 4294967296)=cT d a (bO (i+1) _);rw[s1,r,Gw n.1,wrap_u32 _ G G,m]
 .have f:¬i<L:=by simpa using f
  have K:i=L:=G;subst K;rw[lE v i G];exact a6<|W4 cq J (bf.refl _) J
def Qn{v}{n}(d:Z v=n+2):val v=(E v (n+1) 0*4294967296+E v n 0)*4294967296^n+val (h n v):=by
 have c:=jF v n;have a:=jF v<|n+1;rw[lE v (n+1+1) G,ov]at a;rw[a,c,mX];have e:E v (n+1) 0*(4294967296^n*4294967296)=E v (n+1) 0*4294967296*4294967296^n:=by rw[ef (4294967296^n),iy]
 rw[e];omega
def aiE d f n:val ((az f d).take<|n+3)=((E d (f+(n+2)) 0*4294967296+E d (f+(n+1)) 0)*4294967296+E d (f+n) 0)*4294967296^n+val ((az f d).take n):=by have k:=jF (az f d) n;have g:=jF (az f d)<|n+1;have i:=jF (az f d)<|n+2;rw[Qm]at k g i;rw[ov]at g;rw[ov (n+1),ov]at i;rw[show n+3=n+2+1 from J,i,g,k];generalize (4294967296:O)^n=M;generalize E d (f+(n+2)) 0=a;generalize E d (f+(n+1)) 0=b;generalize E d (f+n) 0=c;grind
def Xw{U v}{j n}(a:bP U)(d:bP v)(m:Z v=n+2)(r:j+n+3<=Z U)(c:2147483648<=E v (n+1) 0)(f:val ((az j U).take<|n+3)<val v*4294967296):
  Kn1 (4294967296^n) (E v (n+1) 0) (E v n 0) (val<|h n v) (val v) (E U (j+(n+2)) 0*4294967296+E U (j+(n+1)) 0) (E U (j+n) 0) (val<|(az j U).take n) (val<|(az j U).take<|n+3):=by
 have p:=db d<|n+1
 have g:=db d n
 have t:=db a<|j+(n+2)
 have u:=db a<|j+(n+1)
 have i:=db a<|j+n
 have k:=me<|ix d n
 have l:=me<|ix (xv a j) n
 rw[(bX:(h n v).length=n)]at k
 rw[(bX:Z ((az j U).take n)=n)]at l
 exact⟨jc n,c,p.2,g.1,g.2,k6<|ix d n,k,G,i.1,i.2,k6<|ix (xv a j) n,l,Qn m,aiE U j n,f⟩
structure s0(A v:O)(lb M:Y)(x:Y×V O×V O):Prop where
 k:x.1<=M+1
 ul:x.2.1.length=M+lb+1
 ur:bP x.2.1
 ub:val (x.2.1.drop x.1)<v
 ql:x.2.2.length=M+1
 qr:bP x.2.2
 qz:∀i,i<x.1->x.2.2.getD i 0=0
 eq:A=val x.2.1+v*val x.2.2
def x7 a c(d:c<=Z a):val a=val (h c a)+4294967296^c*val (az c a):=by have:=BN (h c a)<|az c a;rw[ry]at this;rw[this];congr 3;simp;omega
def Xx{a}(c:bP a) n(d:n<=Z a)(f:val a<4294967296^n):val (az n a)=0:=by
 have g:=x7 a n d;have i:=k6<|ix c n;have k:=k6<|xv c n;by_cases e:val (az n a)=0
 .exact e
 .exfalso;have:4294967296^n*1<=4294967296^n*val (az n a):=jR G (by have:=jc n;omega);omega
def s0.Qo{A v}{d M a}{c Q}(f:s0 A v d M (a+1,c,Q))(n:v<4294967296^d):val (az a c)=val ((az a c).take<|d+1)/\val ((az a c).take<|d+1)<v*4294967296:=by
 have p:a+1<=M+1:=f.k;have r:Z c=M+d+1:=f.ul;have g:bP c:=f.ur;have t:val (az (a+1) c)<v:=f.ub;have m:az a c=E c a 0::az (a+1) c:=by rw[pn G];simp[aV,cH (G:a<Z c)]
 have i:val ((az (a+1) c).drop d)=0:=Xx (xv g _) d bX G;have l:val (az a c)=val ((az a c).take<|d+1):=by have:=x7 (az a c) (d+1) bX;rw[qu]at this;rw[qu]at i;rw[this,(G:a+(d+1)=a+1+d),i];simp
 refine⟨l,?_⟩;rw[<-l,m,val];have:=db g a;omega
def s0.next{A v}{c M a}{d Q}(g:s0 A v c M (a+1,d,Q))(l:0<v)(L:v<4294967296^c):
  s0 A v c M (a,cT d a<|bO (c+1)<|val ((az a d).take<|c+1)%v,Q.set a<|val ((az a d).take<|c+1)/v):=by
 let ⟨H,P⟩:=g.Qo L
 have D:a+1<=M+1:=g.k
 have S:Z d=M+c+1:=g.ul
 have K:bP d:=g.ur
 have p:Z Q=M+1:=g.ql
 have r:bP Q:=g.qr
 have m:∀i,i<a+1->E Q i 0=0:=g.qz
 have heq:A=val d+v*val Q:=g.eq
 have t:0<=val ((az a d).take<|c+1):=k6<|ix (xv K _) _
 generalize hu:val ((az a d).take<|c+1)=u at*
 have W:=g6 u (G:v≠0)
 have X:=g7 u l
 have b:0<=u/v:=xy t G
 have o:u/v<4294967296:=BT l (by rw[ef];exact P)
 have B:=nc u v
 have C:Z (bO (c+1)<|u%v)=c+1:=rU _ _
 have f:a+Z (bO (c+1)<|u%v)<=Z d:=G
 have F:u%v<4294967296^(c+1):=by rw[ov];have:=jc c;omega
 have q:val (az (a+(c+1)) d)=0:=by
  have:=x7 (az a d) (c+1) bX;rw[qu,hu,H]at this;have I:=jc<|c+1;have s:4294967296^(c+1)*val (az (a+(c+1)) d)=0:=G;rcases Int.mul_eq_zero.1 s with e|e
  .omega
  .exact e
 have n:val (az a<|cT d a<|bO (c+1)<|u%v)=u%v:=by rw[Ql f,BN,Gy,gk W F,C,q];simp
 refine⟨(G:a<=M+1),by show Z (cT _ _ _)=_;rw[wj f];exact S,Qk K<|Gx _ _,by show val (az a<|cT d a _)<v;rw[n];exact X,by show(Q.set _ _).length=_;simp[p],xw r _ ⟨b,o⟩,?_,?_⟩
 .intro i J;show(Q.set a _).getD i 0=0;rw[aV,List.getElem?_set_ne G,<-aV];exact m i G
 .show A=val (cT d a _)+v*val (Q.set a _);rw[Ou Q a _ G,m a G,x7 (cT d a _) a (by rw[wj f];omega),Xr f,n,heq,x7 d a G,H];have w:v*(val Q+(u/v-0)*4294967296^a)=v*val Q+4294967296^a*(v*(u/v)):=by generalize u/v=x;generalize (4294967296:O)^a=y;grind
  have z:4294967296^a*u=4294967296^a*(u%v)+4294967296^a*(v*(u/v)):=by rw[<-nD,B]
  rw[w,z];omega
def s0.fin{A v}{g M}{a Q}(c:s0 A v g M (0,a,Q)):val Q=A/v/\val a=A%v:=by have f:val a<v:=c.ub;have d:=k6 c.ur;have heq:A=val a+v*val Q:=c.eq;simp only at d;have i:0<v:=G;rw[heq,Int.add_mul_ediv_left _ _ G,Dg d f,K0,gk d f];exact⟨G,J⟩
def aiF{b1:O}(f:1<=b1)(g:b1<4294967296):2147483648<=b1*(4294967296/(b1+1)):=by
 have i:=nc 4294967296<|b1+1;have k:=g7 4294967296 (G:0<b1+1);generalize 4294967296/(b1+1)=d at*;generalize (4294967296:O)%(b1+1)=r at*;by_cases l:2147483648<=b1
 .have a:1<=d:=by
   by_cases e:1<=d
   .exact e
   .have:(b1+1)*d<=(b1+1)*0:=jR G G;omega
  have:b1*1<=b1*d:=jR a G;omega
 .have c:0<=(b1-1)*(4294967296-2*b1-2):=iL G G;have m:(b1-1)*(4294967296-2*b1-2)=b1*4294967296-2*(b1*b1)-4294967296+2:=by grind
  have n:(b1+1)*(b1*d)=b1*(4294967296-r):=by rw[show(b1+1)*(b1*d)=b1*((b1+1)*d)by grind];congr 1;omega
  have p:b1*(4294967296-b1)<=b1*(4294967296-r):=jR G G;have t:b1*(4294967296-b1)=b1*4294967296-b1*b1:=by rw[Dk]
  by_cases e:2147483648<=b1*d
  .exact e
  .exfalso;have:(b1+1)*(b1*d)<=(b1+1)*2147483647:=jR G G;omega
def Sm.of{a}(c:aC a<18446744073709551616):Sm a:=cj (Gv c) T
def x8 n(a: -9223372036854775808<=n)(c:n<=9223372036854775807):al z 30 [j n] (aQ (n:Rat)):=by refine aR Tryz.func30 ?_;refine N J<|w<|rc J J (iD n a c)<|rc J J (iD 1 T T)<|s J<|bQ J ?_;rfl
def Gz a:al z 40 [aQ a] (j<|dY a.num):=by refine aR Tryz.func40 ?_;refine N J<|bD J J (Ao a.num) J<|cx J
def K1 n d(f:d≠0):(Rat.divInt n d).num=n/(if d<0 then-((gP n d:Y):O)else((gP n d:Y):O))/\((Rat.divInt n d).den:O)=d/(if d<0 then-((gP n d:Y):O)else((gP n d:Y):O)):=by
 have c:((gP n d:Y):O)∣n:=Int.gcd_dvd_left ..;have a:((gP n d:Y):O)∣d:=Qp ..;have g:gP n d≠0:=by intro i;have:=(Qq.1 i).2;exact f this
 rw[Rat.num_divInt,Rat.den_divInt,b f,Int.gcd_comm d n];by_cases h:d<0
 .rw[aq h,Int.sign_eq_neg_one_of_neg h,Ar,Ar];refine⟨?_,?_⟩
  .rw[Int.neg_mul,jS,aiG c]
  .rw[wm,(G:((aC d:Y):O)= -d),aiG a]
 .rw[b h,Int.sign_eq_one_of_pos G,jS];refine⟨J,?_⟩;rw[wm,(G:((aC d:Y):O)=d)]
def aiH{k n}(c:Z (q k)=n+2){a}(g:a=E (q k) (n+1) 0){d:Y}(F:(d:O)=4294967296/(a+1)):
  1<=a/\a<4294967296/\1<=d/\d<4294967296/\((k*d:Y):O)<4294967296^(n+2)/\Z (q<|k*d)=n+2/\2147483648<=E (q<|k*d) (n+1) 0:=by
 have i:=db (dC k)<|n+1
 have C:=tS k
 have j:a≠0:=by
  rcases C with e|e
  .rw[e]at c;simp at c
  .rw[c]at e;rw[g];exact e
 rw[<-g]at i
 have H:=nc 4294967296<|a+1
 have K:=g6 4294967296 (G:a+1≠0)
 have o:=g7 4294967296 (G:0<a+1)
 have l:=aiF (b1:=a) G i.2
 rw[<-F]at H l
 have s:(1:O)<=d:=by
  by_cases e:(1:O)<=d
  .exact e
  .have:(d:O)=0:=by omega
   rw[this]at l;simp at l
 have w:(d:O)<4294967296:=by have:2*(d:O)<=(a+1)*d:=gG G G;omega
 have L:=Qn c
 rw[dS,<-g]at L
 have M:=me<|ix (dC k) n
 rw[(bX:Z (h n<|q k)=n)]at M
 have z:=k6<|ix (dC k) n
 have P:=db (dC k) n
 have D:=jc n
 generalize E (q k) n 0=f at*
 generalize val (h n<|q k)=I at*
 have p:(4294967296:O)^(n+1)=4294967296^n*4294967296:=ov n
 have Q:a*4294967296^(n+1)<=(k:O):=by have:(a*4294967296)*4294967296^n<=(a*4294967296+f)*4294967296^n:=gG G G;rw[p,show a*(4294967296^n*4294967296)=a*4294967296*4294967296^n by rw[ef (4294967296^n),iy]];omega
 have S:(k:O)<(a+1)*4294967296^(n+1):=by
  have r:(a*4294967296+f+1)*4294967296^n<=(a*4294967296+4294967296)*4294967296^n:=gG G G;have t:(a*4294967296+f+1)*4294967296^n=(a*4294967296+f)*4294967296^n+4294967296^n:=by rw[mX _ 1,jS]
  have u:(a*4294967296+4294967296)*4294967296^n=(a+1)*(4294967296^n*4294967296):=by generalize (4294967296:O)^n=y;grind
  rw[p,<-u];omega
 have A:((k*d:Y):O)<4294967296^(n+2):=by
  rw[eU,ov];have r:(k:O)*d<(a+1)*4294967296^(n+1)*d:=GA S G;have t:(a+1)*4294967296^(n+1)*d=4294967296^(n+1)*((a+1)*d):=by generalize (4294967296:O)^(n+1)=y;grind
  have u:4294967296^(n+1)*((a+1)*d)<=4294967296^(n+1)*4294967296:=jR G G;omega
 have B:Z (q<|k*d)=n+2:=by have r:Z (q<|k*d)<=n+2:=zq A;have t:=rR (m:=k) (k:=k*d)<|Qr _ G;omega
 refine⟨G,i.2,G,G,A,B,?_⟩
 have v:=Qn B
 have W:=me<|ix (dC<|k*d) n
 rw[(bX:Z (h n<|q<|k*d)=n)]at W
 have X:=db (dC<|k*d) n
 have b:=db (dC<|k*d)<|n+1
 rw[dS,eU]at v
 generalize E (q<|k*d) n 0=x at*
 generalize E (q<|k*d) (n+1) 0=c1 at*
 generalize val (h n<|q<|k*d)=J at*
 by_cases e:2147483648<=c1
 .exact e
 .exfalso;have r:(c1*4294967296+x+1)*4294967296^n<=(c1*4294967296+4294967296)*4294967296^n:=gG G G;have t:(c1*4294967296+x+1)*4294967296^n=(c1*4294967296+x)*4294967296^n+4294967296^n:=by rw[mX _ 1,jS]
  have u:(c1*4294967296+4294967296)*4294967296^n=(c1+1)*4294967296^(n+1):=by rw[p];generalize (4294967296:O)^n=y;grind
  have N:a*4294967296^(n+1)*d<=(k:O)*d:=gG Q G;have R:(c1+1)*4294967296^(n+1)<=a*d*4294967296^(n+1):=gG G G;have T:a*4294967296^(n+1)*d=a*d*4294967296^(n+1):=by generalize (4294967296:O)^(n+1)=y;grind
  omega
def Xy{c}{a}{d f}(g:a+Z d<=Z c)(i:Z f=Z d):cT (cT c a d) a f=cT c a f:=by unfold cT;rw[show(h a c++(d++az (a+Z d) c)).take a=h a c from Xr g,i];have k:(h a c).length=a:=bX;rw[List.drop_append,k,qp G,sF,(G:a+Z d-a=Z d),List.drop_left'];rfl
def aiI m k n(H:Z (q k)=n+2)(n9:k<=m)(lm:Z (q m)<=1099511627776):al z 186 [I ao (q m),I ao<|q k] (.t [(ah,[.S ao (q<|m/k)]),(ah,[.S ao (q<|m%k)])]):=by
 refine aR Tryz.func186 ?_;generalize rO:E (q k) (n+1) 0=b1;obtain⟨d,hd⟩:∃d:Y,(d:O)=4294967296/(b1+1):=⟨ae<|4294967296/(b1+1),ui<|xy T<|by have:=db (dC k)<|n+1;omega⟩;let ⟨f1,f2,f3,f4,f5,f6,f7⟩:=aiH H rO.symm hd;have FB:0<k:=by
  rcases pq k with r|r
  .subst r;rw[BP]at H;simp at H
  .exact r
 have hla:n+2<=Z (q m):=by rw[<-H];exact rR n9
 obtain⟨M,hM⟩:∃M,Z (q m)=M+(n+2):=⟨Z (q m)-(n+2),G⟩;have GB:((m*d:Y):O)<4294967296^(M+(n+2)+1):=by have h1:=so (n:=m);rw[hM]at h1;rw[ov,eU];have:=jc<|M+(n+2);have h2:(m:O)*d<=(m:O)*4294967296:=jR G G;omega
 have asT:Z (q<|m*d)<=M+(n+2)+1:=zq GB;have aiK:¬dy (m:O) (k:O)<0:=by unfold dy;rw[b G];split<;>decide
 refine N J<|U<|bD J J (Gu m k) J<|y J (λh=>absurd dH aiK)<|λ_=>aA ?_;refine U<|N J<|y J (λh=>?_)<|λ_=>aA ?_
 .exfalso;have h:(Z (q k):O)=1:=dH;omega
 have a2:ae ((Z (q k):O)-1)=n+1:=G;have x1:ax .u64 (ax .u64 (E (q k) (ae<|(Z (q k):O)-1) 0)+1)=b1+1:=by rw[a2,rO,wrap_u64 b1 G G,wrap_u64 _ G G]
 have x2:ax .u64 ((4294967296:O).tdiv<|ax .u64<|ax .u64 (E (q k) (ae<|(Z (q k):O)-1) 0)+1)=(d:O):=by rw[x1,Di T,<-hd,wrap_u64 _ G G]
 refine N J<|N J (hp:=by simp only[Pr.an,Pr.h,num,fR,true_and,and_true];rw[x1];omega) ?_;refine dU (st':=⟨[(0,I ao<|q m),(1,I ao<|q k),(8,j ((n+2:Y):O)),(9,cU d)],[],5,[]⟩) (wk ⟨sR J,sR J,⟨_,J,bf.of_eq<|a8 (λfK:Y=>j (fK:O)) H⟩,⟨_,J,bf.of_eq<|bL x2⟩,e⟩ e) ?_;refine w<|rc J J (Dd d G)<|rc J J (Qb k d G<|by have:=Gv (m:=d) G;omega)<|s J ?_;refine w<|rm ao (Z (q m)+1) J J J J J J (lM .u32) G ?_ ?_<|s J ?_
 .show _*4<=_;omega
 .show _*1<=_;omega
 refine w<|rc J J (Dd d G)<|rc J J (Qb m d G<|by have:=Gv (m:=d) G;omega) ?_;refine KK J J J J J Qs ay<|s J ?_;generalize P:q (m*d)++az (Z<|q<|m*d) (bp (Z (q m)+1) (0:O))=A;refine w<|rm ao (M+1) J J J J J J (lM .u32) G ?_ ?_<|s J ?_
 .show _*4<=_;omega
 .show _*1<=_;omega
 have K:val A=((m*d:Y):O):=by rw[<-P,BN,dS,(ay:az (Z<|q<|m*d) (bp (Z (q m)+1) (0:O))=bp (Z (q m)+1-Z (q<|m*d)) 0),I'];simp
 have L:bP A:=by rw[<-P];exact Ot (dC _)<|xv (p' _) _
 have Qt:Z A=M+(n+2)+1:=by rw[<-P];simp;omega
 have x9:(0:O)<((k*d:Y):O):=by have:0<k*d:=ya FB G;omega
 have uu:s0 ((m*d:Y):O) ((k*d:Y):O) (n+2) M (M+1,A,bp (M+1) 0):=by
  refine⟨a7 _,Qt,L,?_,ay,p' _,λi hi=>?_,?_⟩
  .show val (az (M+1) A)<_;have h1:=x7 A (M+1) G;have h2:=k6<|ix L<|M+1;have hp:=jc<|M+1;by_cases r:val (az (M+1) A)<((k*d:Y):O)
   .exact r
   .exfalso;have h3:4294967296^(M+1)*((k*d:Y):O)<=4294967296^(M+1)*val (az (M+1) A):=jR G G;have h4:=Ja (dC k) (tS k) (by intro r;rw[r]at H;simp at H);rw[dS,H,(G:n+2-1=n+1)]at h4;have h5:=so (n:=m);rw[hM,(G:M+(n+2)=M+1+(n+1)),Int.pow_add]at h5;have h6:4294967296^(M+1)*4294967296^(n+1)*(d:O)<=4294967296^(M+1)*((k*d:Y):O):=by rw[eU,iy];exact jR (gG h4 G) G
    have h7:(m:O)*d<4294967296^(M+1)*4294967296^(n+1)*(d:O):=GA h5 G;rw[K,eU m d]at h1;omega
  .show E (bp (M+1) (0:O)) i 0=0;rw[aV,ln];split<;>rfl
  .show _=val A+_*val (bp (M+1) 0);rw[I',K];omega
 refine U<|N J ?_;refine R<|aY (α:=Y×V O×V O) (λx=>⟨[(8,j ((n+2:Y):O)),(9,cU d),(10,I ao<|q<|k*d),(11,.c<|.X 6003000),(12,.c<|.X 8005000),(13,j<|(x.1:O)-1)],[(6003000,.vec 142 ao x.2.1),(8005000,.vec 142 ao x.2.2)],10,[]⟩) (s0 ((m*d:Y):O) ((k*d:Y):O) (n+2) M) (λx=>x.1) (M+1,A,bp (M+1) 0) uu (wk ⟨sR J,sR J,sR J,sR J,sR J,sE J ?_,e⟩<|vG J) ?_
 .exact a8 j G
 rintro⟨c,f,Q⟩ B;have o8:Z f=M+(n+2)+1:=B.ul;have p:bP f:=B.ur;have K2:Z Q=M+1:=B.ql;have Ky:c<=M+1:=B.k;refine U<|N J ?_;refine y J (λh=>?_)<|λh=>?_
 .have h:(c:O)-1>=0:=by simpa using h
  obtain⟨a,rfl⟩:∃a,c=a+1:=⟨c-1,G⟩;have ej:((a+1:Y):O)-1=(a:O):=G;rw[ej];have l:=B.next x9 f5;let ⟨_,wo⟩:=B.Qo f5;have hK:=Xw (U:=f) (v:=q<|k*d) (j:=a) (n:=n) p (dC _) f6 G f7 (by rw[dS];exact wo);have oU:=db (dC<|k*d)<|n+1;have o:=KO hK 2 ((E f (a+(n+2)) 0*4294967296+E f (a+(n+1)) 0)/E (q<|k*d) (n+1) 0)<|(E f (a+(n+2)) 0*4294967296+E f (a+(n+1)) 0)%E (q<|k*d) (n+1) 0;have D:=hK.first;generalize Qu:E (q<|k*d) (n+1) 0=v1 at o oU f7 D;generalize hte:E f (a+(n+2)) 0*4294967296+E f (a+(n+1)) 0=t at o D;have CL:=g6 t (G:v1≠0);have uq:=g7 t (G:0<v1);have o:=o (by have h1:=nc t v1;have h2:=ef (t/v1) v1;omega) CL G G D;rw[<-hte,<-Qu]at o;have Qv:=aiw f (q<|k*d) a n p (dC _) f6 G G hK;have wi:=hK.q0;generalize qG 2 ((E f (a+(n+2)) 0*4294967296+E f (a+(n+1)) 0)/E (q<|k*d) (n+1) 0) ((E f (a+(n+2)) 0*4294967296+E f (a+(n+1)) 0)%E (q<|k*d) (n+1) 0) (E (q<|k*d) (n+1) 0) (E (q<|k*d) n 0) (E f (a+n) 0)=g at*;rw[dS]at o wi;have Xz:=aiC f (q<|k*d) a (n+3) g p (dC _) G G G o.2.2 G;rw[dS]at Xz;rw[show n+2+1=n+3 from J]at l wo;generalize hu:val ((az a f).take<|n+3)=u at*;have Qw:=nc u ((k*d:Y):O);have Ge:=g6 u (G:((k*d:Y):O)≠0);have Dm:=g7 u x9;generalize hv:((k*d:Y):O)=v at*;refine aA<|U<|R ?_;refine w<|Xd a (a+(n+3)) J J J J J J G G (G:a+(n+3)<=Z f)<|s J ?_
  refine dU (st':=⟨[(8,j ((n+2:Y):O)),(9,cU d),(10,I ao<|q<|k*d),(11,.c<|.X 6003000),(12,.c<|.X 8005000),(13,j a),(14,.c<|.W 6003000 a<|n+3)],[(6003000,.vec 142 ao f),(8005000,.vec 142 ao Q)],12,[]⟩) (wk ⟨sR J,sR J,sR J,sR J,sR J,sR J,⟨_,J,bf.of_eq<|a8 (λfK=>AV.c<|C.W 6003000 a fK) G⟩,e⟩<|vG J) ?_;refine w<|xZ 6003000 J Qv J J<|s J ?_;refine U<|w<|xZ 6003000 J Xz J J<|s J ?_;have Dp:∀x,Z (bO (n+3) x)=n+3:=λx=>rU _ _
  refine y J (λh=>?_)<|λh=>?_
  .have h:u-g*v<0:=by simpa using h
   have F:g=u/v+1:=by
    by_cases r:g=u/v
    .subst r;have:=ef (u/v) v;omega
    .omega
   have Qx:g*v=v*(u/v)+v:=by rw[F,mX,jS,ef]
   have hr:bP (cT f a<|bO (n+3)<|u-g*v):=Qk p<|Gx _ _;have As:=aiD (cT f a<|bO (n+3)<|u-g*v) (q<|k*d) a (n+3) hr (dC _) (by rw[wj s6];omega) G (by rw[wj s6];omega);have e1:cT (cT f a<|bO (n+3)<|u-g*v) a (bO (n+3)<|val (List.take (n+3)<|az a<|cT f a<|bO (n+3)<|u-g*v)+val (q<|k*d))=cT f a (bO (n+3)<|u%v):=by rw[Xy s6 (by rw[Dp,Dp]),Ql s6,vw s6,iK s6,Gy,dS,hv];refine a8 (cT f a)<|KV _ _ _ ?_;rw[Int.emod_add_emod];congr 1;omega
   rw[e1]at As;have w1:ax .u64 (g-1)=u/v:=by rw[wrap_u64 _ G G];omega
   refine N J<|bT<|xZ 6003000 J As J J<|s J<|aO ?_;refine dU (st':=⟨[(8,j ((n+2:Y):O)),(9,cU d),(10,I ao<|q<|k*d),(11,.c<|.X 6003000),(12,.c<|.X 8005000),(13,j a),(15,cU<|u/v)],[(6003000,.vec 142 ao<|cT f a<|bO (n+3)<|u%v),(8005000,.vec 142 ao Q)],16,[]⟩) (wk ⟨sR J,sR J,sR J,sR J,sR J,sR J,⟨_,J,bf.of_eq<|bL w1⟩,e⟩<|vG J) ?_;refine rt J (hp:=jK) ?_;refine aX<|rt J<|aG (a,cT f a<|bO (n+3)<|u%v,Q.set a<|u/v) l (dL a)<|wk (bJ J) ⟨bR J,bE J ?_,e⟩;refine a8 (aN.vec 142 ao) ?_;show Q.set (ae (a:O)) (ax .u32<|u/v)=Q.set a (u/v);rw[bW,wrap_u32 _ G G]
  .have h:¬u-g*v<0:=by simpa using h
   have F:g=u/v:=by
    by_cases r:g=u/v
    .exact r
    .exfalso;have e2:g=u/v+1:=G;have Qx:g*v=v*(u/v)+v:=by rw[e2,mX,jS,ef]
     omega
   have e1:u-g*v=u%v:=by have:=ef (u/v) v;rw[F];omega
   refine aA ?_;refine dU (st':=⟨[(8,j ((n+2:Y):O)),(9,cU d),(10,I ao<|q<|k*d),(11,.c<|.X 6003000),(12,.c<|.X 8005000),(13,j a),(15,cU<|u/v)],[(6003000,.vec 142 ao<|cT f a<|bO (n+3)<|u%v),(8005000,.vec 142 ao Q)],16,[]⟩) (wk ⟨sR J,sR J,sR J,sR J,sR J,sR J,⟨_,J,bf.of_eq<|bL F⟩,e⟩ ⟨⟨_,J,kL.of_eq<|a8 (λfK=>aN.vec 142 ao<|cT f a<|bO (n+3) fK) e1⟩,bR J,e⟩) ?_;refine rt J (hp:=jK) ?_;refine aX<|rt J<|aG (a,cT f a<|bO (n+3)<|u%v,Q.set a<|u/v) l (dL a)<|wk (bJ J) ⟨bR J,bE J ?_,e⟩;refine a8 (aN.vec 142 ao) ?_;show Q.set (ae (a:O)) (ax .u32<|u/v)=Q.set a (u/v);rw[bW,wrap_u32 _ G G]
 .have h:¬(c:O)-1>=0:=by simpa using h
  have hc:c=0:=G;subst hc;let ⟨e1,e2⟩:=B.fin;have q1:aS Q=q (m/k):=by
   rw[n6 B.qr];show q (ae<|val Q)=_;rw[e1];have:((m*d:Y):O)/((k*d:Y):O)=((m/k:Y):O):=by rw[<-wm,Nat.mul_div_mul_right _ _ G]
   rw[this,bW]
  have q2:q (ae<|val (aS f)/(d:O))=q (m%k):=by
   rw[UX];show q (ae<|val f/(d:O))=_;rw[e2];have:((m*d:Y):O)%((k*d:Y):O)/(d:O)=((m%k:Y):O):=by rw[<-GC,Nat.mul_mod_mul_right,<-wm,Qy _ G]
   rw[this,bW]
  have wq:=Xk (aS f) (d:O) (UY p) G G (by
   have h2:Z (aS f)<=n+2:=by rw[n6 p];apply zq;have h3:val f<((k*d:Y):O):=B.ub;omega
   omega)
  rw[q2]at wq;refine a6<|aO<|c6 6003000 J J J<|c6 8005000 J J J ?_;refine w<|rc J J (x4 f)<|rc J J wq<|s J ?_;refine bD J J (x4 Q) J<|bQ J ?_;rw[q1]
def XA m k(c:k≠0)(a:Z (q m)<=1099511627776):al z 186 [I ao (q m),I ao<|q k] (.t [(ah,[.S ao (q<|m/k)]),(ah,[.S ao (q<|m%k)])]):=by
 by_cases h:m<k\/k<4294967296
 .exact aiv m k c h a
 .have f:2<=Z (q k):=by
   by_cases e:2<=Z (q k)
   .exact e
   .exfalso;have g:=so (n:=k);have d:=sp (m:=Z<|q k) (n:=1) G;rw[Int.pow_one]at d;omega
  exact aiI m k (Z (q k)-2) G G a
def Dq a c(n:c≠0)(m:Sm a)(k:Sm c):al z 183 [aZ a,aZ c] (.t [(af,av .z<|a/c),(af,av .z<|a%c),(ah,[.I .i64 0])]):=by
 refine aR Tryz.func183 ?_;refine N J<|U<|N J ?_;have d:aC c≠0:=G;refine y J (λh2=>?_)<|λh2=>?_
 .exfalso;have h2:(Z (dN c):O)=0:=o0;have:=ot.2 d;unfold dN at h2;omega
 .refine aA<|bD J J (XA _ _ d m) J<|U<|w ?_;refine rg 25 J J (λh3=>?_) (λh3=>?_)
  .have h3:a<0:=by simpa[b6]using h3
   refine s J<|y J (λh4=>?_)<|λh4=>?_
   .have h4:aC a%aC c≠0:=by have h4:(Z (q<|aC a%aC c):O)>0:=K3;exact ot.1 G
    let ⟨e1,f⟩:=Xn (qF d) h3 h4;have hz:b6 a=af:=Dr;let ⟨g,i⟩:=Dh a c (aC a/aC c+1) (aC c-aC a%aC c) Ds f;have p:aC a%aC c<aC c:=fb _<|qF d;refine w<|rl ao [_] J J (rc J J (Xi (aC a/aC c) 1 ?_ T)<|s J<|bT<|rc J J (Qa (aC c) _ G k)<|s J<|aO<|w ?_)
    .exact cj (rR<|Nat.div_le_self _ _) m
    refine rc J J (po _ _)<|rc J J (po _ _)<|s J<|bQ J ?_;rw[g,i];rfl
   .have h4:aC a%aC c=0:=by have h4:¬(Z (q<|aC a%aC c):O)>0:=K3;exact GD λl=>by have:=ot.2 l;omega
    let ⟨e1,f⟩:=Xm (qF d) h3 h4;have hz:b6 a=af:=Dr;let ⟨g,i⟩:=Dh a c (aC a/aC c) (aC a%aC c) Ds (by rw[f,h4];rfl);refine aA<|w<|rc J J (po _ _)<|rc J J (po _ _)<|s J<|bQ J ?_;rw[g,i];rfl
  .have h3:¬a<0:=by simpa[b6]using h3
   refine s J<|y J (λh4=>by simp at h4)<|λh4=>?_;let ⟨e1,f⟩:=Xl (qF d) h3;have hz:b6 a=ah:=Dr;let ⟨g,i⟩:=Dh a c (aC a/aC c) (aC a%aC c) Ds f;refine aA<|w<|rc J J (po _ _)<|rc J J (po _ _)<|s J<|bQ J ?_;rw[g,i];rfl
def aiM m k(A:Z (q m)<=1099511627776)(B:Z (q k)<=1099511627776):al z 148 [I ao (q m),I ao<|q k] (I ao<|q<|nb m k):=by
 refine aR Tryz.func148 ?_;refine N J<|U<|R<|aY (α:=Y×Y) (λx=>⟨[(0,I ao<|q x.1),(1,I ao<|q x.2)],[],1,[]⟩) (λx=>nb x.1 x.2=nb m k/\Z (q x.1)<=1099511627776/\Z (q x.2)<=1099511627776) (λx=>x.2) (m,k) ⟨J,A,B⟩ aH ?_;rintro⟨x,a⟩ ⟨hg,lx,l⟩;simp only at hg lx l;refine U<|N J ?_;refine y J (λh=>?_)<|λh=>?_
 .have C:a≠0:=by have h:(Z (q a):O)>0:=dH;exact ot.1 G
  have c:al z 186 [I ao (q x),I ao<|q a] (.t [(ah,[.S ao (q<|x/a)]),(ah,[.S ao (q<|x%a)])]):=XA x a C lx;have f:nb a (x%a)=nb m k:=by rw[<-hg,x6 x a,Nat.gcd_rec a x,x6]
  have g:x%a<a:=fb _ G;have i:Z (q<|x%a)<=1099511627776:=cj (rR G) l;refine aA<|R<|U<|w ?_;refine rg 13 J J (λh2=>?_)<|λh2=>?_
  .have h2:Z (q x)<=2:=by have h2:(Z (q x):O)<=2:=o0;omega
   refine s J<|y J (λh3=>?_)<|λh3=>?_
   .have h3:Z (q a)<=2:=by have h3:(Z (q a):O)<=2:=zD;omega
    have p:x<18446744073709551616:=by have F:=so (n:=x);have r:=sp h2;rw[show(4294967296:O)^2=18446744073709551616 from J]at r;omega
    have d:a<18446744073709551616:=by have F:=so (n:=a);have r:=sp h3;rw[show(4294967296:O)^2=18446744073709551616 from J]at r;omega
    refine w<|rc J J (Qc x p)<|rc J J (Qc a d)<|rc J J (ait x a p d)<|rc J J (Dd _ ?_)<|s J<|bI ?_
    .by_cases u:x=0
     .rw[u,Nat.gcd_zero_left];exact d
     .exact uv (Nat.gcd_le_left a G) p
    .repeat(first|refine cA ?_|refine jJ ?_|refine kd ?_)
     refine dR J ?_;rw[<-hg]
   .refine aA<|bD J J c J<|N J<|rt J<|eH<|aG (a,x%a) ⟨f,l,i⟩ g aH
  .refine s J<|y J (λh3=>by cases h3)<|λ_=>?_;refine aA<|bD J J c J<|N J<|rt J<|eH<|aG (a,x%a) ⟨f,l,i⟩ g aH
 .have h:Z (q a)=0:=by have:¬(Z (q a):O)>0:=dH;omega
  have u:a=0:=GD λv=>by have:=ot.2 v;omega
  subst u;refine a6<|aO<|N J<|bQ J ?_;rw[<-hg,KM]
def K4 a c(d:Sm a)(f:Sm c):al z 96 [aZ a,aZ c] (aZ<|gP a c):=by refine aR Tryz.func96 ?_;refine N J<|w ?_;refine rc J J (aiM _ _ d f)<|rc J J (po ah _)<|s J<|bQ J ?_;rfl
def Qz a c(f:Sm a)(g:Sm c):al z 209 [aZ a,aZ c] (aZ<|a-c):=by
 refine aR Tryz.func209 ?_;have d:Sm (-c):=by unfold Sm dN at g⊢;rwa[Int.natAbs_neg]
 have e:=we a (-c) f d;rw[<-QA]at e;exact N J<|w<|rc J J (Xh c)<|rc J J e<|s J<|cx J
def aiN a(i:0<=a)(k:a<9223372036854775808):al z 250 [aZ a] (.t [(ah,[.I .i64 a]),(ah,[.B af])]):=by
 refine aR Tryz.func250 ?_;have d:aC a<18446744073709551616:=G;have l:=Gv d;have f:b6 a=ah:=by simp[b6];omega
 refine N J<|U<|N J<|y J (λh=>?_)<|λ_=>aA ?_
 .exfalso;have h:(Z (dN a):O)>2:=dH;unfold dN at h;omega
 refine bD J J (Qc (aC a) d) J ?_;refine U<|w<|rg 15 J J (λh=>?_)<|λh=>?_
 .refine s J (y J (λc=>?_)<|λc=>?_)
  .have g: -9223372036854775808<=((aC a:Y):O)/\((aC a:Y):O)<=9223372036854775807:=by omega
   refine N J (bI<|cA<|dR J ?_) (hp:=g);exact a8 (λx=>AV.t [(ah,[C.I .i64 x]),(ah,[C.B af])]) G
  .exfalso;have e:decide (((aC a:Y):O)<9223372036854775808)=af:=rV G;rw[cond_true,e]at c;cases c
 .rw[f]at h;cases h
def GF(a:V O)(i:Y):al z 256 [I .z a,j i] (aZ<|E a i 0):=by
 refine aR Tryz.func256 ?_;refine N J<|U<|N J ?_;refine y J (λh=>?_)<|λh=>?_
 .have h:i<Z a:=by simpa using h
  refine N J<|bI<|cA<|dR J ?_;rfl
 .have h:¬i<Z a:=by simpa using h
  refine aA<|bD J J (iD 0 T T) J<|bQ J ?_;have e:E a i 0=0:=by simp[aV,jQ<|zp h]
  rw[e];rfl
def GG{a}:dY a=0↔a=0:=by
 unfold dY;split
 .omega
 .split<;>omega
def K5(a:V O):al z 255 [I .z a] (I .z<|aS a):=by
 refine aR Tryz.func255<|ug 0 J λg=>?_;have g:Z a*2<=140737488355328:=g;refine N J<|U<|R<|aY (α:=Y) (λk=>⟨[(0,I .z<|List.take k a)],[],1,[]⟩) (λk=>k<=Z a/\fq a k=fq a (Z a)) (λk=>k) (Z a) ⟨a7 _,J⟩ (wk ⟨⟨_,J,bf.of_eq<|by rw[fv]⟩,e⟩ e) ?_;rintro k ⟨l,c⟩;have d:(List.take k a).length=k:=bX;refine U<|w ?_;refine rg 6 J J (λh=>?_)<|λh=>?_
 .have h:0<k:=by have h:(((List.take k a).length:Y):O)>0:=dH;rw[d]at h;omega
  obtain⟨j,rfl⟩:∃j,k=j+1:=⟨k-1,G⟩;have f:ae (((List.take (j+1) a).length:O)-1)=j:=by rw[d];omega
  have ev:(List.take (j+1) a).getD j 0=E a j 0:=by rw[aV,EU G,<-aV]
  refine gK J J J J J (Ao<|(List.take (j+1) a).getD (ae<|((List.take (j+1) a).length:O)-1) 0) (s J ?_) (hp:=jK);refine y J (λh2=>?_)<|λh2=>?_
  .have h2:E a j 0=0:=by have h2:dY ((List.take (j+1) a).getD (ae<|((List.take (j+1) a).length:O)-1) 0)=0:=o0;rw[f,ev]at h2;exact GG.1 h2
   refine aA<|R<|rt J (eH<|aG j ⟨G,?_⟩ rQ<|wk ⟨sE J ?_,e⟩ e) (hp:=jK)
   .rw[<-c,fq,aq h2]
   .rw[f];simp only[o5,List.take_take];rw[qf G]
  .have h2:E a j 0≠0:=by have h2:¬dY ((List.take (j+1) a).getD (ae<|((List.take (j+1) a).length:O)-1) 0)=0:=o0;rw[f,ev]at h2;exact λi=>h2 (GG.2 i)
   refine a6<|aO<|N J<|bQ J ?_;unfold aS;rw[<-c,fq,b h2]
 .have h:k=0:=by have h:¬(((List.take k a).length:Y):O)>0:=dH;rw[d]at h;omega
  subst h;refine s J<|y J (λh2=>by simp at h2)<|λ_=>?_;refine a6<|aO<|N J<|bQ J ?_;unfold aS;rw[<-c];rfl
def jx(l:V Rat):Y->Y
 |0=>0
 |n+1=>if(E l n 0).num=0 then jx l n else n+1
def eV(l:V Rat):V Rat:=h (jx l<|Z l) l
def jL(A B:Y->O)(n:Y):Y->O
 |0=>0
 |i+1=>jL A B n i+A i*B (n-i)
def conv(A B:Y->O)(n:Y):O:=jL A B n<|n+1
def QB(A B:Y->O)(n:Y):∀k,(∀i,i<k->A i*B (n-i)=0)->jL A B n k=0
 |0,_=>rfl
 |k+1,a=>by simp only[jL,QB A B n k<|λi c=>a i G,a k G];rfl
def K6(A B:Y->O)(n d:Y):∀k,d<k->(∀i,i<k->i≠d->A i*B (n-i)=0)->jL A B n k=A d*B (n-d)
 |0,c,_=>by omega
 |k+1,c,h2=>by
  simp only[jL];by_cases a:k=d
  .subst a;rw[QB A B n k (λi f=>h2 i G G)];omega
  .rw[K6 A B n d k G (λi f=>h2 i G),h2 k G a];omega
def aiO{A B:Y->O}{a c}(d:∀i,a<i->A i=0)(f:∀i,c<i->B i=0):conv A B (a+c)=A a*B c:=by
 unfold conv
 rw[K6 A B (a+c) a _ G]
 .congr 2;omega
 .intro i g k;by_cases h:i<a
  .rw[f (a+c-i) G];simp
  .rw[d i G];simp
def kQ(a c:V O):V O:=(List.range<|Z a+Z c-1).map<|conv (λi=>E a i 0)<|λi=>E c i 0
def K7(m:Y)(a:m<18446744073709551616):al z 154 [cU m] (I ao<|q m):=by
 refine aR Tryz.func154 ?_;refine N J<|w ?_;have c:ax .u32 (m:O)=((m%4294967296:Y):O):=K8;have d:ax .u32 ((m:O).fdiv<|2^(min (ae (32:O))<|c7 .u64))=((m/4294967296:Y):O):=by
  have:(m:O).fdiv (2^(min (ae (32:O))<|c7 .u64))=((m/4294967296:Y):O):=by rw[At _ T];rfl
  rw[this,wrap_u32 _ G G]
 refine rl ao [_,_] J J ?_;refine rc J J (uk _) ?_;refine s J<|bQ J ?_;rw[c,d,Xe m a]
def oy neg m:al z 153 [cB neg,I ao<|q m] (aZ<|sg neg m):=by
 refine aR Tryz.func153 ?_;have f:=uk<|q m;rw[Ow]at f;refine N J<|bD J J f J<|U<|N J ?_;refine y J (λh=>?_)<|λh=>?_
 .have h:Z (q m)=0:=by have h:(Z (q m):O)=0:=dH;omega
  have i:m=0:=GD λa=>by have:=ot.2 a;omega
  subst i;refine N J<|bI<|cA<|gZ cq J ?_;have e:sg neg 0=0:=by cases neg<;>rfl
  rw[e];refine⟨?_,λl c=>by cases c⟩;rintro g v ⟨vs,rfl,v1,r,rfl,k,v2,n,rfl,d,rfl⟩;have d:v2= .slice none 0 0:=d;exact⟨_,J,v1,_,J,k,v2,_,J,by rw[d];exact WT g.H,J⟩
 .have h:Z (q m)≠0:=by have h:¬(Z (q m):O)=0:=dH;omega
  refine aA<|N J<|bQ J ?_;rw[<-Xg];have e:(neg&&decide (0<Z (q m)))=neg:=by have:0<Z (q m):=G;simp[this]
  rw[e];rfl
def K9(a:V O)(c:Z a<=1099511627776):al z 155 [I ao a] (I ao a):=by
 refine aR Tryz.func155 ?_;refine N J<|w<|ran J J J J J J J J ?_ ?_<|s J<|c6 1001000 J J J<|cx J
 .show(_+_/4+192)*4<=_;omega
 .show _*1<=_;omega
def QC n(d: -9223372036854775808<=n)(g:n<=9223372036854775807):al z 124 [j n] (aZ n):=by
 refine aR Tryz.func124 ?_;refine N J<|N J<|U<|N J ?_;refine y J (λh=>?_)<|λh=>?_
 .have h:n<0:=by simpa using h
  have e:ax .u64 (0-ax .u64 n)=(ae (-n):Y):=by simp[ax,c7,Dc];omega
  refine rt J<|aO<|w ?_;refine rc J J (f:=154) (r:=I ao<|q<|ae<| -n) (by rw[show(AV.c (num .u64<|0-ax .u64 n).1)=cU ((ae (-n):Y):O)from bL e];exact K7 _ G) ?_;refine rc J J (oy _ _)<|s J<|bQ J ?_;have a:sg (decide<|n<0) (ae<| -n)=n:=by unfold sg;simp[h];omega
  exact a8 aZ a
 .have h:¬n<0:=by simpa using h
  have e:ax .u64 n=(ae n:Y):=by rw[wrap_u64 _ G G];omega
  refine aA<|w ?_;refine rc J J (f:=154) (r:=I ao<|q<|ae n) (by rw[show(AV.c (num .u64 n).1)=cU ((ae n:Y):O)from bL e];exact K7 _ G) ?_;refine rc J J (oy _ _)<|s J<|bQ J ?_;have a:sg (decide<|n<0) (ae n)=n:=by unfold sg;simp[h];omega
  exact a8 aZ a
def XB a:al z 152 [aZ a] (j<|dY a):=by
 refine aR Tryz.func152 ?_;refine N J<|U<|N J ?_;refine y J (λh=>?_)<|λh=>?_
 .have h:a=0:=by
   have h:(Z (dN a):O)=0:=dH;have:aC a=0:=GD λd=>by have:=ot.2 d;unfold dN at h;omega
   omega
  refine N J<|bI<|cA<|dR J ?_;rw[h];rfl
 .have h:a≠0:=by have h:¬(Z (dN a):O)=0:=dH;intro f;subst f;exact h J
  refine aA<|U<|N J ?_;refine y J (λc=>?_)<|λc=>?_
  .have c:a<0:=by simpa[b6]using c
   refine N J<|bI<|cA<|dR J ?_;rw[dY,aq c];rfl
  .have c:¬a<0:=by simpa[b6]using c
   refine aA<|N J<|bQ J ?_;rw[dY,b c,b h];rfl
def QD a(c:Sm a):al z 125 [aZ a] (aZ<| -a):=by
 refine aR Tryz.func125 ?_;refine N J<|w<|rc J J (K9 _ c)<|rc J J (oy (!b6 a)<|aC a)<|s J<|bQ J ?_;have d:sg (!b6 a) (aC a)= -a:=by
  unfold sg b6;by_cases h:a<0
  .simp[h];omega
  .simp[h];omega
 exact a8 aZ d
def aiP a l(Q:bP a)(S:bP l)(W:Z a<=1099511627776)(lb:Z l<=1099511627776):al z 160 [I ao a,I ao l] (I ao<|q<|ae<|val a+val l):=by
 refine aR Tryz.func160 ?_;refine N J<|U<|N J ?_;refine y J (λh=>?_)<|λh=>?_
 .have p:Z a<=Z l:=by have h:Z a<Z l:=dH;omega
  rw[uo (val a)];refine rt J<|aO ?_;revert Q S W lb p;generalize l=X;generalize a=d;intro A B D lX p;refine dU (st':=⟨[(0,I ao X),(1,I ao d)],[],30,[]⟩) aH<|w ?_;refine rm ao (X.length+1) J J J J J J (lM .u32) J ?_ ?_ ?_
  .show _*4<=_;omega
  .show _*1<=_;omega
  refine s J<|N J<|U<|N J ?_;refine R<|aY (α:=Y×V O×O) (λx=>⟨[(0,I ao X),(1,I ao d),(5,.c<|.X 30003000),(6,cU x.2.2),(21,j X.length),(22,j x.1)],[(30003000,.vec 142 ao x.2.1)],33,[]⟩) (λx=>De X d (X.length+1) x/\x.1<=X.length) (λx=>X.length-x.1) (0,bp (X.length+1) 0,0) ?_ ?_ ?_
  .refine⟨⟨be _,ay,p' _,?_,eO _,Gq,Al⟩,be _⟩;intro jg _;simp only[aV,ln];split<;>rfl
  .exact wk (bJ J) ⟨bR J,e⟩
  .rintro⟨i,o,c⟩ ⟨g,m⟩;have m:i<=X.length:=m;have C:Z o=X.length+1:=g.len;have k:0<=c:=g.c0;have K:c<=1:=g.c1;have ga:=db B i;have gb:=db A i;refine N J<|U ?_;refine y J (λh=>?_) (λh=>?_)
   .have h:i<X.length:=by simpa using h
    have n:=g.next (G:i<X.length+1) B A;simp only at n;generalize ht:X.getD i 0+E d i 0+c=f at n;have F:ax .u32 f=f%4294967296:=by simp[ax,c7,Dc]
    have H:f.fdiv (2^(min (ae (32:O))<|c7 .u64))=f/4294967296:=by rw[At _ T];rfl
    refine aA<|U<|R<|N J<|N J<|U<|N J ?_;refine y J (λh2=>?_)<|λh2=>?_
    .have h2:i<Z d:=by simpa using h2
     refine rt J<|aO ?_;have t:ax .u64 (ax .u64 (ax .u64 (X.getD (ae (i:O)) 0)+c)+ax .u64 (E d (ae (i:O)) 0))=f:=by rw[bW,wrap_u64 (X.getD i 0) G G,wrap_u64 (E d i 0) G G,wrap_u64 (X.getD i 0+c) G G,wrap_u64 _ G G];omega
     refine dU (st':=⟨[(0,I ao X),(1,I ao d),(5,.c<|.X 30003000),(7,j i),(8,cU f),(21,j X.length),(22,j i)],[(30003000,.vec 142 ao o)],40,[]⟩) (wk ⟨sR J,sR J,sR J,sR J,⟨_,J,bf.of_eq<|bL t⟩,sR J,sR J,e⟩ ⟨bR J,e⟩) ?_;refine N J<|rt J<|aX<|rt J<|aG (i+1,o.set i<|f%4294967296,f/4294967296) ⟨n,K'⟩ La<|wk ⟨sR J,sR J,sR J,sE J ?_,sR J,sE J J,e⟩ ⟨bE J ?_,e⟩
     .exact bL H
     .rw[F,bW]
    .have h2:¬i<Z d:=by simpa using h2
     have L:E d i 0=0:=QE;refine aA ?_;have t:ax .u64 (ax .u64 (X.getD (ae (i:O)) 0)+c)=f:=by rw[bW,wrap_u64 (X.getD i 0) G G,wrap_u64 _ G G];omega
     refine dU (st':=⟨[(0,I ao X),(1,I ao d),(5,.c<|.X 30003000),(7,j i),(8,cU f),(21,j X.length),(22,j i)],[(30003000,.vec 142 ao o)],40,[]⟩) (wk ⟨sR J,sR J,sR J,sR J,⟨_,J,bf.of_eq<|bL t⟩,sR J,sR J,e⟩ ⟨bR J,e⟩) ?_;refine N J<|rt J<|aX<|rt J<|aG (i+1,o.set i<|f%4294967296,f/4294967296) ⟨n,K'⟩ La<|wk ⟨sR J,sR J,sR J,sE J ?_,sR J,sE J J,e⟩ ⟨bE J ?_,e⟩
     .exact bL H
     .rw[F,bW]
   .have h:¬i<X.length:=by simpa using h
    have m:i=X.length:=G;subst m;have M:ax .u32 c=c:=wrap_u32 c k G;refine a6<|aO<|N J ?_;refine dU (st':=⟨[(5,.c<|.X 30003000)],[(30003000,.vec 142 ao<|o.set X.length c)],40,[]⟩) (wk ⟨sR J,e⟩ ⟨bE J ?_,e⟩) ?_
    .rw[M,bW]
    refine c6 30003000 J J J<|bD J J (uk _) J<|bQ J ?_;have P:bP (o.set X.length c):=xw g.r _ ⟨k,G⟩;have u:=g.v;simp only[fv]at u;rw[lE d X.length p]at u;rw[n6 P,Gn o X.length c G<|g.z X.length<|a7 _,u]
 .have p:Z l<=Z a:=by have h:¬Z a<Z l:=dH;omega
  refine aA ?_;revert Q S W lb p;generalize a=X;generalize l=d;intro B A lX D p;refine dU (st':=⟨[(0,I ao X),(1,I ao d)],[],30,[]⟩) aH<|w ?_;refine rm ao (X.length+1) J J J J J J (lM .u32) J ?_ ?_ ?_
  .show _*4<=_;omega
  .show _*1<=_;omega
  refine s J<|N J<|U<|N J ?_;refine R<|aY (α:=Y×V O×O) (λx=>⟨[(0,I ao X),(1,I ao d),(5,.c<|.X 30003000),(6,cU x.2.2),(21,j X.length),(22,j x.1)],[(30003000,.vec 142 ao x.2.1)],33,[]⟩) (λx=>De X d (X.length+1) x/\x.1<=X.length) (λx=>X.length-x.1) (0,bp (X.length+1) 0,0) ?_ ?_ ?_
  .refine⟨⟨be _,ay,p' _,?_,eO _,Gq,Al⟩,be _⟩;intro jg _;simp only[aV,ln];split<;>rfl
  .exact wk (bJ J) ⟨bR J,e⟩
  .rintro⟨i,o,c⟩ ⟨g,m⟩;have m:i<=X.length:=m;have C:Z o=X.length+1:=g.len;have k:0<=c:=g.c0;have K:c<=1:=g.c1;have ga:=db B i;have gb:=db A i;refine N J<|U ?_;refine y J (λh=>?_) (λh=>?_)
   .have h:i<X.length:=by simpa using h
    have n:=g.next (G:i<X.length+1) B A;simp only at n;generalize ht:X.getD i 0+E d i 0+c=f at n;have F:ax .u32 f=f%4294967296:=by simp[ax,c7,Dc]
    have H:f.fdiv (2^(min (ae (32:O))<|c7 .u64))=f/4294967296:=by rw[At _ T];rfl
    refine aA<|U<|R<|N J<|N J<|U<|N J ?_;refine y J (λh2=>?_)<|λh2=>?_
    .have h2:i<Z d:=by simpa using h2
     refine rt J<|aO ?_;have t:ax .u64 (ax .u64 (ax .u64 (X.getD (ae (i:O)) 0)+c)+ax .u64 (E d (ae (i:O)) 0))=f:=by rw[bW,wrap_u64 (X.getD i 0) G G,wrap_u64 (E d i 0) G G,wrap_u64 (X.getD i 0+c) G G,wrap_u64 _ G G];omega
     refine dU (st':=⟨[(0,I ao X),(1,I ao d),(5,.c<|.X 30003000),(7,j i),(8,cU f),(21,j X.length),(22,j i)],[(30003000,.vec 142 ao o)],40,[]⟩) (wk ⟨sR J,sR J,sR J,sR J,⟨_,J,bf.of_eq<|bL t⟩,sR J,sR J,e⟩ ⟨bR J,e⟩) ?_;refine N J<|rt J<|aX<|rt J<|aG (i+1,o.set i<|f%4294967296,f/4294967296) ⟨n,K'⟩ La<|wk ⟨sR J,sR J,sR J,sE J ?_,sR J,sE J J,e⟩ ⟨bE J ?_,e⟩
     .exact bL H
     .rw[F,bW]
    .have h2:¬i<Z d:=by simpa using h2
     have L:E d i 0=0:=QE;refine aA ?_;have t:ax .u64 (ax .u64 (X.getD (ae (i:O)) 0)+c)=f:=by rw[bW,wrap_u64 (X.getD i 0) G G,wrap_u64 _ G G];omega
     refine dU (st':=⟨[(0,I ao X),(1,I ao d),(5,.c<|.X 30003000),(7,j i),(8,cU f),(21,j X.length),(22,j i)],[(30003000,.vec 142 ao o)],40,[]⟩) (wk ⟨sR J,sR J,sR J,sR J,⟨_,J,bf.of_eq<|bL t⟩,sR J,sR J,e⟩ ⟨bR J,e⟩) ?_;refine N J<|rt J<|aX<|rt J<|aG (i+1,o.set i<|f%4294967296,f/4294967296) ⟨n,K'⟩ La<|wk ⟨sR J,sR J,sR J,sE J ?_,sR J,sE J J,e⟩ ⟨bE J ?_,e⟩
     .exact bL H
     .rw[F,bW]
   .have h:¬i<X.length:=by simpa using h
    have m:i=X.length:=G;subst m;have M:ax .u32 c=c:=wrap_u32 c k G;refine a6<|aO<|N J ?_;refine dU (st':=⟨[(5,.c<|.X 30003000)],[(30003000,.vec 142 ao<|o.set X.length c)],40,[]⟩) (wk ⟨sR J,e⟩ ⟨bE J ?_,e⟩) ?_
    .rw[M,bW]
    refine c6 30003000 J J J<|bD J J (uk _) J<|bQ J ?_;have P:bP (o.set X.length c):=xw g.r _ ⟨k,G⟩;have u:=g.v;simp only[fv]at u;rw[lE d X.length p]at u;rw[n6 P,Gn o X.length c G<|g.z X.length<|a7 _,u]
def XC:ByteArray:={data:=(([0,1,2,2,3,3,3,3,4,4,4,4,4,4,4,4,5,5,5,5,5,5,5,5,5,5,5,5,5,5,5,5,6,6,6,6,6,6,6,6,6,6,6,6,6,6,6,6,6,6,6,6,6,6,6,6,6,6,6,6,6,6,6,6].append [7,7,7,7,7,7,7,7,7,7,7,7,7,7,7,7,7,7,7,7,7,7,7,7,7,7,7,7,7,7,7,7,7,7,7,7,7,7,7,7,7,7,7,7,7,7,7,7,7,7,7,7,7,7,7,7,7,7,7,7,7,7,7,7]).append<|[8,8,8,8,8,8,8,8,8,8,8,8,8,8,8,8,8,8,8,8,8,8,8,8,8,8,8,8,8,8,8,8,8,8,8,8,8,8,8,8,8,8,8,8,8,8,8,8,8,8,8,8,8,8,8,8,8,8,8,8,8,8,8,8].append [8,8,8,8,8,8,8,8,8,8,8,8,8,8,8,8,8,8,8,8,8,8,8,8,8,8,8,8,8,8,8,8,8,8,8,8,8,8,8,8,8,8,8,8,8,8,8,8,8,8,8,8,8,8,8,8,8,8,8,8,8,8,8,8]).toArray}
def XD(n:Y):Bool:=match Ga XC (n:O)with
 |some l=>decide (0<=l)&&decide (l<=8)&&Nat.blt n (2^ae l)&&(Nat.ble (2^ae l) (2*n)||Nat.beq n 0)
 |none=>ah
def aiQ:((List.range 256).all XD)=af:=dD
def aiR{n:Y}(f:n<256):∃l:Y,Ga XC (n:O)=some (l:O)/\l<=8/\n<2^l/\(2^l<=2*n\/n=0):=by
 have a:=mq.1 aiQ n<|oW.2 f;unfold XD at a;split at a
 .rename_i l e;simp only[cr,xJ,decide_eq_true_eq]at a;let ⟨⟨⟨h2,g⟩,d⟩,c⟩:=a;have d:=dc d;refine⟨ae l,by rw[ui h2];exact e,G,d,?_⟩;rcases c with c|c
  .exact .inl<|dc c
  .exact .inr<|kO c
 .cases a
def Lb{a}{t:TypeId}{x i}{f}{k}{d g}{l}(m:a.ev x=some (.c<|.V<|.string f))(n:a.ev i=some (.c<|.I k d))(p:o t dK=some l)(r:l.kind= .str)(u:Ga f d=some g):uj dK a (.index t x i)=some (.c<|.I .u8 g,.le 0 d):=by simp[uj,m,n,p,r,u]
def aiS a d(F:bP a)(H:bP d)(la:Z a<=1099511627776)(lb:Z d<=1099511627776):al z 191 [I ao a,I ao d] (I ao<|q<|ae<|val a*val d):=by
 refine aR Tryz.func191 ?_;refine N J<|w ?_;refine rm ao (Z a+Z d) J J J J J J (lM .u32) J ?_ ?_ ?_
 .show _*4<=_;omega
 .show _*1<=_;omega
 refine s J<|U<|N J ?_;refine R<|aY (α:=Y×V O) (λx=>⟨[(0,I ao a),(1,I ao d),(5,.c<|.X 1005000),(18,j<|Z a),(19,j x.1)],[(1005000,.vec 142 ao x.2)],3,[]⟩) (P' a d) (λx=>Z a-x.1) (0,bp (Z a+Z d) 0) ?_ ?_ ?_
 .refine⟨be _,ay,p' _,?_,Al⟩;intro jg _;simp only[aV,ln];split<;>rfl
 .exact wk (bJ J) ⟨bR J,e⟩
 .rintro⟨i,o⟩ l;have g:Z o=Z a+Z d:=l.len;refine N J<|U ?_;refine y J (λh=>?_) (λh=>?_)
  .have h:i<Z a:=by simpa using h
   have L:=db F i;refine aA<|U<|R<|N J<|N J<|N J<|U<|N J ?_;have M:ax .u64 (E a (ae (i:O)) 0)=E a i 0:=by rw[bW,wrap_u64 _ G G]
   refine R<|aY (α:=Y×V O×O) (λx=>⟨[(0,I ao a),(1,I ao d),(5,.c<|.X 1005000),(6,j i),(7,cU x.2.2),(8,cU<|E a i 0),(18,j<|Z a),(19,j i),(28,j<|Z d),(29,j x.1)],[(1005000,.vec 142 ao x.2.1)],8,[]⟩) (An a d i) (λx=>Z d-x.1) (0,o,0) ?_ ?_ ?_
   .refine⟨be _,g,l.r,l.z,eO _,(by show(0:O)<_;decide),?_⟩;have:=l.v;simp only at this;simp[this,val]
   .exact wk ⟨sR J,sR J,sR J,sR J,sR J,⟨_,J,bf.of_eq<|bL M⟩,sR J,sR J,sR J,sR J,e⟩ ⟨bR J,e⟩
   .rintro⟨k,o,c⟩ m;have g:Z o=Z a+Z d:=m.len;have t:0<=c:=m.c0;have u:c<4294967296:=m.c1;refine N J<|U ?_;refine y J (λp=>?_) (λp=>?_)
    .have p:k<Z d:=by simpa using p
     have P:=db H k;have Q:=db m.r<|i+k;simp only at Q;have gm:=Gt L.1 G P.1 G;refine aA<|U<|R<|N J<|N J ?_ (hp:=jK);have f:ae ((i:O)+(k:O))=i+k:=G;have C:ax .u64 (ax .u64 (ax .u64 (E a i 0*ax .u64 (E d (ae (k:O)) 0))+ax .u64 (E o (ae<|(i:O)+(k:O)) 0))+c)=E a i 0*E d k 0+E o (i+k) 0+c:=by rw[f,bW,wrap_u64 (E d k 0) G G,wrap_u64 (E o (i+k) 0) G G,wrap_u64 (E a i 0*E d k 0) G G,wrap_u64 (E a i 0*E d k 0+E o (i+k) 0) G G,wrap_u64 _ G G]
     have A:=m.next h p F H;simp only at A;generalize ht:E a i 0*E d k 0+E o (i+k) 0+c=n at A C;have B:ax .u32 n=n%4294967296:=by simp[ax,c7,Dc]
     have S:n.fdiv (2^(min (ae (32:O))<|c7 .u64))=n/4294967296:=by rw[At _ T];rfl
     refine dU (st':=⟨[(0,I ao a),(1,I ao d),(5,.c<|.X 1005000),(6,j i),(8,cU<|E a i 0),(9,j k),(10,cU n),(18,j<|Z a),(19,j i),(28,j<|Z d),(29,j k)],[(1005000,.vec 142 ao o)],12,[]⟩) (wk ⟨sR J,sR J,sR J,sR J,sR J,sR J,sE J ?_,sR J,sR J,sR J,sR J,e⟩ ⟨bR J,e⟩) ?_
     .exact bL C
     refine N J<|rt J<|aX<|rt J<|aG (k+1,o.set (i+k)<|n%4294967296,n/4294967296) A (G:Z d-(k+1)<Z d-k)<|wk ⟨sR J,sR J,sR J,sR J,sE J ?_,sR J,sR J,sR J,sR J,sE J ?_,e⟩ ⟨bE J ?_,e⟩
     .exact bL S
     .rfl
     .rw[B,f]
    .have p:¬k<Z d:=by simpa using p
     have W:k=Z d:=by have:=m.k;simp only at this;omega
     subst W;have D:=m.done h;have f:ae ((i:O)+(Z d:O))=i+Z d:=G;have B:ax .u32 c=c:=wrap_u32 c t u;refine a6<|aO<|rt J<|aX<|rt J<|aG (i+1,o.set (i+Z d) c) D oq<|wk ⟨sR J,sR J,sR J,sR J,sE J ?_,e⟩ ⟨bE J ?_,e⟩
     .rfl
     .rw[B,f]
  .have h:¬i<Z a:=by simpa using h
   have hi:i=Z a:=by have:=l.i;simp only at this;omega
   subst hi;refine a6<|aO<|c6 1005000 J J J<|w ?_;refine rc J J (uk _)<|s J<|bQ J ?_;have K:=l.v;simp only[fv]at K;rw[n6 l.r];simp only[K]
def XE m k(a:Z (q m)<=1099511627776)(c:Z (q k)<=1099511627776):al z 160 [I ao (q m),I ao<|q k] (I ao<|q<|m+k):=by have:=aiP (q m) (q k) (dC m) (dC k) a c;rw[dS,dS,(G:ae ((m:O)+(k:O))=m+k)]at this;exact this
def aiT m k(a:Z (q m)<=1099511627776)(c:Z (q k)<=1099511627776):al z 191 [I ao (q m),I ao<|q k] (I ao<|q<|m*k):=by have:=aiS (q m) (q k) (dC m) (dC k) a c;rw[dS,dS,show ae ((m:O)*(k:O))=m*k by rw[<-eU];rfl]at this;exact this
def aiU a c(k:Sm a)(l:Sm c):al z 159 [aZ a,aZ c] (aZ<|a*c):=by
 refine aR Tryz.func159 ?_;refine N J<|w ?_;refine rc J J (aiT _ _ k l)<|rc J J (oy _ _)<|s J<|bQ J ?_;have m:sg (b6 a !=b6 c) (aC a*aC c)=a*c:=by have d:=x5 a;have f:=x5 c;generalize aC a=x at d⊢;generalize aC c=y at f⊢;cases g:b6 a<;>cases i:b6 c<;>rw[g]at d<;>rw[i]at f<;>simp only[sg,b9,bN,gY]at d f<;>rw[<-d,<-f]<;>simp[sg]<;>grind
 exact a8 aZ m
def nO.fs{P}{f}{args}{bx}{d}{xs}(cF:nO P f args bx d xs):al P f args (.c<|.S d xs):=by
 refine⟨cF.call,J,λH W vs y i z=>?_⟩;let ⟨e,D,I,⟨v,t,q,x,hle,A,l,m⟩,h2⟩:=cF.spec H W vs y i z;refine⟨e,D,I,?_,h2⟩;rcases x with⟨a,C⟩|⟨b,r,F,a,N,O,K,B,s,V,R⟩
 .subst C;refine⟨v,t,q,?_,hle,A,l,m⟩;have a:v= .slice none 0 0:=a;exact⟨none,0,a,ay,ay,.inl J⟩
 .have a:v= .slice (some ⟨b,0,none⟩) (Z xs) r:=a;have p:cK t (λg o=>if g=b then(if o<Z xs*d.n then F[o]? else none)else t g o):=by
   intro g o v i;by_cases e:g=b
   .subst e;have:t g o=none:=R o;rw[this]at i;cases i
   .simp[e,i]
  refine⟨v,λg o=>if g=b then(if o<Z xs*d.n then F[o]? else none)else t g o,q,?_,cK.trans hle p,?_,?_,m⟩
  .refine⟨some ⟨b,0,none⟩,r,a,K,B,?_⟩;by_cases C:xs=[]
   .exact .inl C
   .refine .inr ⟨b,0,J,λk w=>⟨(az (k*d.n) F).take d.n,cV.length d _ _<|s k w,cV.mono p d _ _<|s k w,λj U=>?_⟩⟩;have L:(k+1)*d.n<=r*d.n:=dT _ G;have M:(k+1)*d.n<=Z xs*d.n:=dT _ G;rw[fD,hO]at L M;simp only[fp,CI]at U;have Q:k*d.n+j<Z xs*d.n:=G;simp only[b9,eF,qm,sC,Q];exact cH G
  .intro g o X;have:g≠b:=G;simp only[this,bN];exact A g o X
  .intro g o u i;by_cases e:g=b
   .subst e;simp only[b9]at i;split at i
    .simp[World.cell?,N,i]
    .cases i
   .simp only[e,bN]at i;exact l g o u i
def aiV{P}{n}{x d}{f}{Q}{g:Type}(c:g->St)(i:g->Prop)(a:∀m,i m->TR P n d (c m) Q)(k:(∀m,i m->e9 n .normal (c m) (sI P d Q))->TR P n x f (sI P d Q)):TR P n (.seq x d) f Q:=
 U (k λm l=>aO<|a m l)
def jk{P}{n}{x d}{f}{Q}c(a:TR P n d c Q)(g:e9 n .normal c (sI P d Q)->TR P n x f (sI P d Q)):TR P n (.seq x d) f Q:=
 U (g<|aO a)
def dM{n}{c}{d a}{Q}(f:e9 n c a Q)(g:Wk d a):e9 n c d Q:=Pc g f
def Au x c a(f:0<=x)(g:x%2^a=0)(i:0<=c)(d:c<2^a)(n:x+c<18446744073709551616):
  ax .u64 ((iA (c7 .u64) x|||iA (c7 .u64) c).toNat:O)=x+c:=by
 obtain⟨X,rfl⟩:=Av f
 obtain⟨C,rfl⟩:=Av i
 have k:((X:O)%2^a)=((X%2^a:Y):O):=ay
 rw[k]at g
 have d:C<2^a:=by
  have:((C:Y):O)<((2^a:Y):O):=by rw[s7];exact d
  omega
 have l:(iA (c7 .u64) (X:O)|||iA (c7 .u64) (C:O)).toNat=X+C:=by
  rw[Lc,Lc,BitVec.toNat_or,Ld,Ld,show c7 .u64=64 from J,ou G,ou G];have m:X=2^a*(X/2^a):=by have:=qx X<|2^a;omega
  rw[m,<-Nat.two_pow_add_eq_or_of_lt d]
 rw[l,wrap_u64 _ G G];omega
def yb x a(c:0<=x)(d:a<=64)(f:x*2^a<18446744073709551616):ax .u64 (x*2^(min (ae ((a:Y):O))<|c7 .u64))=x*2^a:=by rw[bW,show min a (c7 .u64)=a from qf d,wrap_u64 _ (iL c<|XF T) f]
def yc(x:O) a(c:a<=64):x.fdiv (2^(min (ae ((a:Y):O))<|c7 .u64))=x/2^a:=by rw[bW,show min a (c7 .u64)=a from qf c,At _<|XF T]
def XG(x:O) a(c:a<=32):x.fdiv (2^(min (ae ((a:Y):O))<|c7 .u32))=x/2^a:=by rw[bW,show min a (c7 .u32)=a from qf c,At _<|XF T]
def aiW(x:Y)(u:0<x)(B:x<4294967296):∃l:Y,al z 245 [cW x] (j l)/\l<=32/\1<=l/\x<2^l/\2^l<=2*x:=by
 obtain⟨y,n,r,hy,ex⟩:∃y n:Y,(n=0/\y=x/\x<256\/n=8/\y=x/256/\256<=x/\x<65536\/n=16/\y=x/65536/\65536<=x/\x<16777216\/n=24/\y=x/65536/256/\16777216<=x)/\y<256/\0<y:=by
  by_cases a1:x<256
  .exact⟨x,0,.inl ⟨J,J,a1⟩,a1,u⟩
  .by_cases a2:x<65536
   .exact⟨x/256,8,.inr<|.inl ⟨J,J,G,a2⟩,G,G⟩
   .by_cases v:x<16777216
    .exact⟨x/65536,16,.inr<|.inr<|.inl ⟨J,J,G,v⟩,G,G⟩
    .exact⟨x/65536/256,24,.inr<|.inr<|.inr ⟨J,J,G⟩,G,G⟩
 let ⟨l,el,C,h2,t⟩:=aiR hy;have t:2^l<=2*y:=G;have F:1<=l:=by
  by_cases A:l=0
  .subst A;simp at h2;omega
  .omega
 refine⟨n+l,?_,G,G,?_,?_⟩
 .have g:(x:O).fdiv (2^(min (ae ((16:Y):O))<|c7 .u32))=((x/65536:Y):O):=by rw[XG _ _ G];omega
  have p:∀k:Y,(k:O).fdiv (2^(min (ae ((8:Y):O))<|c7 .u32))=((k/256:Y):O):=λk=>by rw[XG _ _ G];omega
  have XH:∀k:Y,k<256->ax .u8 (k:O)=(k:O):=λk H=>by simp[ax,c7,Dc];omega
  refine aR Tryz.func245 ?_;refine N J<|U<|N J ?_;refine Cy J (λm=>?_)<|λm=>?_
  .have m:65536<=x:=by have m:(65536:O)<=(x:O):=aK m;omega
   refine N J (hp:=aF)<|rt J<|aO<|U<|N J ?_;refine Cy J (λd=>?_)<|λd=>?_
   .have d:256<=x/65536:=by have d:(256:O)<=(x:O).fdiv (2^(min (ae ((16:Y):O))<|c7 .u32)):=aK d;rw[g]at d;omega
    refine N J (hp:=aF)<|rt J (hp:=aF)<|aO ?_;refine dU (st':=⟨[(0,cW y),(2,j n)],[],9,[]⟩) (wk ⟨⟨_,J,bf.of_eq<|CH<|by show QF (QF (x:O)<|2^(min (ae ((16:Y):O))<|c7 .u32)) (2^(min (ae ((8:Y):O))<|c7 .u32))=_;rw[g,p];omega⟩,⟨_,J,bf.of_eq<|im G⟩,e⟩ e) ?_;refine w<|rx (x:= .c<|.I .u8 l) (pm:= .le 0<|ax .u8 (y:O)) J (Lb J J J J Le) Lf (hp:=aF)<|s J (hp:=aF)<|bQ J<|im ?_;show(n:O)+(l:O)=((n+l:Y):O);omega
   .have d:x/65536<256:=by have d:¬(256:O)<=(x:O).fdiv (2^(min (ae ((16:Y):O))<|c7 .u32)):=aT d;rw[g]at d;omega
    refine aA ?_;refine dU (st':=⟨[(0,cW y),(2,j n)],[],5,[]⟩) (wk ⟨⟨_,J,bf.of_eq<|CH<|by show QF (x:O) (2^(min (ae ((16:Y):O))<|c7 .u32))=_;rw[g];omega⟩,⟨_,J,bf.of_eq<|im G⟩,e⟩ e) ?_;refine w<|rx (x:= .c<|.I .u8 l) (pm:= .le 0<|ax .u8 (y:O)) J (Lb J J J J Le) Lf (hp:=aF)<|s J (hp:=aF)<|bQ J<|im ?_;show(n:O)+(l:O)=((n+l:Y):O);omega
  .have m:x<65536:=by have m:¬(65536:O)<=(x:O):=aT m;omega
   refine aA<|U<|N J ?_;refine Cy J (λd=>?_)<|λd=>?_
   .have d:256<=x:=by have d:(256:O)<=(x:O):=aK d;omega
    refine N J (hp:=aF)<|rt J (hp:=aF)<|aO ?_;refine dU (st':=⟨[(0,cW y),(2,j n)],[],5,[]⟩) (wk ⟨⟨_,J,bf.of_eq<|CH<|by show QF (x:O) (2^(min (ae ((8:Y):O))<|c7 .u32))=_;rw[p];omega⟩,⟨_,J,bf.of_eq<|im G⟩,e⟩ e) ?_;refine w<|rx (x:= .c<|.I .u8 l) (pm:= .le 0<|ax .u8 (y:O)) J (Lb J J J J Le) Lf (hp:=aF)<|s J (hp:=aF)<|bQ J<|im ?_;show(n:O)+(l:O)=((n+l:Y):O);omega
   .have d:x<256:=by have d:¬(256:O)<=(x:O):=aT d;omega
    refine aA ?_;refine dU (st':=⟨[(0,cW y),(2,j n)],[],3,[]⟩) (wk ⟨⟨_,J,bf.of_eq<|CH (G:(x:O)=(y:O))⟩,⟨_,J,bf.of_eq<|im G⟩,e⟩ e) ?_;refine w<|rx (x:= .c<|.I .u8 l) (pm:= .le 0<|ax .u8 (y:O)) J (Lb J J J J Le) Lf (hp:=aF)<|s J (hp:=aF)<|bQ J<|im ?_;show(n:O)+(l:O)=((n+l:Y):O);omega
 .rcases r with⟨f,i,a⟩|⟨f,i,a⟩|⟨f,i,a⟩|⟨f,i,a⟩
  .subst f i;simpa using h2
  .subst f;rw[mE];omega
  .subst f;rw[mE];omega
  .subst f;rw[mE];omega
 .rcases r with⟨f,i,a⟩|⟨f,i,a⟩|⟨f,i,a⟩|⟨f,i,a⟩
  .subst f i;simpa using t
  .subst f;rw[mE];omega
  .subst f;rw[mE];omega
  .subst f;rw[mE];omega
end Go.El
