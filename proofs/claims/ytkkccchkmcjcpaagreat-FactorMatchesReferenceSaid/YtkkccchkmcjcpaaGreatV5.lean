/- Contracts: integers of the reference: division. Own work; no condition. -/
import Derived.Test.YtkkccchkmcjcpaaGreatV4
import Derived.Test.YtkkccchkmcjcpaaGreatV3
import Derived.Test.YtkkccchkmcjcpaaGreatV1
set_option linter.all false
set_option maxHeartbeats 16000000
set_option maxRecDepth 100000
open BitVec renaming ofInt->iq
open Bool renaming false->ah
open Decidable renaming byContradiction->GN
open Go.El renaming rr->e,cS->N,vL->q,gy->L,cI->D,re->o,auI->z,rb->t,kZ->w
open Go.IntKind renaming wrap->ao,bits->cr,signed->AY
open Go.Proofs.Tryz renaming prog->j
open Int renaming toNat->ad,natAbs->aq,gcd->fh,pow_nonneg->Yz,fdiv->Rb
open List renaming length->G,getD->Y,take->y,drop->aE,replicate->bh,range->be
open Nat renaming gcd->lZ
open Rat renaming divInt->iE
open _root_ renaming Nat->I,Int->Z,List->V
namespace Go.El
open Go Go.Proofs Go.RowKit
def ajv{k n}(b:G (aj k)=n+2){a}(f:a=Y (aj k) (n+1) 0){d:I}(H:(d:Z)=4294967296/(a+1)):
  1<=a/\a<4294967296/\1<=d/\d<4294967296/\((k*d:I):Z)<4294967296^(n+2)/\G (aj<|k*d)=n+2/\2147483648<=Y (aj<|k*d) (n+1) 0:=by
 have g:=dp (eh k)<|n+1
 have K:=ud k
 have s:a≠0:=by
  rcases K with e|e
  .rw[e]at b;simp at b
  .rw[b]at e;rw[f];exact e
 rw[<-f]at g
 have P:=oi 4294967296<|a+1
 have Q:=fS 4294967296 (S:a+1≠0)
 have t:=gA 4294967296 (S:0<a+1)
 have i:=ajq (b1:=a) S g.2
 rw[<-H]at P i
 have u:(1:Z)<=d:=by
  by_cases e:(1:Z)<=d
  .exact e
  .have:(d:Z)=0:=by omega
   rw[this]at i;simp at i
 have w:(d:Z)<4294967296:=by have:2*(d:Z)<=(a+1)*d:=iU S S;omega
 have R:=QV b
 rw[eN,<-f]at R
 have U:=nC<|j5 (eh k) n
 rw[(bP:G (y n<|aj k)=n)]at U
 have z:=mN<|j5 (eh k) n
 have W:=dp (eh k) n
 have A:=kE n
 generalize Y (aj k) n 0=c at*
 generalize val (y n<|aj k)=D at*
 have l:(4294967296:Z)^(n+1)=4294967296^n*4294967296:=pC n
 have X:a*4294967296^(n+1)<=(k:Z):=by have:(a*4294967296)*4294967296^n<=(a*4294967296+c)*4294967296^n:=iU S S;rw[l,show a*(4294967296^n*4294967296)=a*4294967296*4294967296^n by rw[ew (4294967296^n),jb]];omega
 have h:(k:Z)<(a+1)*4294967296^(n+1):=by
  have p:(a*4294967296+c+1)*4294967296^n<=(a*4294967296+4294967296)*4294967296^n:=iU S S;have r:(a*4294967296+c+1)*4294967296^n=(a*4294967296+c)*4294967296^n+4294967296^n:=by rw[nb _ 1,j7]
  have v:(a*4294967296+4294967296)*4294967296^n=(a+1)*(4294967296^n*4294967296):=by generalize (4294967296:Z)^n=x;grind
  rw[l,<-v];omega
 have E:((k*d:I):Z)<4294967296^(n+2):=by
  rw[fF,pC];have p:(k:Z)*d<(a+1)*4294967296^(n+1)*d:=GV h S;have r:(a+1)*4294967296^(n+1)*d=4294967296^(n+1)*((a+1)*d):=by generalize (4294967296:Z)^(n+1)=x;grind
  have v:4294967296^(n+1)*((a+1)*d)<=4294967296^(n+1)*4294967296:=ja S S;omega
 have F:G (aj<|k*d)=n+2:=by have p:G (aj<|k*d)<=n+2:=Ak E;have r:=rJ (m:=k) (k:=k*d)<|Bb _ S;omega
 refine⟨S,g.2,S,S,E,F,?_⟩
 have B:=QV F
 have j:=nC<|j5 (eh<|k*d) n
 rw[(bP:G (y n<|aj<|k*d)=n)]at j
 have o:=dp (eh<|k*d) n
 have q:=dp (eh<|k*d)<|n+1
 rw[eN,fF]at B
 generalize Y (aj<|k*d) n 0=C at*
 generalize Y (aj<|k*d) (n+1) 0=c1 at*
 generalize val (y n<|aj<|k*d)=J at*
 by_cases e:2147483648<=c1
 .exact e
 .exfalso;have p:(c1*4294967296+C+1)*4294967296^n<=(c1*4294967296+4294967296)*4294967296^n:=iU S S;have r:(c1*4294967296+C+1)*4294967296^n=(c1*4294967296+C)*4294967296^n+4294967296^n:=by rw[nb _ 1,j7]
  have v:(c1*4294967296+4294967296)*4294967296^n=(c1+1)*4294967296^(n+1):=by rw[l];generalize (4294967296:Z)^n=x;grind
  have L:a*4294967296^(n+1)*d<=(k:Z)*d:=iU X S;have M:(c1+1)*4294967296^(n+1)<=a*d*4294967296^(n+1):=iU S S;have N:a*4294967296^(n+1)*d=a*d*4294967296^(n+1):=by generalize (4294967296:Z)^(n+1)=x;grind
  omega
def Yt{U}{a}{b c}(d:a+G b<=G U)(f:G c=G b):cZ (cZ U a b) a c=cZ U a c:=by unfold cZ;rw[show(y a U++(b++aE (a+G b) U)).take a=y a U from Yk d,f];have g:(y a U).length=a:=bP;rw[List.drop_append,g,wX S,sV,(S:a+G b-a=G b),List.drop_left'];rfl
def ajw m k n(F:G (aj k)=n+2)(wR:k<=m)(lm:G (aj m)<=1099511627776):af j 152 [N al (aj m),N al<|aj k] (.t [(ah,[.S al (aj<|m/k)]),(ah,[.S al (aj<|m%k)])]):=by
 refine aD Tryz.func152 ?_;generalize w:Y (aj k) (n+1) 0=b1;obtain⟨d,hd⟩:∃d:I,(d:Z)=4294967296/(b1+1):=⟨ad<|4294967296/(b1+1),Bc<|uh A<|by have:=dp (eh k)<|n+1;omega⟩;let ⟨f1,f2,f3,f4,f5,f6,f7⟩:=ajv F w.symm hd;have s5:0<k:=by
  rcases qF k with p|p
  .subst p;rw[Cz]at F;simp at F
  .exact p
 have GW:n+2<=G (aj m):=by rw[<-F];exact rJ wR
 obtain⟨b,hM⟩:∃b,G (aj m)=b+(n+2):=⟨G (aj m)-(n+2),S⟩;have QX:((m*d:I):Z)<4294967296^(b+(n+2)+1):=by have h1:=uf (n:=m);rw[hM]at h1;rw[pC,fF];have:=kE<|b+(n+2);have h2:(m:Z)*d<=(m:Z)*4294967296:=ja S S;omega
 have auR:G (aj<|m*d)<=b+(n+2)+1:=Ak QX;have O:¬cX (m:Z) (k:Z)<0:=by unfold cX;rw[M S];split<;>decide
 refine e J<|L<|aO J J (GK m k) J<|z J (λh=>absurd du O)<|λ_=>ai ?_;refine L<|e J<|z J (λh=>?_)<|λ_=>ai ?_
 .exfalso;have h:(G (aj k):Z)=1:=du;omega
 have a2:ad ((G (aj k):Z)-1)=n+1:=S;have x1:ao .u64 (ao .u64 (Y (aj k) (ad<|(G (aj k):Z)-1) 0)+1)=b1+1:=by rw[a2,w,wrap_u64 b1 S S,wrap_u64 _ S S]
 have x2:ao .u64 ((4294967296:Z).tdiv<|ao .u64<|ao .u64 (Y (aj k) (ad<|(G (aj k):Z)-1) 0)+1)=(d:Z):=by rw[x1,DA A,<-hd,wrap_u64 _ S S]
 refine e J<|e J (hp:=by simp only[Pr.an,Pr.h,num,eO,true_and,and_true];rw[x1];omega) ?_;refine dc (st':=⟨[(0,N al<|aj m),(1,N al<|aj k),(8,D ((n+2:I):Z)),(9,cU d)],[],5,[]⟩) (wk ⟨sR J,sR J,⟨_,J,a7.of_eq<|aC (λg6:I=>D (g6:Z)) F⟩,⟨_,J,a7.of_eq<|bA x2⟩,T⟩ T) ?_;refine t<|rc J J (AZ d S)<|rc J J (QF k d S<|by have:=xx (m:=d) S;omega)<|o J ?_;refine t<|rm al (G (aj m)+1) J J J J J J (kH .u32) S ?_ ?_<|o J ?_
 .show _*4<=_;omega
 .show _*1<=_;omega
 refine t<|rc J J (AZ d S)<|rc J J (QF m d S<|by have:=xx (m:=d) S;omega) ?_;refine GF J J J J J K8 ax<|o J ?_;generalize P:aj (m*d)++aE (G<|aj<|m*d) (bh (G (aj m)+1) (0:Z))=r;refine t<|rm al (b+1) J J J J J J (kH .u32) S ?_ ?_<|o J ?_
 .show _*4<=_;omega
 .show _*1<=_;omega
 have H:val r=((m*d:I):Z):=by rw[<-P,Cx,eN,(ax:aE (G<|aj<|m*d) (bh (G (aj m)+1) (0:Z))=bh (G (aj m)+1-G (aj<|m*d)) 0),JG];simp
 have K:bM r:=by rw[<-P];exact Pm (eh _)<|yz (rh _) _
 have ajx:G r=b+(n+2)+1:=by rw[<-P];simp;omega
 have vY:(0:Z)<((k*d:I):Z):=by have:0<k*d:=xF s5 S;omega
 have GX:uJ ((m*d:I):Z) ((k*d:I):Z) (n+2) b (b+1,r,bh (b+1) 0):=by
  refine⟨a8 _,ajx,K,?_,ax,rh _,λi hi=>?_,?_⟩
  .show val (aE (b+1) r)<_;have h1:=zf r (b+1) S;have h2:=mN<|j5 K<|b+1;have hp:=kE<|b+1;by_cases p:val (aE (b+1) r)<((k*d:I):Z)
   .exact p
   .exfalso;have h3:4294967296^(b+1)*((k*d:I):Z)<=4294967296^(b+1)*val (aE (b+1) r):=ja S S;have h4:=JH (eh k) (ud k) (by intro p;rw[p]at F;simp at F);rw[eN,F,(S:n+2-1=n+1)]at h4;have h5:=uf (n:=m);rw[hM,(S:b+(n+2)=b+1+(n+1)),Int.pow_add]at h5;have h6:4294967296^(b+1)*4294967296^(n+1)*(d:Z)<=4294967296^(b+1)*((k*d:I):Z):=by rw[fF,jb];exact ja (iU h4 S) S
    have h7:(m:Z)*d<4294967296^(b+1)*4294967296^(n+1)*(d:Z):=GV h5 S;rw[H,fF m d]at h1;omega
  .show Y (bh (b+1) (0:Z)) i 0=0;rw[aF,j9];split<;>rfl
  .show _=val r+_*val (bh (b+1) 0);rw[JG,H];omega
 refine L<|e J ?_;refine q<|aK (α:=I×V Z×V Z) (λx=>⟨[(8,D ((n+2:I):Z)),(9,cU d),(10,N al<|aj<|k*d),(11,.c<|.X 6003000),(12,.c<|.X 8005000),(13,D<|(x.1:Z)-1)],[(6003000,.vec 23 al x.2.1),(8005000,.vec 23 al x.2.2)],10,[]⟩) (uJ ((m*d:I):Z) ((k*d:I):Z) (n+2) b) (λx=>x.1) (b+1,r,bh (b+1) 0) GX (wk ⟨sR J,sR J,sR J,sR J,sR J,sE J ?_,T⟩<|jv J) ?_
 .exact aC D S
 rintro⟨c,U,Q⟩ B;have xq:G U=b+(n+2)+1:=B.ul;have l:bM U:=B.ur;have DH:G Q=b+1:=B.ql;have hck:c<=b+1:=B.k;refine L<|e J ?_;refine z J (λh=>?_)<|λh=>?_
 .have h:(c:Z)-1>=0:=by simpa using h
  obtain⟨a,rfl⟩:∃a,c=a+1:=⟨c-1,S⟩;have ej:((a+1:I):Z)-1=(a:Z):=S;rw[ej];have g:=B.next vY f5;let ⟨_,K9⟩:=B.QW f5;have hK:=Yq (U:=U) (v:=aj<|k*d) (j:=a) (n:=n) l (eh _) f6 S f7 (by rw[eN];exact K9);have nD:=dp (eh<|k*d)<|n+1;have R:=KS hK 2 ((Y U (a+(n+2)) 0*4294967296+Y U (a+(n+1)) 0)/Y (aj<|k*d) (n+1) 0)<|(Y U (a+(n+2)) 0*4294967296+Y U (a+(n+1)) 0)%Y (aj<|k*d) (n+1) 0;have s:=hK.first;generalize QY:Y (aj<|k*d) (n+1) 0=v1 at R nD f7 s;generalize hte:Y U (a+(n+2)) 0*4294967296+Y U (a+(n+1)) 0=b9 at R s;have De:=fS b9 (S:v1≠0);have ze:=gA b9 (S:0<v1);have R:=R (by have h1:=oi b9 v1;have h2:=ew (b9/v1) v1;omega) De S S s;rw[<-hte,<-QY]at R;have QZ:=ajh U (aj<|k*d) a n l (eh _) f6 S S hK;have uH:=hK.q0;generalize rK 2 ((Y U (a+(n+2)) 0*4294967296+Y U (a+(n+1)) 0)/Y (aj<|k*d) (n+1) 0) ((Y U (a+(n+2)) 0*4294967296+Y U (a+(n+1)) 0)%Y (aj<|k*d) (n+1) 0) (Y (aj<|k*d) (n+1) 0) (Y (aj<|k*d) n 0) (Y U (a+n) 0)=f at*;rw[eN]at R uH;have GY:=ajn U (aj<|k*d) a (n+3) f l (eh _) S S S R.2.2 S;rw[eN]at GY;rw[show n+2+1=n+3 from J]at g K9;generalize hu:val ((aE a U).take<|n+3)=u at*;have Q1:=oi u ((k*d:I):Z);have Bd:=fS u (S:((k*d:I):Z)≠0);have vZ:=gA u vY;generalize hv:((k*d:I):Z)=v at*;refine ai<|L<|q ?_;refine t<|X' a (a+(n+3)) J J J J J J S S (S:a+(n+3)<=G U)<|o J ?_
  refine dc (st':=⟨[(8,D ((n+2:I):Z)),(9,cU d),(10,N al<|aj<|k*d),(11,.c<|.X 6003000),(12,.c<|.X 8005000),(13,D a),(14,.c<|.W 6003000 a<|n+3)],[(6003000,.vec 23 al U),(8005000,.vec 23 al Q)],12,[]⟩) (wk ⟨sR J,sR J,sR J,sR J,sR J,sR J,⟨_,J,a7.of_eq<|aC (λg6=>AV.c<|C.W 6003000 a g6) S⟩,T⟩<|jv J) ?_;refine t<|nJ 6003000 J QZ J J<|o J ?_;refine L<|t<|nJ 6003000 J GY J J<|o J ?_;have DI:∀x,G (bV (n+3) x)=n+3:=λx=>s' _ _
  refine z J (λh=>?_)<|λh=>?_
  .have h:u-f*v<0:=by simpa using h
   have E:f=u/v+1:=by
    by_cases p:f=u/v
    .subst p;have:=ew (u/v) v;omega
    .omega
   have Q2:f*v=v*(u/v)+v:=by rw[E,nb,j7,ew]
   have hr:bM (cZ U a<|bV (n+3)<|u-f*v):=QR l<|GQ _ _;have zg:=ajo (cZ U a<|bV (n+3)<|u-f*v) (aj<|k*d) a (n+3) hr (eh _) (by rw[xE uK];omega) S (by rw[xE uK];omega);have e1:cZ (cZ U a<|bV (n+3)<|u-f*v) a (bV (n+3)<|val (y (n+3)<|aE a<|cZ U a<|bV (n+3)<|u-f*v)+val (aj<|k*d))=cZ U a (bV (n+3)<|u%v):=by rw[Yt uK (by rw[DI,DI]),QT uK,yM uK,iI uK,GR,eN,hv];refine aC (cZ U a)<|K0 _ _ _ ?_;rw[Int.emod_add_emod];congr 1;omega
   rw[e1]at zg;have w1:ao .u64 (f-1)=u/v:=by rw[wrap_u64 _ S S];omega
   refine e J<|bs<|nJ 6003000 J zg J J<|o J<|ay ?_;refine dc (st':=⟨[(8,D ((n+2:I):Z)),(9,cU d),(10,N al<|aj<|k*d),(11,.c<|.X 6003000),(12,.c<|.X 8005000),(13,D a),(15,cU<|u/v)],[(6003000,.vec 23 al<|cZ U a<|bV (n+3)<|u%v),(8005000,.vec 23 al Q)],16,[]⟩) (wk ⟨sR J,sR J,sR J,sR J,sR J,sR J,⟨_,J,a7.of_eq<|bA w1⟩,T⟩<|jv J) ?_;refine rt J (hp:=iM) ?_;refine aT<|rt J<|aA (a,cZ U a<|bV (n+3)<|u%v,Q.set a<|u/v) g (di a)<|wk (aS J) ⟨bR J,bE J ?_,T⟩;refine aC (aH.vec 23 al) ?_;show Q.set (ad (a:Z)) (ao .u32<|u/v)=Q.set a (u/v);rw[aV,wrap_u32 _ S S]
  .have h:¬u-f*v<0:=by simpa using h
   have E:f=u/v:=by
    by_cases p:f=u/v
    .exact p
    .exfalso;have e2:f=u/v+1:=S;have Q2:f*v=v*(u/v)+v:=by rw[e2,nb,j7,ew]
     omega
   have e1:u-f*v=u%v:=by have:=ew (u/v) v;rw[E];omega
   refine ai ?_;refine dc (st':=⟨[(8,D ((n+2:I):Z)),(9,cU d),(10,N al<|aj<|k*d),(11,.c<|.X 6003000),(12,.c<|.X 8005000),(13,D a),(15,cU<|u/v)],[(6003000,.vec 23 al<|cZ U a<|bV (n+3)<|u%v),(8005000,.vec 23 al Q)],16,[]⟩) (wk ⟨sR J,sR J,sR J,sR J,sR J,sR J,⟨_,J,a7.of_eq<|bA E⟩,T⟩ ⟨⟨_,J,cK.of_eq<|aC (λg6=>aH.vec 23 al<|cZ U a<|bV (n+3) g6) e1⟩,bR J,T⟩) ?_;refine rt J (hp:=iM) ?_;refine aT<|rt J<|aA (a,cZ U a<|bV (n+3)<|u%v,Q.set a<|u/v) g (di a)<|wk (aS J) ⟨bR J,bE J ?_,T⟩;refine aC (aH.vec 23 al) ?_;show Q.set (ad (a:Z)) (ao .u32<|u/v)=Q.set a (u/v);rw[aV,wrap_u32 _ S S]
 .have h:¬(c:Z)-1>=0:=by simpa using h
  have hc:c=0:=S;subst hc;let ⟨e1,e2⟩:=B.fin;have q1:au Q=aj (m/k):=by
   rw[pn B.qr];show aj (ad<|val Q)=_;rw[e1];have:((m*d:I):Z)/((k*d:I):Z)=((m/k:I):Z):=by rw[<-vX,Nat.mul_div_mul_right _ _ S]
   rw[this,aV]
  have q2:aj (ad<|val (au U)/(d:Z))=aj (m%k):=by
   rw[Wo];show aj (ad<|val U/(d:Z))=_;rw[e2];have:((m*d:I):Z)%((k*d:I):Z)/(d:Z)=((m%k:I):Z):=by rw[<-DJ,Nat.mul_mod_mul_right,<-vX,Q3 _ S]
   rw[this,aV]
  have xG:=Yf (au U) (d:Z) (Wp l) S S (by
   have h2:G (au U)<=n+2:=by rw[pn l];apply Ak;have h3:val U<((k*d:I):Z):=B.ub;omega
   omega)
  rw[q2]at xG;refine aN<|ay<|cD 6003000 J J J<|cD 8005000 J J J ?_;refine t<|rc J J (za U)<|rc J J xG<|o J ?_;refine aO J J (za Q) J<|bq J ?_;rw[q1]
def Yu m k(b:k≠0)(a:G (aj m)<=1099511627776):af j 152 [N al (aj m),N al<|aj k] (.t [(ah,[.S al (aj<|m/k)]),(ah,[.S al (aj<|m%k)])]):=by
 by_cases h:m<k\/k<4294967296
 .exact Yg m k b h a
 .have d:2<=G (aj k):=by
   by_cases e:2<=G (aj k)
   .exact e
   .exfalso;have f:=uf (n:=k);have c:=ug (m:=G<|aj k) (n:=1) S;rw[Be]at c;omega
  exact ajw m k (G (aj k)-2) S S a
def DK a b(m:b≠0)(l:Sm a)(i:Sm b):af j 81 [aZ a,aZ b] (.t [(true,av .z<|a/b),(true,av .z<|a%b),(ah,[.I .i64 0])]):=by
 refine aD Tryz.func81 ?_;refine e J<|L<|e J ?_;have c:aq b≠0:=S;refine z J (λh2=>?_)<|λh2=>?_
 .exfalso;have h2:(G (de b):Z)=0:=lj;have:=mU.2 c;unfold de at h2;omega
 .refine ai<|aO J J (Yu _ _ c l) J<|L<|t ?_;refine rg 25 J J (λh3=>?_) (λh3=>?_)
  .have h3:a<0:=by simpa[bK]using h3
   refine o J<|z J (λh4=>?_)<|λh4=>?_
   .have h4:aq a%aq b≠0:=by have h4:(G (aj<|aq a%aq b):Z)>0:=xB;exact mU.1 S
    let ⟨e1,d⟩:=QN (oj c) h3 h4;have hz:bK a=true:=xC;let ⟨f,g⟩:=xA a b (aq a/aq b+1) (aq b-aq a%aq b) xD d;have n:aq a%aq b<aq b:=fg _<|oj c;refine t<|rl al [_] J J (rc J J (QE (aq a/aq b) 1 ?_ A)<|o J<|bs<|rc J J (KQ (aq b) _ S i)<|o J<|ay<|t ?_)
    .exact cQ (rJ<|A8 _ _) l
    refine rc J J (mr _ _)<|rc J J (mr _ _)<|o J<|bq J ?_;rw[f,g];rfl
   .have h4:aq a%aq b=0:=by have h4:¬(G (aj<|aq a%aq b):Z)>0:=xB;exact GN λk=>by have:=mU.2 k;omega
    let ⟨e1,d⟩:=QM (oj c) h3 h4;have hz:bK a=true:=xC;let ⟨f,g⟩:=xA a b (aq a/aq b) (aq a%aq b) xD (by rw[d,h4];rfl);refine ai<|t<|rc J J (mr _ _)<|rc J J (mr _ _)<|o J<|bq J ?_;rw[f,g];rfl
  .have h3:¬a<0:=by simpa[bK]using h3
   refine o J<|z J (λh4=>by simp at h4)<|λh4=>?_;let ⟨e1,d⟩:=QK (oj c) h3;have hz:bK a=ah:=xC;let ⟨f,g⟩:=xA a b (aq a/aq b) (aq a%aq b) xD d;refine ai<|t<|rc J J (mr _ _)<|rc J J (mr _ _)<|o J<|bq J ?_;rw[f,g];rfl
def ajA m k(v:G (aj m)<=1099511627776)(B:G (aj k)<=1099511627776):af j 151 [N al (aj m),N al<|aj k] (N al<|aj<|lZ m k):=by
 refine aD Tryz.func151 ?_;refine e J<|L<|q<|aK (α:=I×I) (λx=>⟨[(0,N al<|aj x.1),(1,N al<|aj x.2)],[],1,[]⟩) (λx=>lZ x.1 x.2=lZ m k/\G (aj x.1)<=1099511627776/\G (aj x.2)<=1099511627776) (λx=>x.2) (m,k) ⟨J,v,B⟩ aM ?_;rintro⟨x,y⟩ ⟨hg,lx,g⟩;simp only at hg lx g;refine L<|e J ?_;refine z J (λh=>?_)<|λh=>?_
 .have C:y≠0:=by have h:(G (aj y):Z)>0:=du;exact mU.1 S
  have a:af j 152 [N al (aj x),N al<|aj y] (.t [(ah,[.S al (aj<|x/y)]),(ah,[.S al (aj<|x%y)])]):=Yu x y C lx;have c:lZ y (x%y)=lZ m k:=by rw[<-hg,zd x y,Nat.gcd_rec y x,zd]
  have d:x%y<y:=fg _ S;have f:G (aj<|x%y)<=1099511627776:=cQ (rJ S) g;refine ai<|q<|L<|t ?_;refine rg 13 J J (λh2=>?_)<|λh2=>?_
  .have h2:G (aj x)<=2:=by have h2:(G (aj x):Z)<=2:=lj;omega
   refine o J<|z J (λh3=>?_)<|λh3=>?_
   .have h3:G (aj y)<=2:=by have h3:(G (aj y):Z)<=2:=wS;omega
    have i:x<18446744073709551616:=by have E:=uf (n:=x);have l:=ug h2;rw[show(4294967296:Z)^2=18446744073709551616 from J]at l;omega
    have b:y<18446744073709551616:=by have E:=uf (n:=y);have l:=ug h3;rw[show(4294967296:Z)^2=18446744073709551616 from J]at l;omega
    refine t<|rc J J (GM x i)<|rc J J (GM y b)<|rc J J (Yd x y i b)<|rc J J (AZ _ ?_)<|o J<|bc ?_
    .by_cases p:x=0
     .rw[p,QG];exact b
     .exact s8 (Nat.gcd_le_left y S) i
    .repeat(first|refine bt ?_|refine eH ?_|refine gf ?_)
     refine c9 J ?_;rw[<-hg]
   .refine ai<|aO J J a J<|e J<|rt J<|dy<|aA (y,x%y) ⟨c,g,f⟩ d aM
  .refine o J<|z J (λh3=>by cases h3)<|λ_=>?_;refine ai<|aO J J a J<|e J<|rt J<|dy<|aA (y,x%y) ⟨c,g,f⟩ d aM
 .have h:G (aj y)=0:=by have:¬(G (aj y):Z)>0:=du;omega
  have p:y=0:=GN λr=>by have:=mU.2 r;omega
  subst p;refine aN<|ay<|e J<|bq J ?_;rw[<-hg,GL]
def Q4 a b(c:Sm a)(d:Sm b):af j 80 [aZ a,aZ b] (aZ<|fh a b):=by refine aD Tryz.func80 ?_;refine e J<|t ?_;refine rc J J (ajA _ _ c d)<|rc J J (mr ah _)<|o J<|bq J ?_;rfl
def Q5 a b(f:Sm a)(g:Sm b):af j 106 [aZ a,aZ b] (aZ<|a-b):=by
 refine aD Tryz.func106 ?_;have c:Sm (-b):=by unfold Sm de at g⊢;rwa[Int.natAbs_neg]
 have d:=zc a (-b) f c;rw[<-GZ]at d;exact e J<|t<|rc J J (GJ b)<|rc J J d<|o J<|bU J
def ajB a(i:0<=a)(k:a<9223372036854775808):af j 156 [aZ a] (.t [(ah,[.I .i64 a]),(ah,[.B true])]):=by
 refine aD Tryz.func156 ?_;have c:aq a<18446744073709551616:=S;have l:=xx c;have d:bK a=ah:=by simp[bK];omega
 refine e J<|L<|e J<|z J (λh=>?_)<|λ_=>ai ?_
 .exfalso;have h:(G (de a):Z)>2:=du;unfold de at h;omega
 refine aO J J (GM (aq a) c) J ?_;refine L<|t<|rg 15 J J (λh=>?_)<|λh=>?_
 .refine o J (z J (λb=>?_)<|λb=>?_)
  .have f: -9223372036854775808<=((aq a:I):Z)/\((aq a:I):Z)<=9223372036854775807:=by omega
   refine e J (bc<|bt<|c9 J ?_) (hp:=f);exact aC (λx=>AV.t [(ah,[C.I .i64 x]),(ah,[C.B true])]) S
  .exfalso;have g:decide (((aq a:I):Z)<9223372036854775808)=true:=jU S;rw[cond_true,g]at b;cases b
 .rw[d]at h;cases h
def G3(a:V Z)(i:I):af j 115 [N .z a,D i] (aZ<|Y a i 0):=by
 refine aD Tryz.func115 ?_;refine e J<|L<|e J ?_;refine z J (λh=>?_)<|λh=>?_
 .have h:i<G a:=by simpa using h
  refine e J<|bc<|bt<|c9 J ?_;rfl
 .have h:¬i<G a:=by simpa using h
  refine ai<|aO J J (kp 0 A A) J<|bq J ?_;have b:Y a i 0=0:=by simp[aF,lG<|yB h]
  rw[b];rfl
def DL{a}:cq a=0↔a=0:=by
 unfold cq;split
 .omega
 .split<;>omega
def La(a:V Z):af Tryz.prog 114 [N .z a] (N .z<|au a):=by
 refine aD Tryz.func114<|yY 0 J λf=>?_;have f:G a*2<=140737488355328:=f;refine e J<|L<|q<|aK (α:=I) (λk=>⟨[(0,N .z<|y k a)],[],1,[]⟩) (λk=>k<=G a/\gY a k=gY a (G a)) (λk=>k) (G a) ⟨a8 _,J⟩ (wk ⟨⟨_,J,a7.of_eq<|by rw[eE]⟩,T⟩ T) ?_;rintro k ⟨i,b⟩;have c:(y k a).length=k:=bP;refine L<|t ?_;refine rg 6 J J (λh=>?_)<|λh=>?_
 .have h:0<k:=by have h:(((y k a).length:I):Z)>0:=du;rw[c]at h;omega
  obtain⟨j,rfl⟩:∃j,k=j+1:=⟨k-1,S⟩;have d:ad (((y (j+1) a).length:Z)-1)=j:=by rw[c];omega
  have ev:(y (j+1) a).getD j 0=Y a j 0:=by rw[aF,yC S,<-aF]
  refine eI J J J J J (vV<|(y (j+1) a).getD (ad<|((y (j+1) a).length:Z)-1) 0) (o J ?_) (hp:=iM);refine z J (λh2=>?_)<|λh2=>?_
  .have h2:Y a j 0=0:=by have h2:cq ((y (j+1) a).getD (ad<|((y (j+1) a).length:Z)-1) 0)=0:=lj;rw[d,ev]at h2;exact DL.1 h2
   refine ai<|q<|rt J (dy<|aA j ⟨S,?_⟩ ni<|wk ⟨sE J ?_,T⟩ T) (hp:=iM)
   .rw[<-b,gY,s h2]
   .rw[d];simp only[rI,Gj];rw[pj S]
  .have h2:Y a j 0≠0:=by have h2:¬cq ((y (j+1) a).getD (ad<|((y (j+1) a).length:Z)-1) 0)=0:=lj;rw[d,ev]at h2;exact λg=>h2 (DL.2 g)
   refine aN<|ay<|e J<|bq J ?_;unfold au;rw[<-b,gY,M h2]
 .have h:k=0:=by have h:¬(((y k a).length:I):Z)>0:=du;rw[c]at h;omega
  subst h;refine o J<|z J (λh2=>xt)<|λ_=>?_;refine aN<|ay<|e J<|bq J ?_;unfold au;rw[<-b];rfl
def cf(x:Z):Rat:=if 100<=x then iE ((x.tmod 7:Z)*((1:I):Z)) (((1:I):Z)*3)else((x.tmod 7:Z):Rat)
def gD(l:V Rat):I->I
 |0=>0
 |n+1=>if(Y l n 0).num=0 then gD l n else n+1
def dV(l:V Rat):V Rat:=y (gD l<|G l) l
def jd(l:V Z)(a:I):V Rat:=dV<|(y (a+1) l).map cf
def Lb(x:Z): -6<=x.tmod 7/\x.tmod 7<=6:=by rw[Int.tmod_eq_emod];split<;>omega
def ajC l i(a:i<G l):((y (i+1) l).map cf)=((y i l).map cf)++[cf (Y l i 0)]:=by rw[mM,fe];simp[bD a,aF]
def Yv(l:V Z)(a:I)(B:a<=1000)(U:∀x∈l,-128<=x/\x<=127):af Tryz.prog 17 [N I8 l,D a] (N .q<|jd l a):=by
 refine aD Tryz.func17<|yY 0 J λH=>?_;have H:G l*1<=140737488355328:=H;refine e J<|t<|gR .q [] J J (o J<|L<|e J ?_);refine q<|aK (α:=I) (λi=>⟨[(0,N I8 l),(1,D a),(5,.c<|.X 1000000),(6,D i)],[(1000000,.vec 46 .q<|(y i l).map cf)],3,[]⟩) (λi=>i<=G l/\i<=a+1) (λi=>G l-i) 0 ⟨aW _,aW _⟩ aM ?_;rintro i ⟨W,K⟩;refine L<|t ?_;refine rg 13 J J (λh=>?_)<|λh=>?_
 .have h:i<G l:=by simpa using h
  refine o J<|z J (λh2=>?_)<|λh2=>?_
  .have h2:i<=a:=by have h2:(i:Z)<=a:=lj;omega
   have u:=Lb<|Y l i 0;have Q:=Lb<|Y l (ad (i:Z)) I8.cJ;have m:=ajC l i h;refine ai<|L<|q<|t ?_;refine rc J J (A' ((Y l (ad (i:Z)) 0).tmod 7) xH xH)<|o J<|L<|e J ?_;refine z J (λn=>?_)<|λn=>?_
   .have n:100<=Y l i 0:=by simpa using n
    have p:cf (Y l i 0)=iE (((Y l i 0).tmod 7:Z)*((1:I):Z)) (((1:I):Z)*3):=by unfold cf;rw[s n]
    refine bs<|rc J J (A' 3 A A)<|rc J J (ajt _ _ A (by show aq ((Y l (ad (i:Z)) 0).tmod 7)<=65535;rw[aV];omega) (A:1<=65535) A A)<|o J<|ay ?_;refine dc (st':=⟨[(0,N I8 l),(1,D a),(5,.c<|.X 1000000),(6,D i),(7,.c<|.P 4007000 0)],[(4007000,.box 46 0<|av .q<|cf<|Y l i 0),(1000000,.vec 46 .q<|(y i l).map cf)],6,[]⟩) (wk (aS J) ⟨bE J ?_,bR J,T⟩) ?_
    .rw[p];rfl
    refine bs<|rl .q [cf (Y l i 0)] J J (ra J J J J J J J J J ?_ ?_<|o J ?_)
    .show(_+1+(_+1)/4+192)*64<=_;simp only[cL,il];omega
    .show(_+1)*4<=_;simp only[cL,il];omega
    refine aT<|rt J<|aA (i+1) ⟨S,S⟩ xI<|Wk.trans (wk (st':=⟨[(0,N I8 l),(1,D a),(5,.c<|.X 6003000),(6,D ((i+1:I):Z))],[(6003000,.vec 46 .q<|(y (i+1) l).map cf)],8,[]⟩) ⟨sR J,sR J,sR J,sE J ?_,T⟩ ⟨bE J ?_,T⟩)<|Wk.trans (fp 1000000 6003000 J J J) aM
    .rfl
    .rw[m]
   .have n:¬100<=Y l i 0:=by simpa using n
    have p:cf (Y l i 0)=(((Y l i 0).tmod 7:Z):Rat):=by unfold cf;rw[M n]
    refine ai ?_;refine dc (st':=⟨[(0,N I8 l),(1,D a),(5,.c<|.X 1000000),(6,D i),(7,.c<|.P 4007000 0)],[(4007000,.box 46 0<|av .q<|cf<|Y l i 0),(1000000,.vec 46 .q<|(y i l).map cf)],6,[]⟩) (wk (aS J) ⟨bE J ?_,bR J,T⟩) ?_
    .rw[p];rfl
    refine bs<|rl .q [cf (Y l i 0)] J J (ra J J J J J J J J J ?_ ?_<|o J ?_)
    .show(_+1+(_+1)/4+192)*64<=_;simp only[cL,il];omega
    .show(_+1)*4<=_;simp only[cL,il];omega
    refine aT<|rt J<|aA (i+1) ⟨S,S⟩ xI<|Wk.trans (wk (st':=⟨[(0,N I8 l),(1,D a),(5,.c<|.X 6003000),(6,D ((i+1:I):Z))],[(6003000,.vec 46 .q<|(y (i+1) l).map cf)],8,[]⟩) ⟨sR J,sR J,sR J,sE J ?_,T⟩ ⟨bE J ?_,T⟩)<|Wk.trans (fp 1000000 6003000 J J J) aM
    .rfl
    .rw[m]
  .have h2:¬i<=a:=by have h2:¬(i:Z)<=a:=lj;omega
   have g:y i l=y (a+1) l:=by rw[(S:i=a+1)]
   refine aN<|ay<|cD 1000000 J J J<|dc (st':=⟨[(5,N .q<|(y i l).map cf)],[],4,[]⟩) aM ?_;have C:(y i l).map cf=(y (a+1) l).map cf:=by rw[g]
   unfold jd;rw[<-C];generalize r:(y i l).map cf=b;have E:G b<=1001:=by rw[<-r];simp;omega
   refine L<|q<|aK (α:=I) (λk=>⟨[(5,N .q<|y k b)],[],4,[]⟩) (λk=>k<=G b/\gD b k=gD b (G b)) (λk=>k) (G b) ⟨a8 _,J⟩ (wk ⟨⟨_,J,a7.of_eq<|by rw[eE]⟩,T⟩ T) ?_;rintro k ⟨R,d⟩;have f:(y k b).length=k:=bP;refine L<|t ?_;refine rg 45 J J (λh=>?_)<|λh=>?_
   .have h:0<k:=by have h:(((y k b).length:I):Z)>0:=du;rw[f]at h;omega
    obtain⟨j,rfl⟩:∃j,k=j+1:=⟨k-1,S⟩;have v:ad (((y (j+1) b).length:Z)-1)=j:=by rw[f];omega
    have ev:(y (j+1) b).getD j 0=Y b j 0:=by rw[aF,yC S,<-aF]
    refine eI J J J J J (K5<|(y (j+1) b).getD (ad<|((y (j+1) b).length:Z)-1) 0) (o J ?_) (hp:=iM);refine z J (λh2=>?_)<|λh2=>?_
    .have h2:(Y b j 0).num=0:=by have h2:cq ((y (j+1) b).getD (ad<|((y (j+1) b).length:Z)-1) 0).num=0:=lj;rw[v,ev]at h2;exact DL.1 h2
     refine ai<|q<|rt J (dy<|aA j ⟨S,?_⟩ ni<|wk ⟨sE J ?_,T⟩ T) (hp:=iM)
     .rw[<-d,gD,s h2]
     .rw[v];simp only[rI,Gj];rw[pj S]
    .have h2:(Y b j 0).num≠0:=by have h2:¬cq ((y (j+1) b).getD (ad<|((y (j+1) b).length:Z)-1) 0).num=0:=lj;rw[v,ev]at h2;exact λF=>h2 (DL.2 F)
     refine aN<|ay<|e J<|bq J ?_;unfold dV;rw[<-d,gD,M h2]
   .have h:k=0:=by have h:¬(((y k b).length:I):Z)>0:=du;rw[f]at h;omega
    subst h;refine o J<|z J (λh2=>xt)<|λ_=>?_;refine aN<|ay<|e J<|bq J ?_;unfold dV;rw[<-d];rfl
 .have h:¬i<G l:=by simpa using h
  have g:y i l=y (a+1) l:=by rw[iI S,iI S]
  refine o J<|z J (λh2=>xt)<|λ_=>?_;refine aN<|ay<|cD 1000000 J J J<|dc (st':=⟨[(5,N .q<|(y i l).map cf)],[],4,[]⟩) aM ?_;have C:(y i l).map cf=(y (a+1) l).map cf:=by rw[g]
  unfold jd;rw[<-C];generalize r:(y i l).map cf=b;have E:G b<=1001:=by rw[<-r];simp;omega
  refine L<|q<|aK (α:=I) (λk=>⟨[(5,N .q<|y k b)],[],4,[]⟩) (λk=>k<=G b/\gD b k=gD b (G b)) (λk=>k) (G b) ⟨a8 _,J⟩ (wk ⟨⟨_,J,a7.of_eq<|by rw[eE]⟩,T⟩ T) ?_;rintro k ⟨R,d⟩;have f:(y k b).length=k:=bP;refine L<|t ?_;refine rg 45 J J (λh=>?_)<|λh=>?_
  .have h:0<k:=by have h:(((y k b).length:I):Z)>0:=du;rw[f]at h;omega
   obtain⟨j,rfl⟩:∃j,k=j+1:=⟨k-1,S⟩;have v:ad (((y (j+1) b).length:Z)-1)=j:=by rw[f];omega
   have ev:(y (j+1) b).getD j 0=Y b j 0:=by rw[aF,yC S,<-aF]
   refine eI J J J J J (K5<|(y (j+1) b).getD (ad<|((y (j+1) b).length:Z)-1) 0) (o J ?_) (hp:=iM);refine z J (λh2=>?_)<|λh2=>?_
   .have h2:(Y b j 0).num=0:=by have h2:cq ((y (j+1) b).getD (ad<|((y (j+1) b).length:Z)-1) 0).num=0:=lj;rw[v,ev]at h2;exact DL.1 h2
    refine ai<|q<|rt J (dy<|aA j ⟨S,?_⟩ ni<|wk ⟨sE J ?_,T⟩ T) (hp:=iM)
    .rw[<-d,gD,s h2]
    .rw[v];simp only[rI,Gj];rw[pj S]
   .have h2:(Y b j 0).num≠0:=by have h2:¬cq ((y (j+1) b).getD (ad<|((y (j+1) b).length:Z)-1) 0).num=0:=lj;rw[v,ev]at h2;exact λF=>h2 (DL.2 F)
    refine aN<|ay<|e J<|bq J ?_;unfold dV;rw[<-d,gD,M h2]
  .have h:k=0:=by have h:¬(((y k b).length:I):Z)>0:=du;rw[f]at h;omega
   subst h;refine o J<|z J (λh2=>xt)<|λ_=>?_;refine aN<|ay<|e J<|bq J ?_;unfold dV;rw[<-d];rfl
def lM(a B:I->Z)(n:I):I->Z
 |0=>0
 |i+1=>lM a B n i+a i*B (n-i)
def conv(a B:I->Z)(n:I):Z:=lM a B n<|n+1
def Q6(a B:I->Z)(n:I):∀k,(∀i,i<k->a i*B (n-i)=0)->lM a B n k=0
 |0,_=>rfl
 |k+1,b=>by simp only[lM,Q6 a B n k<|λi c=>b i S,b k S];rfl
def Lc(a B:I->Z)(n d:I):∀k,d<k->(∀i,i<k->i≠d->a i*B (n-i)=0)->lM a B n k=a d*B (n-d)
 |0,c,_=>by omega
 |k+1,c,h2=>by
  simp only[lM];by_cases b:k=d
  .subst b;rw[Q6 a B n k (λi f=>h2 i S S)];omega
  .rw[Lc a B n d k S (λi f=>h2 i S),h2 k S b];omega
def ajD{c B:I->Z}{a b}(d:∀i,a<i->c i=0)(f:∀i,b<i->B i=0):conv c B (a+b)=c a*B b:=by
 unfold conv
 rw[Lc c B (a+b) a _ S]
 .congr 2;omega
 .intro i g k;by_cases h:i<a
  .rw[f (a+b-i) S];simp
  .rw[d i S];simp
def mu(a b:V Z):V Z:=(be<|G a+G b-1).map<|conv (λi=>Y a i 0)<|λi=>Y b i 0
def dN(a:V Rat):I->Z
 |0=>1
 |i+1=>dN a i*(((Y a i 0).den:Z)/((fh (dN a i) (Y a i 0).den:I):Z))
def xN(a:V Rat)(i:I):Z:=(iE ((Y a i 0).num*dN a (G a))<|((Y a i 0).den:Z)*((1:I):Z)).num
def gN(a:V Rat):I->Z
 |0=>0
 |i+1=>((fh (gN a i) (xN a i):I):Z)
def gF(a:V Rat):Z:=if 0<G a/\xN a (G a-1)<0 then-gN a (G a)else gN a (G a)
def rM(a:V Rat):V Z:=(be<|G a).map<|λj=>xN a j/gF a
def Ld(b:V Rat)(a:∀i,(Y b i 0).den=1\/(Y b i 0).den=3):∀i,dN b i=1\/dN b i=3
 |0=> .inl J
 |i+1=>by simp only[dN];rcases Ld b a i with c|c<;>rcases a i with h2|h2<;>rw[c,h2]<;>decide
def Q7 cs(a:∀i,(Y cs i 0).den=1\/(Y cs i 0).den=3) i:aq (xN cs i)<=aq ((Y cs i 0).num*dN cs (G cs))/\((Y cs i 0).num≠0->xN cs i≠0)/\(0<=(Y cs i 0).num->0<=xN cs i):=by
 have r:=Ld cs a<|G cs;have b:(((Y cs i 0).den:Z)*((1:I):Z))≠0:=by rcases a i with h|h<;>rw[h]<;>decide
 let ⟨p1,_⟩:=DE ((Y cs i 0).num*dN cs (G cs)) (((Y cs i 0).den:Z)*((1:I):Z)) b;have d:¬(((Y cs i 0).den:Z)*((1:I):Z))<0:=by rcases a i with h|h<;>rw[h]<;>decide
 rw[M d]at p1;unfold xN;rw[p1];generalize k:(Y cs i 0).num*dN cs (G cs)=n;generalize hg:fh n (((Y cs i 0).den:Z)*((1:I):Z))=g;have v:g≠0:=by rw[<-hg];intro l;exact b (Ba.1 l).2
 have m:(g:Z)∣n:=by rw[<-hg];exact GS ..
 let ⟨c,hc⟩:=m;have e:n/(g:Z)=c:=by rw[hc];exact DM _ S
 rw[e];refine⟨?_,λh=>?_,λh=>?_⟩
 .rw[hc,qE];exact Le _ S
 .intro l;rw[l]at hc;simp only[dI]at hc;rw[hc]at k;rcases K4.1 k with f|f
  .exact h f
  .rcases r with h2|h2<;>rw[h2]at f<;>cases f
 .have p:0<=n:=by rw[<-k];exact jm h (by rcases r with h2|h2<;>rw[h2]<;>decide)
  rw[<-e];exact uh p S
def DN cs(b:∀i,(Y cs i 0).num.natAbs<=6)(a:∀i,(Y cs i 0).den=1\/(Y cs i 0).den=3) i:aq (xN cs i)<=18:=by have d:=(Q7 cs a i).1;have c:=b i;have f:aq ((Y cs i 0).num*dN cs (G cs))<=6*3:=GU c (by rcases Ld cs a (G cs)with h|h<;>rw[h]<;>decide);omega
def Q8(a:V Rat)(b:∀i,(Y a i 0).num.natAbs<=6)(c:∀i,(Y a i 0).den=1\/(Y a i 0).den=3):∀i,0<=gN a i/\gN a i<=18
 |0=>by simp[gN]
 |i+1=>by
  have f:=Q8 a b c i;have g:=DN a b c i;simp only[gN];refine⟨S,?_⟩;by_cases d:xN a i=0
  .rw[d,Int.gcd_zero_right];omega
  .have:fh (gN a i) (xN a i)<=aq (xN a i):=DF _ S;omega
def Lf cs(c:∀i,(Y cs i 0).num.natAbs<=6)(a:∀i,(Y cs i 0).den=1\/(Y cs i 0).den=3)(b:cs=[]\/(Y cs (G cs-1) 0).num≠0)(f:0<G cs):gF cs≠0/\aq (gF cs)<=18:=by
 have l:=Q8 cs c a<|G cs;have d:xN cs (G cs-1)≠0:=(Q7 cs a _).2.1 (b.resolve_left<|by intro h;rw[h]at f;simp at f);have g:gN cs (G cs)≠0:=by obtain⟨m,k⟩:∃m,G cs=m+1:=⟨G cs-1,S⟩;rw[k]at d⊢;simp only[gN,eJ]at d⊢;intro n;have:fh (gN cs m) (xN cs m)=0:=S;exact d (Ba.1 this).2
 unfold gF;split<;>omega
def ajE cs i(a:∀i,(Y cs i 0).num.natAbs<=6)(b:∀i,(Y cs i 0).den=1\/(Y cs i 0).den=3):aq (gN cs i)<=18:=by have:=Q8 cs a b i;omega
def ajF(cs:V Rat)(la:G cs<=1000)(f:∀i,(Y cs i 0).num.natAbs<=6)(a:∀i,(Y cs i 0).den=1\/(Y cs i 0).den=3)(n:cs=[]\/(Y cs (G cs-1) 0).num≠0):af j 26 [N .q cs] (N .z<|rM cs):=by
 refine yT Tryz.func26 J J J J J A ?_;refine e J<|t<|rc J J (kp 1 A A)<|o J<|L<|e J ?_;refine q<|aK (α:=I) (λi=>⟨[(0,N .q cs),(3,.c<|.P 1001000 0),(4,D i)],[(1001000,.box 44 0<|av .z<|dN cs i)],3,[]⟩) (λi=>i<=G cs) (λi=>G cs-i) 0 (aW _) (wk (aS J) ⟨bE J J,T⟩) ?_;intro i v;have O:=Ld cs a i;refine L<|e J ?_;refine z J (λh=>?_)<|λh=>?_
 .have h:i<G cs:=by simpa using h
  have Q:=a i;have u:fh (dN cs i) ((Y cs i 0).den:Z)≠0:=by intro w;have:=(Ba.1 w).2;omega
  have R:fh (dN cs i) ((Y cs i 0).den:Z)<=3:=cQ (DF _ S) S;have hq:aq (((Y cs i 0).den:Z)/((fh (dN cs i) ((Y cs i 0).den:Z):I):Z))<=3:=by have U:0<=((Y cs i 0).den:Z)/((fh (dN cs i) ((Y cs i 0).den:Z):I):Z):=uh S S;have W:((Y cs i 0).den:Z)/((fh (dN cs i) ((Y cs i 0).den:Z):I):Z)<=((Y cs i 0).den:Z):=KT _ S;omega
  refine bN<|ay<|L<|q<|t ?_;refine rc J J (QH (dN cs i) ((Y cs i 0).den:Z) S S)<|o J<|t ?_;refine rc J J (GO ((Y cs i 0).den:Z) ((fh (dN cs i) ((Y cs i 0).den:Z):I):Z) S (.inr S) (Sm.of S)<|Sm.of S)<|o J<|bs ?_;refine rc J J (lL (dN cs i) (((Y cs i 0).den:Z)/((fh (dN cs i) ((Y cs i 0).den:Z):I):Z)) (Sm.of S)<|Sm.of S)<|o J ?_;refine dy<|ay<|rt J<|aA (i+1) S G4<|wk ⟨sR J,sR J,sE J J,T⟩ ⟨bE J J,T⟩
 .have h:¬i<G cs:=by simpa using h
  have v:i=G cs:=S;subst v;refine jS<|lJ<|kF<|jT<|ay<|t<|gR .z [] J J (o J ?_);refine t<|rc J J (kp 0 A A)<|o J<|L<|e J ?_;refine q<|aK (α:=I) (λi=>⟨[(0,N .q cs),(3,.c<|.P 1001000 0),(9,.c<|.X 4000000),(10,.c<|.P 5001000 0),(11,D i)],[(1001000,.box 44 0<|av .z<|dN cs<|G cs),(4000000,.vec 44 .z<|(be i).map<|xN cs),(5001000,.box 44 0<|av .z<|gN cs i)],7,[]⟩) (λi=>i<=G cs) (λi=>G cs-i) 0 (aW _) (wk (aS J) ⟨bR J,bE J J,bE J J,T⟩) ?_;intro i v;refine L<|e J ?_;refine z J (λh=>?_)<|λh=>?_
  .have h:i<G cs:=by simpa using h
   have Q:=a i;have y:=f i;have R:=ajE cs i f a;have E:=DN cs f a i;refine bN<|ay<|L<|q<|t ?_;refine rc J J (kp 1 A A) ?_;refine rc J J (aju (Y cs (ad (i:Z)) 0) ((dN cs (G cs):Z):Rat) xH xH (S:aq (dN cs<|G cs)<=65535) (A:1<=65535))<|o J<|t ?_;refine rl .z [xN cs i] J J (ra J J J J J J J J J ?_ ?_<|o J<|bs ?_)
   .show(_+1+(_+1)/4+192)*32<=_;simp only[cL,uL];omega
   .show(_+1)*2<=_;simp only[cL,uL];omega
   refine rc J J (QH (gN cs i) (xN cs i) S S)<|o J ?_;refine dy<|ay<|rt J<|aA (i+1) S G4<|Wk.trans (wk (st':=⟨[(0,N .q cs),(3,.c<|.P 1001000 0),(9,.c<|.X 9004000),(10,.c<|.P 5001000 0),(11,D ((i+1:I):Z))],[(1001000,.box 44 0<|av .z<|dN cs<|G cs),(9004000,.vec 44 .z<|(be<|i+1).map<|xN cs),(5001000,.box 44 0<|av .z<|gN cs<|i+1)],12,[]⟩) ⟨sR J,sR J,sR J,sR J,sE J J,T⟩ ⟨bR J,bE J ?_,bE J J,T⟩)<|Wk.trans (fp 4000000 9004000 J J J) aM;rw[nE,fe];rfl
  .have h:¬i<G cs:=by simpa using h
   have v:i=G cs:=S;subst v;refine jS<|lJ<|kF<|jT<|ay<|L<|t ?_;refine rg 73 J J (λh3=>?_)<|λh3=>?_
   .have h3:0<G cs:=by have h3:(G cs:Z)>0:=wS;omega
    have F:G ((be<|G cs).map<|xN cs)=G cs:=ax;have ex:Y ((be<|G cs).map<|xN cs) (ad<|(G ((be<|G cs).map<|xN cs):Z)-1) 0=xN cs (G cs-1):=by rw[F,(S:ad ((G cs:Z)-1)=G cs-1)];simp[aF,(S:G cs-1<G cs)]
    refine eI J J J J J (vV<|Y ((be<|G cs).map<|xN cs) (ad<|(G ((be<|G cs).map<|xN cs):Z)-1) 0) (o J ?_) (hp:=iM);rw[ex];refine z J (λh4=>?_)<|λh4=>?_
    .have h4:xN cs (G cs-1)<0:=by
      have h4:cq (xN cs<|G cs-1)<0:=xB;unfold cq at h4;split at h4
      .assumption
      ·(try split at h4)<;>omega
     refine bs<|rc J J (GJ<|gN cs<|G cs)<|o J<|ay ?_;have k:(aH.box 44 0<|dx (dx (List.map ZV.ru [ZV.b,ZV.s]) (av .z<|gN cs<|G cs) 0) (av .z<| -gN cs (G cs)) 0)= .box 44 0 (av .z<|gF cs):=by unfold gF;rw[s ⟨h3,h4⟩];rfl
     have l:(aH.vec 44 .z<|(be<|G cs).map<|xN cs)= .vec 44 .z ((be<|G cs).map<|xN cs):=rfl;refine dc (st':=⟨[(9,.c<|.X 4000000),(10,.c<|.P 5001000 0)],[(4000000,.vec 44 .z<|(be<|G cs).map<|xN cs),(5001000,.box 44 0<|av .z<|gF cs)],10,[]⟩) (wk (aS J) ⟨⟨_,J,cK.of_eq l⟩,⟨_,J,cK.of_eq k⟩,T⟩) ?_;refine L<|e J ?_;refine q<|aK (α:=I) (λi=>⟨[(9,.c<|.X 4000000),(10,.c<|.P 5001000 0),(13,D i)],[(4000000,.vec 44 .z<|(be<|G cs).map<|λd=>if d<i then xN cs d/gF cs else xN cs d),(5001000,.box 44 0<|av .z<|gF cs)],11,[]⟩) (λi=>i<=G cs) (λi=>G cs-i) 0 (aW _) (wk (aS J) ⟨⟨_,J,cK.of_eq ax⟩,bR J,T⟩) ?_;intro i v;generalize p:(be<|G cs).map (λd=>if d<i then xN cs d/gF cs else xN cs d)=g;have H:G g=G cs:=by rw[<-p];simp
     refine L<|e J ?_;refine z J (λh=>?_)<|λh=>?_
     .have h:i<G cs:=by have h:(i:Z)<G g:=du;omega
      have m:Y g (ad (i:Z)) 0=xN cs i:=by rw[aV,<-p];simp[aF,h]
      have K:=Lf cs f a n S;have E:=DN cs f a i;refine bN<|ay<|L<|q<|t ?_;refine rc J J (GO (Y g (ad (i:Z)) 0) (gF cs) K.1 (.inr S) (Sm.of<|by rw[m];omega)<|Sm.of S)<|o J<|bs ?_;refine jx (Y g (ad (i:Z)) 0/gF cs) J J J J J xH<|o J ?_;refine dy<|ay<|rt J<|aA (i+1) S G4<|wk ⟨sR J,sR J,sE J J,T⟩ ⟨bE J ?_,bR J,T⟩;rw[m,aV,<-p];congr 1;apply lq
      .simp
      .intro d U W;simp only[Ax,og,uA];by_cases B:i=d
       .subst B;simp
       .rw[M B];by_cases r:d<i
        .rw[s r,s S]
        .rw[M r,M S]
     .have h:¬i<G cs:=by have h:¬(i:Z)<G g:=du;omega
      refine jS<|lJ<|kF<|jT<|ay<|cD 4000000 J J J<|e J<|bc<|g8 a6 J<|a7.of_eq ?_;rw[<-p];unfold rM;refine aC (λx=>AV.c<|C.S .z x) ?_;apply DO;intro d r;rw[s (by simp at r;omega)]
    .have h4:¬xN cs (G cs-1)<0:=by
      have h4:¬cq (xN cs<|G cs-1)<0:=xB;unfold cq at h4;split at h4
      .omega
      .assumption
     refine bN<|ay ?_;have k:(aH.box 44 0<|av .z<|gN cs<|G cs)= .box 44 0 (av .z<|gF cs):=by unfold gF;rw[M (λh=>h4 h.2)]
     have l:(aH.vec 44 .z<|(be<|G cs).map<|xN cs)= .vec 44 .z ((be<|G cs).map<|xN cs):=rfl;refine dc (st':=⟨[(9,.c<|.X 4000000),(10,.c<|.P 5001000 0)],[(4000000,.vec 44 .z<|(be<|G cs).map<|xN cs),(5001000,.box 44 0<|av .z<|gF cs)],10,[]⟩) (wk (aS J) ⟨⟨_,J,cK.of_eq l⟩,⟨_,J,cK.of_eq k⟩,T⟩) ?_;refine L<|e J ?_;refine q<|aK (α:=I) (λi=>⟨[(9,.c<|.X 4000000),(10,.c<|.P 5001000 0),(13,D i)],[(4000000,.vec 44 .z<|(be<|G cs).map<|λd=>if d<i then xN cs d/gF cs else xN cs d),(5001000,.box 44 0<|av .z<|gF cs)],11,[]⟩) (λi=>i<=G cs) (λi=>G cs-i) 0 (aW _) (wk (aS J) ⟨⟨_,J,cK.of_eq ax⟩,bR J,T⟩) ?_;intro i v;generalize p:(be<|G cs).map (λd=>if d<i then xN cs d/gF cs else xN cs d)=g;have H:G g=G cs:=by rw[<-p];simp
     refine L<|e J ?_;refine z J (λh=>?_)<|λh=>?_
     .have h:i<G cs:=by have h:(i:Z)<G g:=du;omega
      have m:Y g (ad (i:Z)) 0=xN cs i:=by rw[aV,<-p];simp[aF,h]
      have K:=Lf cs f a n S;have E:=DN cs f a i;refine bN<|ay<|L<|q<|t ?_;refine rc J J (GO (Y g (ad (i:Z)) 0) (gF cs) K.1 (.inr S) (Sm.of<|by rw[m];omega)<|Sm.of S)<|o J<|bs ?_;refine jx (Y g (ad (i:Z)) 0/gF cs) J J J J J xH<|o J ?_;refine dy<|ay<|rt J<|aA (i+1) S G4<|wk ⟨sR J,sR J,sE J J,T⟩ ⟨bE J ?_,bR J,T⟩;rw[m,aV,<-p];congr 1;apply lq
      .simp
      .intro d U W;simp only[Ax,og,uA];by_cases B:i=d
       .subst B;simp
       .rw[M B];by_cases r:d<i
        .rw[s r,s S]
        .rw[M r,M S]
     .have h:¬i<G cs:=by have h:¬(i:Z)<G g:=du;omega
      refine jS<|lJ<|kF<|jT<|ay<|cD 4000000 J J J<|e J<|bc<|g8 a6 J<|a7.of_eq ?_;rw[<-p];unfold rM;refine aC (λx=>AV.c<|C.S .z x) ?_;apply DO;intro d r;rw[s (by simp at r;omega)]
   .have h3:¬0<G cs:=by have h3:¬(G cs:Z)>0:=wS;omega
    refine o J<|z J (λh4=>by simp at h4)<|λ_=>?_;refine bN<|ay ?_;have k:(aH.box 44 0<|av .z<|gN cs<|G cs)= .box 44 0 (av .z<|gF cs):=by unfold gF;rw[M (λh=>h3 h.1)]
    have l:(aH.vec 44 .z<|(be<|G cs).map<|xN cs)= .vec 44 .z ((be<|G cs).map<|xN cs):=rfl;refine dc (st':=⟨[(9,.c<|.X 4000000),(10,.c<|.P 5001000 0)],[(4000000,.vec 44 .z<|(be<|G cs).map<|xN cs),(5001000,.box 44 0<|av .z<|gF cs)],10,[]⟩) (wk (aS J) ⟨⟨_,J,cK.of_eq l⟩,⟨_,J,cK.of_eq k⟩,T⟩) ?_;refine L<|e J ?_;refine q<|aK (α:=I) (λi=>⟨[(9,.c<|.X 4000000),(10,.c<|.P 5001000 0),(13,D i)],[(4000000,.vec 44 .z<|(be<|G cs).map<|λd=>if d<i then xN cs d/gF cs else xN cs d),(5001000,.box 44 0<|av .z<|gF cs)],11,[]⟩) (λi=>i<=G cs) (λi=>G cs-i) 0 (aW _) (wk (aS J) ⟨⟨_,J,cK.of_eq ax⟩,bR J,T⟩) ?_;intro i v;generalize p:(be<|G cs).map (λd=>if d<i then xN cs d/gF cs else xN cs d)=g;have H:G g=G cs:=by rw[<-p];simp
    refine L<|e J ?_;refine z J (λh=>?_)<|λh=>?_
    .have h:i<G cs:=by have h:(i:Z)<G g:=du;omega
     have m:Y g (ad (i:Z)) 0=xN cs i:=by rw[aV,<-p];simp[aF,h]
     have K:=Lf cs f a n S;have E:=DN cs f a i;refine bN<|ay<|L<|q<|t ?_;refine rc J J (GO (Y g (ad (i:Z)) 0) (gF cs) K.1 (.inr S) (Sm.of<|by rw[m];omega)<|Sm.of S)<|o J<|bs ?_;refine jx (Y g (ad (i:Z)) 0/gF cs) J J J J J xH<|o J ?_;refine dy<|ay<|rt J<|aA (i+1) S G4<|wk ⟨sR J,sR J,sE J J,T⟩ ⟨bE J ?_,bR J,T⟩;rw[m,aV,<-p];congr 1;apply lq
     .simp
     .intro d U W;simp only[Ax,og,uA];by_cases B:i=d
      .subst B;simp
      .rw[M B];by_cases r:d<i
       .rw[s r,s S]
       .rw[M r,M S]
    .have h:¬i<G cs:=by have h:¬(i:Z)<G g:=du;omega
     refine jS<|lJ<|kF<|jT<|ay<|cD 4000000 J J J<|e J<|bc<|g8 a6 J<|a7.of_eq ?_;rw[<-p];unfold rM;refine aC (λx=>AV.c<|C.S .z x) ?_;apply DO;intro d r;rw[s (by simp at r;omega)]
def Lg(m:I)(a:m<18446744073709551616):af j 169 [cU m] (N al<|aj m):=by
 refine aD Tryz.func169 ?_;refine e J<|t ?_;have b:ao .u32 (m:Z)=((m%4294967296:I):Z):=Lh;have c:ao .u32 ((m:Z).fdiv<|2^(min (ad (32:Z))<|cr .u64))=((m/4294967296:I):Z):=by
  have:(m:Z).fdiv (2^(min (ad (32:Z))<|cr .u64))=((m/4294967296:I):Z):=by rw[zh _ A];rfl
  rw[this,wrap_u32 _ S S]
 refine rl al [_,_] J J ?_;refine rc J J (vU _) ?_;refine o J<|bq J ?_;rw[b,c,Ya m a]
def oS neg m:af j 168 [cB neg,N al<|aj m] (aZ<|sg neg m):=by
 refine aD Tryz.func168 ?_;have f:=vU<|aj m;rw[Pp]at f;refine e J<|aO J J f J<|L<|e J ?_;refine z J (λh=>?_)<|λh=>?_
 .have h:G (aj m)=0:=by have h:(G (aj m):Z)=0:=du;omega
  have i:m=0:=GN λa=>by have:=mU.2 a;omega
  subst i;refine e J<|bc<|bt<|g8 a6 J ?_;have b:sg neg 0=0:=by cases neg<;>rfl
  rw[b];refine⟨?_,λl c=>by cases c⟩;rintro g v ⟨vs,rfl,v1,r,rfl,k,v2,n,rfl,d,rfl⟩;have d:v2= .slice none 0 0:=d;exact⟨_,J,v1,_,J,k,v2,_,J,by rw[d];exact XS g.H,J⟩
 .have h:G (aj m)≠0:=by have h:¬(G (aj m):Z)=0:=du;omega
  refine ai<|e J<|bq J ?_;rw[<-Yc];have b:(neg&&decide (0<G (aj m)))=neg:=by have:0<G (aj m):=S;simp[this]
  rw[b];rfl
def Li(a:V Z)(b:G a<=1099511627776):af j 170 [N al a] (N al a):=by
 refine aD Tryz.func170 ?_;refine e J<|t<|Qt J J J J J J J J ?_ ?_<|o J<|cD 1001000 J J J<|bU J
 .show(_+_/4+192)*4<=_;omega
 .show _*1<=_;omega
def nL n(d: -9223372036854775808<=n)(g:n<=9223372036854775807):af j 100 [D n] (aZ n):=by
 refine aD Tryz.func100 ?_;refine e J<|e J<|L<|e J ?_;refine z J (λh=>?_)<|λh=>?_
 .have h:n<0:=by simpa using h
  have a:ao .u64 (0-ao .u64 n)=(ad (-n):I):=by simp[ao,cr,AY];omega
  refine rt J<|ay<|t ?_;refine rc J J (f:=169) (r:=N al<|aj<|ad<| -n) (by rw[show(AV.c (num .u64<|0-ao .u64 n).1)=cU ((ad (-n):I):Z)from bA a];exact Lg _ S) ?_;refine rc J J (oS _ _)<|o J<|bq J ?_;have b:sg (decide<|n<0) (ad<| -n)=n:=by unfold sg;simp[h];omega
  exact aC aZ b
 .have h:¬n<0:=by simpa using h
  have a:ao .u64 n=(ad n:I):=by rw[wrap_u64 _ S S];omega
  refine ai<|t ?_;refine rc J J (f:=169) (r:=N al<|aj<|ad n) (by rw[show(AV.c (num .u64 n).1)=cU ((ad n:I):Z)from bA a];exact Lg _ S) ?_;refine rc J J (oS _ _)<|o J<|bq J ?_;have b:sg (decide<|n<0) (ad n)=n:=by unfold sg;simp[h];omega
  exact aC aZ b
def zi a:af j 101 [aZ a] (D<|cq a):=by
 refine aD Tryz.func101 ?_;refine e J<|L<|e J ?_;refine z J (λh=>?_)<|λh=>?_
 .have h:a=0:=by
   have h:(G (de a):Z)=0:=du;have:aq a=0:=GN λc=>by have:=mU.2 c;unfold de at h;omega
   omega
  refine e J<|bc<|bt<|c9 J ?_;rw[h];rfl
 .have h:a≠0:=by have h:¬(G (de a):Z)=0:=du;intro d;subst d;exact h J
  refine ai<|L<|e J ?_;refine z J (λb=>?_)<|λb=>?_
  .have b:a<0:=by simpa[bK]using b
   refine e J<|bc<|bt<|c9 J ?_;rw[cq,s b];rfl
  .have b:¬a<0:=by simpa[bK]using b
   refine ai<|e J<|bq J ?_;rw[cq,M b,M h];rfl
def Lj a(b:Sm a):af j 102 [aZ a] (aZ<| -a):=by
 refine aD Tryz.func102 ?_;refine e J<|t<|rc J J (Li _ b)<|rc J J (oS (!bK a)<|aq a)<|o J<|bq J ?_;have c:sg (!bK a) (aq a)= -a:=by
  unfold sg bK;by_cases h:a<0
  .simp[h];omega
  .simp[h];omega
 exact aC aZ c
def ajG a b(W:bM a)(hb:bM b)(la:G a<=1099511627776)(lb:G b<=1099511627776):af j 171 [N al a,N al b] (N al<|aj<|ad<|val a+val b):=by
 refine aD Tryz.func171 ?_;refine e J<|L<|e J ?_;refine z J (λh=>?_)<|λh=>?_
 .have n:G a<=G b:=by have h:G a<G b:=du;omega
  rw[vW (val a)];refine rt J<|ay ?_;revert W hb la lb n;generalize b=X;generalize a=d;intro C E u w n;refine dc (st':=⟨[(0,N al X),(1,N al d)],[],30,[]⟩) aM<|t ?_;refine rm al (X.length+1) J J J J J J (kH .u32) J ?_ ?_ ?_
  .show _*4<=_;omega
  .show _*1<=_;omega
  refine o J<|e J<|L<|e J ?_;refine q<|aK (α:=I×V Z×Z) (λx=>⟨[(0,N al X),(1,N al d),(5,.c<|.X 30003000),(6,cU x.2.2),(21,D X.length),(22,D x.1)],[(30003000,.vec 23 al x.2.1)],33,[]⟩) (λx=>Dx X d (X.length+1) x/\x.1<=X.length) (λx=>X.length-x.1) (0,bh (X.length+1) 0,0) ?_ ?_ ?_
  .refine⟨⟨aW _,ax,rh _,?_,gk _,A1,A2⟩,aW _⟩;intro y _;simp only[aF,j9];split<;>rfl
  .exact wk (aS J) ⟨bR J,T⟩
  .rintro⟨i,f,c⟩ ⟨g,l⟩;have l:i<=X.length:=l;have F:G f=X.length+1:=g.len;have k:0<=c:=g.c0;have P:c<=1:=g.c1;have M:=dp E i;have O:=dp C i;refine e J<|L ?_;refine z J (λh=>?_) (λh=>?_)
   .have h:i<X.length:=by simpa using h
    have m:=g.next (S:i<X.length+1) E C;simp only at m;generalize ht:X.getD i 0+Y d i 0+c=s at m;have H:ao .u32 s=s%4294967296:=by simp[ao,cr,AY]
    have K:s.fdiv (2^(min (ad (32:Z))<|cr .u64))=s/4294967296:=by rw[zh _ A];rfl
    refine ai<|L<|q<|e J<|e J<|L<|e J ?_;refine z J (λh2=>?_)<|λh2=>?_
    .have h2:i<G d:=by simpa using h2
     refine rt J<|ay ?_;have p:ao .u64 (ao .u64 (ao .u64 (X.getD (ad (i:Z)) 0)+c)+ao .u64 (Y d (ad (i:Z)) 0))=s:=by rw[aV,wrap_u64 (X.getD i 0) S S,wrap_u64 (Y d i 0) S S,wrap_u64 (X.getD i 0+c) S S,wrap_u64 _ S S];omega
     refine dc (st':=⟨[(0,N al X),(1,N al d),(5,.c<|.X 30003000),(7,D i),(8,cU s),(21,D X.length),(22,D i)],[(30003000,.vec 23 al f)],40,[]⟩) (wk ⟨sR J,sR J,sR J,sR J,⟨_,J,a7.of_eq<|bA p⟩,sR J,sR J,T⟩ ⟨bR J,T⟩) ?_;refine e J<|rt J<|aT<|rt J<|aA (i+1,f.set i<|s%4294967296,s/4294967296) ⟨m,Lk⟩ G5<|wk ⟨sR J,sR J,sR J,sE J ?_,sR J,sE J J,T⟩ ⟨bE J ?_,T⟩
     .exact bA K
     .rw[H,aV]
    .have h2:¬i<G d:=by simpa using h2
     have Q:Y d i 0=0:=Q9;refine ai ?_;have p:ao .u64 (ao .u64 (X.getD (ad (i:Z)) 0)+c)=s:=by rw[aV,wrap_u64 (X.getD i 0) S S,wrap_u64 _ S S];omega
     refine dc (st':=⟨[(0,N al X),(1,N al d),(5,.c<|.X 30003000),(7,D i),(8,cU s),(21,D X.length),(22,D i)],[(30003000,.vec 23 al f)],40,[]⟩) (wk ⟨sR J,sR J,sR J,sR J,⟨_,J,a7.of_eq<|bA p⟩,sR J,sR J,T⟩ ⟨bR J,T⟩) ?_;refine e J<|rt J<|aT<|rt J<|aA (i+1,f.set i<|s%4294967296,s/4294967296) ⟨m,Lk⟩ G5<|wk ⟨sR J,sR J,sR J,sE J ?_,sR J,sE J J,T⟩ ⟨bE J ?_,T⟩
     .exact bA K
     .rw[H,aV]
   .have h:¬i<X.length:=by simpa using h
    have l:i=X.length:=S;subst l;have R:ao .u32 c=c:=wrap_u32 c k S;refine aN<|ay<|e J ?_;refine dc (st':=⟨[(5,.c<|.X 30003000)],[(30003000,.vec 23 al<|f.set X.length c)],40,[]⟩) (wk ⟨sR J,T⟩ ⟨bE J ?_,T⟩) ?_
    .rw[R,aV]
    refine cD 30003000 J J J<|aO J J (vU _) J<|bq J ?_;have U:bM (f.set X.length c):=yA g.r _ ⟨k,S⟩;have B:=g.v;simp only[eE]at B;rw[na d X.length n]at B;rw[pn U,GG f X.length c S<|g.z X.length<|a8 _,B]
 .have n:G b<=G a:=by have h:¬G a<G b:=du;omega
  refine ai ?_;revert W hb la lb n;generalize a=X;generalize b=d;intro E C w u n;refine dc (st':=⟨[(0,N al X),(1,N al d)],[],30,[]⟩) aM<|t ?_;refine rm al (X.length+1) J J J J J J (kH .u32) J ?_ ?_ ?_
  .show _*4<=_;omega
  .show _*1<=_;omega
  refine o J<|e J<|L<|e J ?_;refine q<|aK (α:=I×V Z×Z) (λx=>⟨[(0,N al X),(1,N al d),(5,.c<|.X 30003000),(6,cU x.2.2),(21,D X.length),(22,D x.1)],[(30003000,.vec 23 al x.2.1)],33,[]⟩) (λx=>Dx X d (X.length+1) x/\x.1<=X.length) (λx=>X.length-x.1) (0,bh (X.length+1) 0,0) ?_ ?_ ?_
  .refine⟨⟨aW _,ax,rh _,?_,gk _,A1,A2⟩,aW _⟩;intro y _;simp only[aF,j9];split<;>rfl
  .exact wk (aS J) ⟨bR J,T⟩
  .rintro⟨i,f,c⟩ ⟨g,l⟩;have l:i<=X.length:=l;have F:G f=X.length+1:=g.len;have k:0<=c:=g.c0;have P:c<=1:=g.c1;have M:=dp E i;have O:=dp C i;refine e J<|L ?_;refine z J (λh=>?_) (λh=>?_)
   .have h:i<X.length:=by simpa using h
    have m:=g.next (S:i<X.length+1) E C;simp only at m;generalize ht:X.getD i 0+Y d i 0+c=s at m;have H:ao .u32 s=s%4294967296:=by simp[ao,cr,AY]
    have K:s.fdiv (2^(min (ad (32:Z))<|cr .u64))=s/4294967296:=by rw[zh _ A];rfl
    refine ai<|L<|q<|e J<|e J<|L<|e J ?_;refine z J (λh2=>?_)<|λh2=>?_
    .have h2:i<G d:=by simpa using h2
     refine rt J<|ay ?_;have p:ao .u64 (ao .u64 (ao .u64 (X.getD (ad (i:Z)) 0)+c)+ao .u64 (Y d (ad (i:Z)) 0))=s:=by rw[aV,wrap_u64 (X.getD i 0) S S,wrap_u64 (Y d i 0) S S,wrap_u64 (X.getD i 0+c) S S,wrap_u64 _ S S];omega
     refine dc (st':=⟨[(0,N al X),(1,N al d),(5,.c<|.X 30003000),(7,D i),(8,cU s),(21,D X.length),(22,D i)],[(30003000,.vec 23 al f)],40,[]⟩) (wk ⟨sR J,sR J,sR J,sR J,⟨_,J,a7.of_eq<|bA p⟩,sR J,sR J,T⟩ ⟨bR J,T⟩) ?_;refine e J<|rt J<|aT<|rt J<|aA (i+1,f.set i<|s%4294967296,s/4294967296) ⟨m,Lk⟩ G5<|wk ⟨sR J,sR J,sR J,sE J ?_,sR J,sE J J,T⟩ ⟨bE J ?_,T⟩
     .exact bA K
     .rw[H,aV]
    .have h2:¬i<G d:=by simpa using h2
     have Q:Y d i 0=0:=Q9;refine ai ?_;have p:ao .u64 (ao .u64 (X.getD (ad (i:Z)) 0)+c)=s:=by rw[aV,wrap_u64 (X.getD i 0) S S,wrap_u64 _ S S];omega
     refine dc (st':=⟨[(0,N al X),(1,N al d),(5,.c<|.X 30003000),(7,D i),(8,cU s),(21,D X.length),(22,D i)],[(30003000,.vec 23 al f)],40,[]⟩) (wk ⟨sR J,sR J,sR J,sR J,⟨_,J,a7.of_eq<|bA p⟩,sR J,sR J,T⟩ ⟨bR J,T⟩) ?_;refine e J<|rt J<|aT<|rt J<|aA (i+1,f.set i<|s%4294967296,s/4294967296) ⟨m,Lk⟩ G5<|wk ⟨sR J,sR J,sR J,sE J ?_,sR J,sE J J,T⟩ ⟨bE J ?_,T⟩
     .exact bA K
     .rw[H,aV]
   .have h:¬i<X.length:=by simpa using h
    have l:i=X.length:=S;subst l;have R:ao .u32 c=c:=wrap_u32 c k S;refine aN<|ay<|e J ?_;refine dc (st':=⟨[(5,.c<|.X 30003000)],[(30003000,.vec 23 al<|f.set X.length c)],40,[]⟩) (wk ⟨sR J,T⟩ ⟨bE J ?_,T⟩) ?_
    .rw[R,aV]
    refine cD 30003000 J J J<|aO J J (vU _) J<|bq J ?_;have U:bM (f.set X.length c):=yA g.r _ ⟨k,S⟩;have B:=g.v;simp only[eE]at B;rw[na d X.length n]at B;rw[pn U,GG f X.length c S<|g.z X.length<|a8 _,B]
def Ll:ByteArray:={data:=(([0,1,2,2,3,3,3,3,4,4,4,4,4,4,4,4,5,5,5,5,5,5,5,5,5,5,5,5,5,5,5,5,6,6,6,6,6,6,6,6,6,6,6,6,6,6,6,6,6,6,6,6,6,6,6,6,6,6,6,6,6,6,6,6].append [7,7,7,7,7,7,7,7,7,7,7,7,7,7,7,7,7,7,7,7,7,7,7,7,7,7,7,7,7,7,7,7,7,7,7,7,7,7,7,7,7,7,7,7,7,7,7,7,7,7,7,7,7,7,7,7,7,7,7,7,7,7,7,7]).append<|[8,8,8,8,8,8,8,8,8,8,8,8,8,8,8,8,8,8,8,8,8,8,8,8,8,8,8,8,8,8,8,8,8,8,8,8,8,8,8,8,8,8,8,8,8,8,8,8,8,8,8,8,8,8,8,8,8,8,8,8,8,8,8,8].append [8,8,8,8,8,8,8,8,8,8,8,8,8,8,8,8,8,8,8,8,8,8,8,8,8,8,8,8,8,8,8,8,8,8,8,8,8,8,8,8,8,8,8,8,8,8,8,8,8,8,8,8,8,8,8,8,8,8,8,8,8,8,8,8]).toArray}
def Yw(n:I):Bool:=match AT Ll (n:Z)with
 |some l=>decide (0<=l)&&decide (l<=8)&&Nat.blt n (2^ad l)&&(Nat.ble (2^ad l) (2*n)||Nat.beq n 0)
 |none=>ah
def ajH:((be 256).all Yw)=true:=j8
def ajI{n:I}(d:n<256):∃l:I,AT Ll (n:Z)=some (l:Z)/\l<=8/\n<2^l/\(2^l<=2*n\/n=0):=by
 have a:=rv.1 ajH n<|jO.2 d;unfold Yw at a;split at a
 .rename_i l e;simp only[eG,vI,decide_eq_true_eq]at a;let ⟨⟨⟨h2,f⟩,c⟩,b⟩:=a;have c:=cY c;refine⟨ad l,by rw[Bc h2];exact e,S,c,?_⟩;rcases b with b|b
  .exact .inl<|cY b
  .exact .inr<|y8 b
 .cases a
def G6{a}{f:TypeId}{x i}{g}{k}{d b}{l}(m:a.ev x=some (.c<|.V<|.string g))(n:a.ev i=some (.c<|.I k d))(p:w f dD=some l)(r:l.kind= .str)(v:AT g d=some b):AU dD a (.index f x i)=some (.c<|.I .u8 b,.le 0 d):=by simp[AU,m,n,p,r,v]
def ajJ a b(F:bM a)(H:bM b)(la:G a<=1099511627776)(lb:G b<=1099511627776):af j 175 [N al a,N al b] (N al<|aj<|ad<|val a*val b):=by
 refine aD Tryz.func175 ?_;refine e J<|t ?_;refine rm al (G a+G b) J J J J J J (kH .u32) J ?_ ?_ ?_
 .show _*4<=_;omega
 .show _*1<=_;omega
 refine o J<|L<|e J ?_;refine q<|aK (α:=I×V Z) (λx=>⟨[(0,N al a),(1,N al b),(5,.c<|.X 1005000),(18,D<|G a),(19,D x.1)],[(1005000,.vec 23 al x.2)],3,[]⟩) (QD a b) (λx=>G a-x.1) (0,bh (G a+G b) 0) ?_ ?_ ?_
 .refine⟨aW _,ax,rh _,?_,A2⟩;intro O _;simp only[aF,j9];split<;>rfl
 .exact wk (aS J) ⟨bR J,T⟩
 .rintro⟨i,d⟩ l;have g:G d=G a+G b:=l.len;refine e J<|L ?_;refine z J (λh=>?_) (λh=>?_)
  .have h:i<G a:=by simpa using h
   have Q:=dp F i;refine ai<|L<|q<|e J<|e J<|e J<|L<|e J ?_;have R:ao .u64 (Y a (ad (i:Z)) 0)=Y a i 0:=by rw[aV,wrap_u64 _ S S]
   refine q<|aK (α:=I×V Z×Z) (λx=>⟨[(0,N al a),(1,N al b),(5,.c<|.X 1005000),(6,D i),(7,cU x.2.2),(8,cU<|Y a i 0),(18,D<|G a),(19,D i),(28,D<|G b),(29,D x.1)],[(1005000,.vec 23 al x.2.1)],8,[]⟩) (A3 a b i) (λx=>G b-x.1) (0,d,0) ?_ ?_ ?_
   .refine⟨aW _,g,l.r,l.z,gk _,(by show(0:Z)<_;decide),?_⟩;have:=l.v;simp only at this;simp[this,val]
   .exact wk ⟨sR J,sR J,sR J,sR J,sR J,⟨_,J,a7.of_eq<|bA R⟩,sR J,sR J,sR J,sR J,T⟩ ⟨bR J,T⟩
   .rintro⟨k,d,c⟩ m;have g:G d=G a+G b:=m.len;have p:0<=c:=m.c0;have B:c<4294967296:=m.c1;refine e J<|L ?_;refine z J (λn=>?_) (λn=>?_)
    .have n:k<G b:=by simpa using n
     have U:=dp H k;have W:=dp m.r<|i+k;simp only at W;have gm:=GI Q.1 S U.1 S;refine ai<|L<|q<|e J<|e J ?_ (hp:=iM);have f:ad ((i:Z)+(k:Z))=i+k:=S;have K:ao .u64 (ao .u64 (ao .u64 (Y a i 0*ao .u64 (Y b (ad (k:Z)) 0))+ao .u64 (Y d (ad<|(i:Z)+(k:Z)) 0))+c)=Y a i 0*Y b k 0+Y d (i+k) 0+c:=by rw[f,aV,wrap_u64 (Y b k 0) S S,wrap_u64 (Y d (i+k) 0) S S,wrap_u64 (Y a i 0*Y b k 0) S S,wrap_u64 (Y a i 0*Y b k 0+Y d (i+k) 0) S S,wrap_u64 _ S S]
     have C:=m.next h n F H;simp only at C;generalize ht:Y a i 0*Y b k 0+Y d (i+k) 0+c=s at C K;have E:ao .u32 s=s%4294967296:=by simp[ao,cr,AY]
     have u:s.fdiv (2^(min (ad (32:Z))<|cr .u64))=s/4294967296:=by rw[zh _ A];rfl
     refine dc (st':=⟨[(0,N al a),(1,N al b),(5,.c<|.X 1005000),(6,D i),(8,cU<|Y a i 0),(9,D k),(10,cU s),(18,D<|G a),(19,D i),(28,D<|G b),(29,D k)],[(1005000,.vec 23 al d)],12,[]⟩) (wk ⟨sR J,sR J,sR J,sR J,sR J,sR J,sE J ?_,sR J,sR J,sR J,sR J,T⟩ ⟨bR J,T⟩) ?_
     .exact bA K
     refine e J<|rt J<|aT<|rt J<|aA (k+1,d.set (i+k)<|s%4294967296,s/4294967296) C (S:G b-(k+1)<G b-k)<|wk ⟨sR J,sR J,sR J,sR J,sE J ?_,sR J,sR J,sR J,sR J,sE J ?_,T⟩ ⟨bE J ?_,T⟩
     .exact bA u
     .rfl
     .rw[E,f]
    .have n:¬k<G b:=by simpa using n
     have w:k=G b:=by have:=m.k;simp only at this;omega
     subst w;have y:=m.done h;have f:ad ((i:Z)+(G b:Z))=i+G b:=S;have E:ao .u32 c=c:=wrap_u32 c p B;refine aN<|ay<|rt J<|aT<|rt J<|aA (i+1,d.set (i+G b) c) y ka<|wk ⟨sR J,sR J,sR J,sR J,sE J ?_,T⟩ ⟨bE J ?_,T⟩
     .rfl
     .rw[E,f]
  .have h:¬i<G a:=by simpa using h
   have M:i=G a:=by have:=l.i;simp only at this;omega
   subst M;refine aN<|ay<|cD 1005000 J J J<|t ?_;refine rc J J (vU _)<|o J<|bq J ?_;have P:=l.v;simp only[eE]at P;rw[pn l.r];simp only[P]
def Yx m k(a:G (aj m)<=1099511627776)(b:G (aj k)<=1099511627776):af j 171 [N al (aj m),N al<|aj k] (N al<|aj<|m+k):=by have:=ajG (aj m) (aj k) (eh m) (eh k) a b;rw[eN,eN,(S:ad ((m:Z)+(k:Z))=m+k)]at this;exact this
def Q' m k(a:G (aj m)<=1099511627776)(b:G (aj k)<=1099511627776):af j 175 [N al (aj m),N al<|aj k] (N al<|aj<|m*k):=by have:=ajJ (aj m) (aj k) (eh m) (eh k) a b;rw[eN,eN,show ad ((m:Z)*(k:Z))=m*k by rw[<-fF];rfl]at this;exact this
def tb a b(i:Sm a)(k:Sm b):af j 105 [aZ a,aZ b] (aZ<|a*b):=by
 refine aD Tryz.func105 ?_;refine e J<|t ?_;refine rc J J (Q' _ _ i k)<|rc J J (oS _ _)<|o J<|bq J ?_;have l:sg (bK a !=bK b) (aq a*aq b)=a*b:=by have c:=xw a;have d:=xw b;generalize aq a=x at c⊢;generalize aq b=y at d⊢;cases f:bK a<;>cases g:bK b<;>rw[f]at c<;>rw[g]at d<;>simp only[sg,cA,cC,jQ]at c d<;>rw[<-c,<-d]<;>simp[sg]<;>grind
 exact aC aZ l
def pD(n:I):I:=if n=0 then 0 else Nat.log2 n+1
def Lm(n:I)(f:n<=12):af j 130 [cU n] (D<|pD n):=by
 have a:ao .u8 (n:Z)=(n:Z):=by simp[ao,cr,AY];omega
 have d:AT Ll (n:Z)=some ((pD n:I):Z):=by have:∀m:Fin 13,AT Ll ((m:I):Z)=some ((pD m:I):Z):=xJ;exact this ⟨n,S⟩
 have g:pD n<=4:=by have:∀m:Fin 13,pD m<=4:=A;exact this ⟨n,S⟩
 have b:af j 194 [cU n] (D<|pD n):=by
  refine aD Tryz.func194 ?_;refine e J<|L<|e J<|z J (λh=>?_)<|λ_=>ai ?_
  .exfalso;have h:(4294967296:Z)<=(n:Z):=az h;omega
  refine L<|e J<|z J (λh=>?_)<|λ_=>ai ?_
  .exfalso;have h:(65536:Z)<=(n:Z):=az h;omega
  refine L<|e J<|z J (λh=>?_)<|λ_=>ai ?_
  .exfalso;have h:(256:Z)<=(n:Z):=az h;omega
  refine t<|rx (x:= .c<|.I .u8 (pD n:I)) (pm:= .le 0<|ao .u8 (n:Z)) J (G6 J J J J<|by rw[a];exact d) (by rw[a];exact nM n) (hp:=ak)<|o J (hp:=ak)<|bq J<|gh ?_;exact zj _
 refine aD Tryz.func130 ?_;refine e J<|L<|z J (λh=>bS)<|λ_=>ai ?_;exact aO J J b J<|bU J
def ajK:∀n:Fin 13,∀a:Fin 4,ao .i64 ((iq (cr .i64) (((n:I):Z).fdiv<|2^(min (ad ((a:I):Z))<|cr .i64))&&& iq (cr .i64) 1).toNat:Z)=(((n:I)/2^(a:I)%2:I):Z):=A
def ajL:∀n:Fin 13,pD n<=4/\(n:I)/2^pD n=0:=A
def ajM n a:n/2^a=2*(n/2^(a+1))+n/2^a%2:=by rw[fy,<-Ra];omega
def ajN(m n:I)(F:m<=2)(p:n<=12):af Tryz.prog 174 [N al (aj m),D n] (N al<|aj<|m^n):=by
 refine aD Tryz.func174 ?_;have r:∀k,k<=12->m^k<18446744073709551616:=by intro k l;have Q:m^k<=2^k:=v5 F k;have b:2^k<=2^12:=fG A l;omega
 have a:∀k,k<=12->G (aj<|m^k)<=1099511627776:=λk l=>cQ (xx<|r k l) A
 have v:G (aj m)<=1099511627776:=by have:=a 1 A;simpa using this
 have B:=ajL ⟨n,S⟩;simp only at B;have f:af Tryz.prog 130 [AV.c (num .u64 (n:Z)).1] (D<|pD n):=by rw[show(AV.c (num .u64 (n:Z)).1)=cU (n:Z)from bA<|wrap_u64 _ S S];exact Lm n p
 refine e J<|t<|rl al [_] J J (o J<|L<|aO J J f J ?_);refine q<|aK (α:=I) (λk=>⟨[(0,N al<|aj m),(1,D n),(5,N al<|aj<|m^(n/2^k)),(6,D<|(k:Z)-1)],[],3,[]⟩) (λk=>k<=pD n) (λk=>k) (pD n) (a8 _) (wk ⟨sR J,sR J,sE J ?_,sR J,T⟩ T) ?_
 .rw[B.2];rfl
 intro k l;refine L<|e J ?_;refine z J (λh=>?_)<|λh=>?_
 .have h:(k:Z)-1>=0:=by simpa using h
  obtain⟨j,rfl⟩:∃j,k=j+1:=⟨k-1,S⟩;have g:n/2^(j+1)<=12:=cQ (A8 _ _) p;have C:n/2^j<=12:=cQ (A8 _ _) p;have H:=ajM n j;have K:(((j+1:I):Z)-1)=(j:Z):=S;have x:m^(n/2^(j+1))*m^(n/2^(j+1))=m^(2*(n/2^(j+1))):=by rw[<-om];congr 1;omega
  have E:=Q' _ _ (a _ g)<|a _ g;rw[x]at E;refine ai<|L<|q<|aO J J E J ?_;rw[K];have d:=ajK ⟨n,S⟩ ⟨j,S⟩;simp only at d;refine e J ?_;refine z J (λb=>?_)<|λb=>?_
  .have b:n/2^j%2=1:=by have b:=eq_of_beq b;rw[d]at b;omega
   have i:=Q' (m^(2*(n/2^(j+1)))) m (a _ S) v;rw[<-fy,(S:(2*(n/2^(j+1))).succ=n/2^j)]at i;refine bs<|rc J J i<|o J<|aT<|rt J<|aA j S ni aM
  .have b:n/2^j%2=0:=by
    rw[d]at b;have b:¬((n/2^j%2:I):Z)=1:=λP=>by rw[P]at b;cases b
    omega
   refine bN<|aT<|rt J<|aA j S ni<|wk ⟨sR J,sR J,sE J ?_,sR J,T⟩ T;rw[(S:2*(n/2^(j+1))=n/2^j)]
 .have h:¬((k:Z)-1>=0):=by simpa using h
  have:k=0:=S;subst this;refine aN<|ay<|e J<|bq J ?_;rw[oo,Nat.div_one]
def ajO(n:I)(b:n<=12):af j 104 [aZ 2,D n] (.t [(true,av .z ((2^n:I):Z)),(ah,[.I .i64 0])]):=by
 refine aD Tryz.func104 ?_;refine e J<|L<|t ?_;refine rg 8 J J (λh=>?_)<|λh=>?_
 .exfalso;have h:(n:Z)<0:=du;omega
 .refine o J (z J (λh2=>?_)<|λh2=>?_)
  .exfalso;have h2:(n:Z)>4096:=lj;omega
  .refine ai<|t ?_;refine rg 15 J J (λa=>by simp[bK]at a)<|λa=>?_;refine rc J J (ajN 2 n A b)<|rc J J (oS _ _)<|o J<|bq J ?_;rfl
def lK.fs{P}{f}{args}{E}{d}{xs}(bW:lK P f args E d xs):af P f args (.c<|.S d xs):=by
 refine⟨bW.call,J,λH W vs z i A=>?_⟩;let ⟨e,D,I,⟨v,x,t,B,hle,C,l,m⟩,h2⟩:=bW.spec H W vs z i A;refine⟨e,D,I,?_,h2⟩;rcases B with⟨a,K⟩|⟨b,r,Q,a,L,M,R,F,w,V,N⟩
 .subst K;refine⟨v,x,t,?_,hle,C,l,m⟩;have a:v= .slice none 0 0:=a;exact⟨none,0,a,ax,ax,.inl J⟩
 .have a:v= .slice (some ⟨b,0,none⟩) (G xs) r:=a;have p:cz x (λg o=>if g=b then(if o<G xs*d.n then Q[o]? else none)else x g o):=by
   intro g o v i;by_cases e:g=b
   .subst e;have:x g o=none:=N o;rw[this]at i;cases i
   .simp[e,i]
  refine⟨v,λg o=>if g=b then(if o<G xs*d.n then Q[o]? else none)else x g o,t,?_,cz.trans hle p,?_,?_,m⟩
  .refine⟨some ⟨b,0,none⟩,r,a,R,F,?_⟩;by_cases K:xs=[]
   .exact .inl K
   .refine .inr ⟨b,0,J,λk y=>⟨(aE (k*d.n) Q).take d.n,dk.length d _ _<|w k y,dk.mono p d _ _<|w k y,λj O=>?_⟩⟩;have U:(k+1)*d.n<=r*d.n:=eB _ S;have X:(k+1)*d.n<=G xs*d.n:=eB _ S;rw[g7,iL]at U X;simp only[il,yX]at O;have q:k*d.n+j<G xs*d.n:=S;simp only[cA,dU,sT,uw,q];exact bD S
  .intro g o s;have:g≠b:=S;simp only[this,cC];exact C g o s
  .intro g o u i;by_cases e:g=b
   .subst e;simp only[cA]at i;split at i
    .simp[World.cell?,L,i]
    .cases i
   .simp only[e,cC]at i;exact l g o u i
def Yy{P}{n}{x c}{d}{Q}{α:Type}(b:α->St)(f:α->Prop)(a:∀m,f m->TR P n c (b m) Q)(g:(∀m,f m->fw n .normal (b m) (sY P c Q))->TR P n x d (sY P c Q)):TR P n (.seq x c) d Q:=
 L (g λm i=>ay<|a m i)
def oq{P}{n}{x c}{d}{Q}b(a:TR P n c b Q)(f:fw n .normal b (sY P c Q)->TR P n x d (sY P c Q)):TR P n (.seq x c) d Q:=
 L (f<|ay a)
def fH{n}{b}{c a}{Q}(d:fw n b a Q)(f:Wk c a):fw n b c Q:=P2 f d
def Bf x c a(d:0<=x)(f:x%2^a=0)(g:0<=c)(b:c<2^a)(m:x+c<18446744073709551616):
  ao .u64 ((iq (cr .u64) x|||iq (cr .u64) c).toNat:Z)=x+c:=by
 obtain⟨X,rfl⟩:=xK d
 obtain⟨C,rfl⟩:=xK g
 have i:((X:Z)%2^a)=((X%2^a:I):Z):=ax
 rw[i]at f
 have b:C<2^a:=by
  have:((C:I):Z)<((2^a:I):Z):=by rw[ot];exact b
  omega
 have k:(iq (cr .u64) (X:Z)|||iq (cr .u64) (C:Z)).toNat=X+C:=by
  rw[Ln,Ln,BitVec.toNat_or,Lo,Lo,show cr .u64=64 from J,nK S,nK S];have l:X=2^a*(X/2^a):=by have:=sZ X<|2^a;omega
  rw[l,<-Nat.two_pow_add_eq_or_of_lt b]
 rw[k,wrap_u64 _ S S];omega
def zk x a(b:0<=x)(c:a<=64)(d:x*2^a<18446744073709551616):ao .u64 (x*2^(min (ad ((a:I):Z))<|cr .u64))=x*2^a:=by rw[aV,show min a (cr .u64)=a from pj c,wrap_u64 _ (jm b<|Yz A) d]
def zm(x:Z) a(b:a<=64):x.fdiv (2^(min (ad ((a:I):Z))<|cr .u64))=x/2^a:=by rw[aV,show min a (cr .u64)=a from pj b,zh _<|Yz A]
def YA(x:Z) a(b:a<=32):x.fdiv (2^(min (ad ((a:I):Z))<|cr .u32))=x/2^a:=by rw[aV,show min a (cr .u32)=a from pj b,zh _<|Yz A]
def ajP(x:I)(v:0<x)(E:x<4294967296):∃l:I,af j 193 [cW x] (D l)/\l<=32/\1<=l/\x<2^l/\2^l<=2*x:=by
 obtain⟨y,n,p,hy,ex⟩:∃y n:I,(n=0/\y=x/\x<256\/n=8/\y=x/256/\256<=x/\x<65536\/n=16/\y=x/65536/\65536<=x/\x<16777216\/n=24/\y=x/65536/256/\16777216<=x)/\y<256/\0<y:=by
  by_cases a1:x<256
  .exact⟨x,0,.inl ⟨J,J,a1⟩,a1,v⟩
  .by_cases a2:x<65536
   .exact⟨x/256,8,.inr<|.inl ⟨J,J,S,a2⟩,S,S⟩
   .by_cases B:x<16777216
    .exact⟨x/65536,16,.inr<|.inr<|.inl ⟨J,J,S,B⟩,S,S⟩
    .exact⟨x/65536/256,24,.inr<|.inr<|.inr ⟨J,J,S⟩,S,S⟩
 let ⟨l,el,F,h2,r⟩:=ajI hy;have r:2^l<=2*y:=S;have H:1<=l:=by
  by_cases C:l=0
  .subst C;simp at h2;omega
  .omega
 refine⟨n+l,?_,S,S,?_,?_⟩
 .have f:(x:Z).fdiv (2^(min (ad ((16:I):Z))<|cr .u32))=((x/65536:I):Z):=by rw[YA _ _ S];omega
  have m:∀i:I,(i:Z).fdiv (2^(min (ad ((8:I):Z))<|cr .u32))=((i/256:I):Z):=λi=>by rw[YA _ _ S];omega
  have YB:∀i:I,i<256->ao .u8 (i:Z)=(i:Z):=λi K=>by simp[ao,cr,AY];omega
  refine aD Tryz.func193 ?_;refine e J<|L<|e J ?_;refine z J (λk=>?_)<|λk=>?_
  .have k:65536<=x:=by have k:(65536:Z)<=(x:Z):=az k;omega
   refine e J (hp:=ak)<|rt J<|ay<|L<|e J ?_;refine z J (λb=>?_)<|λb=>?_
   .have b:256<=x/65536:=by have b:(256:Z)<=(x:Z).fdiv (2^(min (ad ((16:I):Z))<|cr .u32)):=az b;rw[f]at b;omega
    refine e J (hp:=ak)<|rt J (hp:=ak)<|ay ?_;refine dc (st':=⟨[(0,cW y),(2,D n)],[],9,[]⟩) (wk ⟨⟨_,J,a7.of_eq<|Da<|by show Rb (Rb (x:Z)<|2^(min (ad ((16:I):Z))<|cr .u32)) (2^(min (ad ((8:I):Z))<|cr .u32))=_;rw[f,m];omega⟩,⟨_,J,a7.of_eq<|gh S⟩,T⟩ T) ?_;refine t<|rx (x:= .c<|.I .u8 l) (pm:= .le 0<|ao .u8 (y:Z)) J (G6 J J J J Lp) Lq (hp:=ak)<|o J (hp:=ak)<|bq J<|gh ?_;show(n:Z)+(l:Z)=((n+l:I):Z);omega
   .have b:x/65536<256:=by have b:¬(256:Z)<=(x:Z).fdiv (2^(min (ad ((16:I):Z))<|cr .u32)):=aL b;rw[f]at b;omega
    refine ai ?_;refine dc (st':=⟨[(0,cW y),(2,D n)],[],5,[]⟩) (wk ⟨⟨_,J,a7.of_eq<|Da<|by show Rb (x:Z) (2^(min (ad ((16:I):Z))<|cr .u32))=_;rw[f];omega⟩,⟨_,J,a7.of_eq<|gh S⟩,T⟩ T) ?_;refine t<|rx (x:= .c<|.I .u8 l) (pm:= .le 0<|ao .u8 (y:Z)) J (G6 J J J J Lp) Lq (hp:=ak)<|o J (hp:=ak)<|bq J<|gh ?_;show(n:Z)+(l:Z)=((n+l:I):Z);omega
  .have k:x<65536:=by have k:¬(65536:Z)<=(x:Z):=aL k;omega
   refine ai<|L<|e J ?_;refine z J (λb=>?_)<|λb=>?_
   .have b:256<=x:=by have b:(256:Z)<=(x:Z):=az b;omega
    refine e J (hp:=ak)<|rt J (hp:=ak)<|ay ?_;refine dc (st':=⟨[(0,cW y),(2,D n)],[],5,[]⟩) (wk ⟨⟨_,J,a7.of_eq<|Da<|by show Rb (x:Z) (2^(min (ad ((8:I):Z))<|cr .u32))=_;rw[m];omega⟩,⟨_,J,a7.of_eq<|gh S⟩,T⟩ T) ?_;refine t<|rx (x:= .c<|.I .u8 l) (pm:= .le 0<|ao .u8 (y:Z)) J (G6 J J J J Lp) Lq (hp:=ak)<|o J (hp:=ak)<|bq J<|gh ?_;show(n:Z)+(l:Z)=((n+l:I):Z);omega
   .have b:x<256:=by have b:¬(256:Z)<=(x:Z):=aL b;omega
    refine ai ?_;refine dc (st':=⟨[(0,cW y),(2,D n)],[],3,[]⟩) (wk ⟨⟨_,J,a7.of_eq<|Da (S:(x:Z)=(y:Z))⟩,⟨_,J,a7.of_eq<|gh S⟩,T⟩ T) ?_;refine t<|rx (x:= .c<|.I .u8 l) (pm:= .le 0<|ao .u8 (y:Z)) J (G6 J J J J Lp) Lq (hp:=ak)<|o J (hp:=ak)<|bq J<|gh ?_;show(n:Z)+(l:Z)=((n+l:I):Z);omega
 .rcases p with⟨d,g,a⟩|⟨d,g,a⟩|⟨d,g,a⟩|⟨d,g,a⟩
  .subst d g;simpa using h2
  .subst d;rw[om];omega
  .subst d;rw[om];omega
  .subst d;rw[om];omega
 .rcases p with⟨d,g,a⟩|⟨d,g,a⟩|⟨d,g,a⟩|⟨d,g,a⟩
  .subst d g;simpa using r
  .subst d;rw[om];omega
  .subst d;rw[om];omega
  .subst d;rw[om];omega
def ajQ(x:I)(b:0<x)(c:x<4294967296):∃a:I,af j 274 [cW x] (D a)/\a<=31/\2147483648<=x*2^a/\x*2^a<4294967296:=by
 let ⟨l,d,m,h2,f,g⟩:=ajP x b c;have n:2^l*2^(32-l)=4294967296:=by rw[<-om,(S:l+(32-l)=32)]
 have i:0<2^(32-l):=lN A;have p:x*2^(32-l)<2^l*2^(32-l):=Lr f i;have k:2^l*2^(32-l)<=2*x*2^(32-l):=eB _ g;rw[xL]at k;refine⟨32-l,?_,S,S,S⟩;refine aD Tryz.func274 ?_;refine e J<|t<|rc J J d<|o J (hp:=ak)<|bq J<|gh ?_;show(32:Z)-(l:Z)=((32-l:I):Z);omega
def ajR a d(n:bM a)(l:0<d)(p:d<4294967296)(W:G a<=1099511627776):af Tryz.prog 273 [N al a,cU d] (.t [(ah,[.S al (aj<|ad<|val a/d)]),(ah,[.I .u64 (val a%d)])]):=by
 refine aD Tryz.func273 ?_;refine e J<|t ?_;refine rm al (G a) J J J J J J (kH .u32) J ?_ ?_ ?_
 .show _*4<=_;omega
 .show _*1<=_;omega
 refine o J<|e J<|L<|e J ?_;refine q<|aK (α:=I×V Z×Z) (λx=>⟨[(0,N al a),(1,cU d),(6,.c<|.X 1002000),(7,cU x.2.2),(8,D<|(x.1:Z)-1)],[(1002000,.vec 23 al x.2.1)],4,[]⟩) (Dy a d) (λx=>x.1) (G a,bh (G a) 0,0) ?_ aM ?_
 .exact⟨a8 _,ax,rh _,gk _,l,xy⟩
 .rintro⟨k,f,r⟩ b;have B:G f=G a:=b.len;have i:0<=r:=b.r0;have m:r<d:=b.r1;have u:k<=G a:=b.k;refine L<|e J ?_;refine z J (λh=>?_) (λh=>?_)
  .have h:(k:Z)-1>=0:=by simpa using h
   obtain⟨j,rfl⟩:∃j,k=j+1:=⟨k-1,S⟩;have C:ad (((j+1:I):Z)-1)=j:=S;have g:=dp n j;have K:=KR i m g.1 g.2 p;have E:=b.next n p;refine ai<|L<|q<|e J (hp:=ak) ?_;have F:ao .u64 ((iq (cr .u64) (ao .u64<|r*2^(min (ad ((32:I):Z))<|cr .u64))|||iq (cr .u64) (ao .u64<|Y a (ad<|((j+1:I):Z)-1) 0)).toNat:Z)=r*4294967296+Y a j 0:=by rw[C,zk r 32 i S S,wrap_u64 (Y a j 0) S S,Bf (r*2^32) (Y a j 0) 32 S (DP _ _) S S S,show(2:Z)^32=4294967296 from J]
   generalize ht:r*4294967296+Y a j 0=s at E K F;have P:ao .u32 (ao .u64<|s.tdiv d)=s/d:=by rw[zb S,wrap_u64 _ S S,wrap_u32 _ S S]
   have Q:s.tmod d=s%d:=oh S;refine dc (st':=⟨[(0,N al a),(1,cU d),(6,.c<|.X 1002000),(8,D<|((j+1:I):Z)-1),(9,cU s)],[(1002000,.vec 23 al f)],6,[]⟩) (wk ⟨sR J,sR J,sR J,sR J,sE J ?_,T⟩ ⟨bR J,T⟩) ?_
   .exact bA F
   refine e J<|rt J<|aT<|rt J<|aA (j,f.set j<|s/d,s%d) E ni<|wk ⟨sR J,sR J,sR J,sE J ?_,sE J ?_,T⟩ ⟨bE J ?_,T⟩
   .exact bA Q
   .refine gh ?_;show((j+1:I):Z)-1-1=(j:Z)-1;omega
   .rw[P,C]
  .have h:¬((k:Z)-1>=0):=by simpa using h
   have:k=0:=S;subst this;refine aN<|ay<|cD 1002000 J J J<|t ?_;refine rc J J (vU _)<|o J<|bq J ?_;have H:val a=val f*d+r:=b.v;have R:bM f:=b.r;have eq:val a/d=val f:=by rw[H,vW,A5 _ _ S,Dz i m];omega
   have U:val a%d=r:=by rw[H,vW,QI,gT i m]
   rw[pn R,eq,U];rfl
def ajS{a}(c:bM a) b i:0<=val (y i a)*2^b/4294967296^i/\val (y i a)*2^b/4294967296^i<2^b:=by have d:=mN<|j5 c i;have k:=nC<|j5 c i;have l:=ug (m:=(y i a).length) (n:=i) bP;have f:=kE i;have g:(0:Z)<2^b:=kV A;refine⟨uh (jm d S) S,CC f ?_⟩;rw[ew];exact Int.mul_lt_mul_of_pos_left S g
def ajT a b i:
  bV (i+1) (val (y (i+1) a)*2^b)=bV i (val (y i a)*2^b)++[(Y a i 0*2^b+val (y i a)*2^b/4294967296^i)%4294967296]/\
  val (y (i+1) a)*2^b/4294967296^(i+1)=(Y a i 0*2^b+val (y i a)*2^b/4294967296^i)/4294967296:=by
 have d:=kE i
 have e:val (y (i+1) a)*2^b=val (y i a)*2^b+Y a i 0*2^b*4294967296^i:=by rw[lH,nb,jb,ew<|4294967296^i,<-jb]
 have c:val (y (i+1) a)*2^b/4294967296^i=Y a i 0*2^b+val (y i a)*2^b/4294967296^i:=by rw[e,A5 _ _ S,vW]
 refine⟨?_,by rw[KZ,c]⟩
 rw[DB,c,e,QQ]
def Lt xs n(a:Z):(xs++bh (n+1) 0).set (G xs) a=(xs++[a])++bh n 0:=by rw[oR _ _ (a8 _),gx,uc,A9,jR];rfl
def YC a(b:I)(B:bM a)(E:b<=31)(Q:G a<=1099511627776):lK j 275 [N al a,D b] 23 al (bV (G a+1)<|val a*2^b):=by
 refine vT Tryz.func275 J J J J A ?_;have r:(2:Z)^b<=2^31:=by have:=fG (A:2>0) E;have C:(2:Z)^b=((2^b:I):Z):=ax;omega
 have F:(0:Z)<2^b:=kV A;refine e J<|t ?_;refine rm al (G a+1) J J J J J J (kH .u32) J ?_ ?_ ?_
 .show _*4<=_;omega
 .show _*1<=_;omega
 refine o J<|e J<|L<|e J ?_;refine q<|aK (α:=I) (λi=>⟨[(0,N al a),(1,D b),(5,.c<|.X 1003000),(6,cU<|val (y i a)*2^b/4294967296^i),(14,D<|G a),(15,D i)],[(1003000,.vec 23 al<|bV i (val (y i a)*2^b)++bh (G a+1-i) 0)],4,[]⟩) (λi=>i<=G a) (λi=>G a-i) 0 (aW _) (wk ⟨sR J,sR J,sR J,sE J ?_,sR J,sR J,T⟩ ⟨bE J ?_,T⟩) ?_
 .simp[val];rfl
 .simp[bV]
 intro i R;have k:=ajS B b i;have f:=ajT a b i;have d:G (bV i<|val (y i a)*2^b)=i:=s' _ _;generalize l:val (y i a)*2^b/4294967296^i=c at k f;refine e J<|L ?_;refine z J (λh=>?_)<|λh=>?_
 .have h:i<G a:=by simpa using h
  have g:=dp B i;have v:0<=Y a i 0*2^b:=jm g.1 S;have H:Y a i 0*2^b<=4294967295*2^31:=wQ S r S A;refine ai<|L<|q<|e J<|e J (hp:=ak) ?_;have K:ao .u64 ((iq (cr .u64) (ao .u64<|ao .u64 (Y a (ad (i:Z)) 0)*2^(min (ad ((b:I):Z))<|cr .u64))|||iq (cr .u64) c).toNat:Z)=Y a i 0*2^b+c:=by rw[aV i,wrap_u64 (Y a i 0) S S,zk _ b g.1 S S,Bf _ c b v (DP _ _) k.1 k.2 S]
  generalize ht:Y a i 0*2^b+c=m at*;refine dc (st':=⟨[(0,N al a),(1,D b),(5,.c<|.X 1003000),(7,D i),(8,cU m),(14,D<|G a),(15,D i)],[(1003000,.vec 23 al<|bV i (val (y i a)*2^b)++bh (G a+1-i) 0)],7,[]⟩) (wk ⟨sR J,sR J,sR J,sR J,sE J ?_,sR J,sR J,T⟩ ⟨bR J,T⟩) ?_
  .exact bA K
  have x:G (bV i (val (y i a)*2^b)++bh (G a+1-i) (0:Z))=G a+1:=by rw[fO,d,fo];omega
  refine e J (hp:=ak)<|rt J (hp:=ak)<|aT<|rt J<|aA (i+1) h ka<|wk ⟨sR J,sR J,sR J,sE J ?_,sR J,sR J,T⟩ ⟨bE J ?_,T⟩
  .refine bA ?_;rw[f.2];exact zm m 32 S
  .refine aC (aH.vec 23 al) ?_;have C:ao .u32 m=m%4294967296:=Lh;have n:=Lt (bV i<|val (y i a)*2^b) (G a-i)<|m%4294967296;rw[d,(S:G a-i+1=G a+1-i)]at n;rw[C,aV,n,f.1,(S:G a-i=G a+1-(i+1))]
 .have h:¬i<G a:=by simpa using h
  have P:i=G a:=S;subst P;have p:c<4294967296:=S;have x:G (bV (G a) (val (y (G a) a)*2^b)++bh (G a+1-G a) (0:Z))=G a+1:=by rw[fO,d,fo];omega
  refine aN<|ay<|e J (hp:=ak)<|e J ?_;refine dc (st':=⟨[(4,.c<|.X 1003000)],[(1003000,.vec 23 al<|bV (G a+1)<|val a*2^b)],20,[]⟩) (wk ⟨sR J,T⟩ ⟨bE J ?_,T⟩)<|bc<|uD (id:=1003000) a6 J J;refine aC (aH.vec 23 al) ?_;have n:=Lt (bV (G a)<|val (y (G a) a)*2^b) 0 c;rw[d]at n;rw[wrap_u32 c k.1 p,aV,(S:G a+1-G a=0+1),n,uz,iW,DB,eE];rw[eE]at l;rw[l,gT k.1 p]
def ajU b a(c:0<=b)(k:b<18446744073709551616)(f:a<=31):
  ao .u64 ((iq (cr .u64) b&&& iq (cr .u64) (ao .u64<|ao .u64 (1*2^(min (ad ((a:I):Z))<|cr .u64))-1)).toNat:Z)=b%2^a:=by
 have l:2^a<=2^31:=fG A f
 have d:0<2^a:=lN A
 have g:(2:Z)^a=((2^a:I):Z):=ax
 obtain⟨T,rfl⟩:=xK c
 rw[zk 1 a A S S,j7,wrap_u64 (2^a-1) S S]
 have i:(2:Z)^a-1=((2^a-1:I):Z):=S
 rw[i,Ln,Ln,BitVec.toNat_and,Lo,Lo,show cr .u64=64 from J,nK S,nK S,Nat.and_two_pow_sub_one_eq_mod]
 have:=fg T d
 rw[wrap_u64 _ S S,g,DJ]
def ajV a(b:I)(p:bM a)(B:b<=31)(U:G a<=1099511627776):af Tryz.prog 277 [N al a,D b] (N al<|aj<|ad<|val a/2^b):=by
 refine aD Tryz.func277 ?_;have P:(2:Z)^b<=2^31:=by have:=fG (A:2>0) B;have W:(2:Z)^b=((2^b:I):Z):=ax;omega
 have l:(0:Z)<2^b:=kV A;refine e J<|t ?_;refine rm al (G a) J J J J J J (kH .u32) J ?_ ?_ ?_
 .show _*4<=_;omega
 .show _*1<=_;omega
 refine o J<|e J<|L<|e J ?_;refine q<|aK (α:=I×V Z×Z) (λx=>⟨[(0,N al a),(1,D b),(5,.c<|.X 1002000),(6,cU x.2.2),(7,D<|(x.1:Z)-1)],[(1002000,.vec 23 al x.2.1)],4,[]⟩) (Dy a<|2^b) (λx=>x.1) (G a,bh (G a) 0,0) ?_ aM ?_
 .exact⟨a8 _,ax,rh _,gk _,l,xy⟩
 .rintro⟨k,f,r⟩ d;have C:G f=G a:=d.len;have m:0<=r:=d.r0;have E:r<2^b:=d.r1;have u:k<=G a:=d.k;refine L<|e J ?_;refine z J (λh=>?_) (λh=>?_)
  .have h:(k:Z)-1>=0:=by simpa using h
   obtain⟨j,rfl⟩:∃j,k=j+1:=⟨k-1,S⟩;have F:ad (((j+1:I):Z)-1)=j:=S;have g:=dp p j;have n:=KR m E g.1 g.2 S;have H:=d.next p S;refine ai<|L<|q<|e J (hp:=ak) ?_;have K:ao .u64 ((iq (cr .u64) (ao .u64<|r*2^(min (ad ((32:I):Z))<|cr .u64))|||iq (cr .u64) (ao .u64<|Y a (ad<|((j+1:I):Z)-1) 0)).toNat:Z)=r*4294967296+Y a j 0:=by rw[F,zk r 32 m S S,wrap_u64 (Y a j 0) S S,Bf (r*2^32) (Y a j 0) 32 S (DP _ _) S S S,show(2:Z)^32=4294967296 from J]
   generalize ht:r*4294967296+Y a j 0=i at H n K;refine dc (st':=⟨[(0,N al a),(1,D b),(5,.c<|.X 1002000),(7,D<|((j+1:I):Z)-1),(8,cU i)],[(1002000,.vec 23 al f)],6,[]⟩) (wk ⟨sR J,sR J,sR J,sR J,sE J ?_,T⟩ ⟨bR J,T⟩) ?_
   .exact bA K
   refine e J (hp:=ak)<|rt J (hp:=ak)<|aT<|rt J<|aA (j,f.set j<|i/2^b,i%2^b) H ni<|wk ⟨sR J,sR J,sR J,sE J ?_,sE J ?_,T⟩ ⟨bE J ?_,T⟩
   .exact bA<|ajU i b n.1 n.2.1 B
   .refine gh ?_;show((j+1:I):Z)-1-1=(j:Z)-1;omega
   .refine aC (aH.vec 23 al) ?_;rw[zm i b S,F,wrap_u32 _ S S]
  .have h:¬((k:Z)-1>=0):=by simpa using h
   have:k=0:=S;subst this;refine aN<|ay<|cD 1002000 J J J<|t ?_;refine rc J J (vU _)<|o J<|bq J ?_;have Q:val a=val f*2^b+r:=d.v;have R:bM f:=d.r;have eq:val a/2^b=val f:=by rw[Q,vW,A5 _ _ S,Dz m E];omega
   rw[pn R,eq]
def qG n:ao .u64 n=n%18446744073709551616:=Lh
def xM n:ao .u32 n=n%4294967296:=Lh
def nN{x a:Z}(h:(x !=a)=true):x≠a:=du
def nO{x a:Z}(h:(x !=a)=ah):x=a:=du
def ajW a b(l:bM a)(m:bM b)(E:can a)(F:can b):af Tryz.prog 172 [N al a,N al b] (D<|cX (val a)<|val b):=by
 refine aD Tryz.func172<|yY 0 J λr=>yY 1 J λv=>?_;simp only[ET.n,kI]at r v;refine e J<|L<|e J ?_;refine z J (λh=>?_)<|λh=>?_
 .have h:G a≠G b:=by have h:=nN h;omega
  refine L<|e J ?_;refine z J (λc=>?_)<|λc=>?_
  .have c:G a<G b:=by have c:(G a:Z)<(G b:Z):=az c;omega
   refine e J<|bc ?_;repeat(first|refine bt ?_|refine eH ?_|refine gf ?_)
   refine c9 J ?_;rw[cX,s<|JI l m F c];rfl
  .have c:¬G a<G b:=by have c:¬(G a:Z)<(G b:Z):=aL c;omega
   refine ai ?_;refine e J<|bc ?_;repeat(first|refine bt ?_|refine eH ?_|refine gf ?_)
   refine c9 J ?_;have:=JI m l E S;rw[cX,M S,s this];rfl
 .have x:G a=G b:=by have h:=nO h;omega
  refine ai<|L<|e J ?_;refine q<|aK (α:=I) (λk=>⟨[(0,N al a),(1,N al b),(5,D<|(k:Z)-1)],[],3,[]⟩) (λk=>k<=G a/\aE k a=aE k b) (λk=>k) (G a) ⟨a8 _,by simp[x]⟩ aM ?_;rintro k ⟨K,i⟩;refine L<|e J ?_;refine z J (λB=>?_)<|λB=>?_
  .simp at B;obtain⟨j,rfl⟩:∃j,k=j+1:=⟨k-1,S⟩;have H:(((j+1:I):Z)-1)=j:=S;have f:j<G a:=S;rw[H];refine ai<|L<|q<|e J ?_;refine z J (λp=>?_) (λp=>?_)
   .have p:Y a j 0≠Y b j 0:=nN p;refine L<|e J ?_;refine z J (λg=>?_) (λg=>?_)
    .have g:Y a j 0<Y b j 0:=az g;refine e J<|bc ?_;repeat(first|refine bt ?_|refine eH ?_|refine gf ?_)
     refine c9 J ?_;rw[cX,s<|JJ l m j i x f g];rfl
    .have g:¬Y a j 0<Y b j 0:=aL g;refine ai ?_;refine e J<|bc ?_;repeat(first|refine bt ?_|refine eH ?_|refine gf ?_)
     refine c9 J ?_;have:=JJ m l j i.symm x.symm S S;rw[cX,M S,s this];rfl
   .have C:Y a j 0=Y b j 0:=nO p;refine bN<|aT<|rt J<|aA j ⟨S,?_⟩ ni aM;have d:j<G b:=S;rw[lY f,lY d,i];simp only[aF,bD f,bD d,Aj]at C;rw[C]
  .simp at B;have:k=0:=S;subst this;refine aN<|ay ?_;refine e J<|bc ?_;repeat(first|refine bt ?_|refine eH ?_|refine gf ?_)
   refine c9 J ?_;simp only[rI]at i;rw[i,cX,M S,M S];rfl
def DQ m k:af j 172 [N al (aj m),N al<|aj k] (D<|cX m k):=by have:=ajW (aj m) (aj k) (eh m) (eh k) (ud m)<|ud k;rw[eN,eN]at this;exact this
def ajX a b(p:bM a)(B:bM b)(hl:G b<=G a)(H:val b<=val a)(la:G a<=1099511627776):af j 173 [N al a,N al b] (N al<|aj<|ad<|val a-val b):=by
 refine aD Tryz.func173 ?_;refine e J<|t ?_;refine rm al (G a) J J J J J J (kH .u32) J ?_ ?_ ?_
 .show _*4<=_;omega
 .show _*1<=_;omega
 refine o J<|e J<|L<|e J ?_;generalize hM:G a=M;refine q<|aK (α:=I×V Z×Z) (λx=>⟨[(0,N al a),(1,N al b),(5,.c<|.X 1002000),(6,cU x.2.2),(13,D M),(14,D x.1)],[(1002000,.vec 23 al x.2.1)],4,[]⟩) (GH a b M) (λx=>M-x.1) (0,bh M 0,0) ?_ ?_ ?_
 .refine⟨aW _,ax,rh M,?_,gk _,A1,A2⟩;intro s _;simp only[aF,j9];split<;>rfl
 .exact aM
 .rintro⟨i,f,c⟩ g;have k:G f=M:=g.len;have K:0<=c:=g.c0;have P:c<=1:=g.c1;have C:i<=M:=g.i;have u:=dp p i;have w:=dp B i;refine e J<|L ?_;refine z J (λh=>?_) (λh=>?_)
  .have h:i<M:=by have h:(i:Z)<(M:Z):=az h;omega
   have m:=g.next h p B;simp only at m;refine ai<|L<|q<|e J<|e J (hp:=ak) ?_;refine L<|e J ?_;refine z J (λh2=>?_)<|λh2=>?_
   .have h2:i<G b:=by have h2:(i:Z)<(G b:Z):=az h2;omega
    refine rt J (hp:=ak)<|ay ?_;have l:ao .u64 (ao .u64 (ao .u64 (Y a (ad (i:Z)) 0)-c)-ao .u64 (Y b (ad (i:Z)) 0))=(Y a i 0-Y b i 0-c)%18446744073709551616:=by rw[aV,qG,qG,qG,qG];omega
    generalize Q:(Y a i 0-Y b i 0-c)%18446744073709551616=d at l;refine dc (st':=⟨[(0,N al a),(1,N al b),(5,.c<|.X 1002000),(7,D i),(8,cU d),(13,D M),(14,D i)],[(1002000,.vec 23 al f)],20,[]⟩) (wk ⟨sR J,sR J,sR J,sR J,sE J ?_,sR J,sR J,T⟩ ⟨bR J,T⟩) ?_
    .exact bA l
    refine e J (hp:=ak)<|rt J (hp:=ak)<|aT<|rt J<|aA (i+1,f.set i<|(4294967296+Y a i 0-Y b i 0-c)%4294967296,1-(4294967296+Y a i 0-Y b i 0-c)/4294967296) m xu<|wk ⟨sR J,sR J,sR J,sE J ?_,sR J,sR J,T⟩ ⟨bE J ?_,T⟩
    .refine bA ?_;show d.fdiv (2^(min (ad ((63:I):Z))<|cr .u64))=1-(4294967296+Y a i 0-Y b i 0-c)/4294967296;rw[zm d 63 S];omega
    .refine aC (aH.vec 23 al) ?_;show f.set (ad (i:Z)) (ao .u32 d)=f.set i ((4294967296+Y a i 0-Y b i 0-c)%4294967296);rw[aV,xM];exact aC (f.set i) S
   .have h2:¬i<G b:=by have h2:¬(i:Z)<(G b:Z):=aL h2;omega
    have R:Y b i 0=0:=Q9;refine ai ?_;have l:ao .u64 (ao .u64 (Y a (ad (i:Z)) 0)-c)=(Y a i 0-Y b i 0-c)%18446744073709551616:=by rw[aV,qG,qG];omega
    generalize Q:(Y a i 0-Y b i 0-c)%18446744073709551616=d at l;refine dc (st':=⟨[(0,N al a),(1,N al b),(5,.c<|.X 1002000),(7,D i),(8,cU d),(13,D M),(14,D i)],[(1002000,.vec 23 al f)],20,[]⟩) (wk ⟨sR J,sR J,sR J,sR J,sE J ?_,sR J,sR J,T⟩ ⟨bR J,T⟩) ?_
    .exact bA l
    refine e J (hp:=ak)<|rt J (hp:=ak)<|aT<|rt J<|aA (i+1,f.set i<|(4294967296+Y a i 0-Y b i 0-c)%4294967296,1-(4294967296+Y a i 0-Y b i 0-c)/4294967296) m xu<|wk ⟨sR J,sR J,sR J,sE J ?_,sR J,sR J,T⟩ ⟨bE J ?_,T⟩
    .refine bA ?_;show d.fdiv (2^(min (ad ((63:I):Z))<|cr .u64))=1-(4294967296+Y a i 0-Y b i 0-c)/4294967296;rw[zm d 63 S];omega
    .refine aC (aH.vec 23 al) ?_;show f.set (ad (i:Z)) (ao .u32 d)=f.set i ((4294967296+Y a i 0-Y b i 0-c)%4294967296);rw[aV,xM];exact aC (f.set i) S
  .have h:¬i<M:=by have h:¬(i:Z)<(M:Z):=aL h;omega
   have C:i=M:=S;subst C;refine aN<|ay<|cD 1002000 J J J<|t ?_;refine rc J J (vU _)<|o J<|bq J ?_;have E:bM f:=g.r;have F:val f-c*4294967296^i=val (y i a)-val (y i b):=g.v;rw[na a i S,na b i S]at F;have U:c=0:=by
    have W:=nC E;rw[k]at W;rcases(S:c=0\/c=1)with n|n
    .exact n
    .subst n;omega
   subst U;rw[pn E,<-F];simp
def Rc m k(a:k<=m)(b:G (aj m)<=1099511627776):af j 173 [N al (aj m),N al<|aj k] (N al<|aj<|m-k):=by have:=ajX (aj m) (aj k) (eh m) (eh k) (rJ a) (by rw[eN,eN];omega) b;rw[eN,eN,(S:ad ((m:Z)-(k:Z))=m-k)]at this;exact this
def YD c d m k(g:G (aj m)<=1099511627776)(i:G (aj k)<=1099511627776):af j 103 [.a [.B c,.S al<|aj m],.a [.B d,.S al<|aj k]] (aZ<|sg c m+sg d k):=by
 refine aD Tryz.func103 ?_;refine e J<|L<|e J ?_;refine z J (λh=>?_)<|λh=>?_
 .have h:c=d:=eq_of_beq h;subst h;refine t<|rc J J (Yx _ _ g i)<|rc J J (oS _ _)<|o J<|bc<|bt<|c9 J ?_;have f:sg c (m+k)=sg c m+sg c k:=by unfold sg;split<;>omega
  exact aC aZ f
 .have h:c≠d:=λl=>by subst l;simp at h
  refine ai<|L<|aO J J (DQ _ _) J ?_;refine z J (λb=>?_)<|λb=>?_
  .have b:k<=m:=by have b:cX (m:Z) (k:Z)>=0:=az b;unfold cX at b;split at b<;>omega
   refine t<|rc J J (Rc _ _ b g)<|rc J J (oS _ _)<|o J<|bc<|bt<|c9 J ?_;have f:sg c (m-k)=sg c m+sg d k:=by unfold sg;cases c<;>cases d<;>simp at h⊢<;>omega
   exact aC aZ f
  .have b:m<=k:=by
    have b:¬cX (m:Z) (k:Z)>=0:=aL b;unfold cX at b;split at b
    .omega
    .split at b<;>omega
   refine ai<|t<|rc J J (Rc _ _ b i)<|rc J J (oS _ _)<|o J<|bq J ?_;have f:sg d (k-m)=sg c m+sg d k:=by unfold sg;cases c<;>cases d<;>simp at h⊢<;>omega
   exact aC aZ f
def zn a b(c:Sm a)(d:Sm b):af j 103 [aZ a,aZ b] (aZ<|a+b):=by have h:=YD (bK a) (bK b) (aq a) (aq b) c d;rw[xw,xw]at h;exact h
def Rd a b(c:Sm a)(d:Sm b):af j 163 [aZ a,aZ b] (aZ<|a-b):=by
 refine aD Tryz.func163 ?_;have h:=YD (bK a) (!bK b) (aq a) (aq b) c d;have f:sg (bK a) (aq a)+sg (!bK b) (aq b)=a-b:=by rw[xw];unfold sg bK;by_cases h:b<0<;>simp[h]<;>omega
 rw[f]at h;exact e J<|aO J J h J<|bU J
def G7 a b:af j 149 [aZ a,aZ b] (D<|cX a b):=by
 refine aD Tryz.func149 ?_;refine e J<|t<|rc J J (zi a)<|rc J J (zi b)<|o J ?_;refine L<|e J<|z J (λh=>?_)<|λh=>?_
 .have h:=nN h;refine L (e J<|z J (λc=>?_)<|λc=>?_)
  .have c:cq a<cq b:=az c;refine e J<|bc<|bt<|bt<|c9 J<|gh ?_;unfold cq at c;unfold cX;rw[s];split at c<;>split at c<;>(try split at c)<;>(try split at c)<;>omega
  .have c:¬cq a<cq b:=aL c;refine ai<|e J<|bc<|bt<|c9 J<|gh ?_;unfold cq at h c;unfold cX;have:b<a:=by split at h<;>split at h<;>(try split at h)<;>(try split at h)<;>simp_all<;>omega
   rw[M S,s this]
 .have h:=nO h;refine ai (L<|e J<|z J (λc=>?_)<|λc=>?_)
  .have c:cq a<0:=az c;refine aO J J (DQ _ _) J<|bc<|bt<|c9 J<|gh ?_;have d:a<0:=by unfold cq at c;split at c<;>(try split at c)<;>omega
   have f:b<0:=by rw[h]at c;unfold cq at c;split at c<;>(try split at c)<;>omega
   unfold cX;split<;>split<;>(try split)<;>omega
  .have c:¬cq a<0:=aL c;refine ai<|aO J J (DQ _ _) J<|bq J<|gh ?_;have d:0<=a:=by unfold cq at c;split at c<;>(try split at c)<;>omega
   have f:0<=b:=by rw[h]at c;unfold cq at c;split at c<;>(try split at c)<;>omega
   unfold cX;split<;>split<;>(try split)<;>omega
end Go.El
