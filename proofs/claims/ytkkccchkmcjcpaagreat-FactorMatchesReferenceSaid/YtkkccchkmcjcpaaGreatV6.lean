/- Contracts: integers of the program: a digit of a long division. Own work; no condition. -/
import Derived.Test.YtkkccchkmcjcpaaGreatV5
import Derived.Test.YtkkccchkmcjcpaaGreatV3
set_option linter.all false
set_option maxHeartbeats 16000000
set_option maxRecDepth 100000
open BitVec renaming ofInt->iq
open Bool renaming false->ah,true->ae
open Go.El renaming rr->e,cS->N,vL->q,gy->L,cI->D,re->o,auI->z,y6->u,rb->t
open Go.IntKind renaming wrap->ao,bits->cr
open Go.Proofs.Tryz renaming prog->j,func235->YI
open Int renaming toNat->ad,natAbs->aq
open List renaming length->G,getD->Y,drop->aE,take->y,replicate->bh
open _root_ renaming Int->Z,Nat->I,List->V
namespace Go.El
open Go Go.Proofs
def fT{x a:Z}(h:(x==a)=ah):x≠a:=du
def ajY U v a n(hU:bM U)(hv:bM v)(hn:G v=n+2)(hj:a+n+3<=G U)(hl:G U<=1099511627777)(ajZ:2147483648<=Y v (n+1) 0)(iD:val ((aE a U).take<|n+3)<val v*4294967296):
  mR j 276 [.c (.W 0 a<|n+3),N al v] 23 al U (cW<|val ((aE a U).take<|n+3)/val v) (cZ U a<|bV (n+3)<|val ((aE a U).take<|n+3)%val v):=by
 refine pB Tryz.func276 J J J J J A ?_
 have K:=Yq hU hv hn hj ajZ iD
 have g1:=dp hU<|a+(n+2)
 have g2:=dp hU<|a+(n+1)
 have g3:=dp hU<|a+n
 have k1:=dp hv<|n+1
 have k2:=dp hv n
 have nD:=K.nD
 have hvp:=K.CA
 have a1:ad ((G v:Z))=n+2:=S
 have a2:ad ((G v:Z)-1)=n+1:=S
 have a3:ad ((G v:Z)-2)=n:=S
 generalize hQ:rK 2 ((Y U (a+(n+2)) 0*4294967296+Y U (a+(n+1)) 0)/Y v (n+1) 0) ((Y U (a+(n+2)) 0*4294967296+Y U (a+(n+1)) 0)%Y v (n+1) 0) (Y v (n+1) 0) (Y v n 0) (Y U (a+n) 0)=g
 refine e J<|e J<|e J (hp:=ak) ?_
 rw[a1,a2]
 have e6:ao .u64 ((iq (cr .u64) (ao .u64<|ao .u64 (Y U (a+(n+2)) 0)*2^(min (ad ((32:I):Z))<|cr .u64))|||iq (cr .u64) (ao .u64<|Y U (a+(n+1)) 0)).toNat:Z)=Y U (a+(n+2)) 0*4294967296+Y U (a+(n+1)) 0:=by rw[wrap_u64 (Y U (a+(n+2)) 0) S S,wrap_u64 (Y U (a+(n+1)) 0) S S,zk _ 32 S S S,Bf _ _ 32 S (DP _ _) S S S,show(2:Z)^32=4294967296 from J]
 have ev1:ao .u64 (Y v (n+1) 0)=Y v (n+1) 0:=wrap_u64 _ S S
 have ev2:ao .u64 (Y v n 0)=Y v n 0:=wrap_u64 _ S S
 have eu2:ao .u64 (Y U (a+n) 0)=Y U (a+n) 0:=wrap_u64 _ S S
 have H:0<=Y U (a+(n+2)) 0*4294967296+Y U (a+(n+1)) 0:=S
 have ht1:Y U (a+(n+2)) 0*4294967296+Y U (a+(n+1)) 0<18446744073709551616:=S
 have Bg:=@Kn1.small _ _ _ _ _ _ _ _ _ K
 have dC:=@KS _ _ _ _ _ _ _ _ _ K
 have YE:=K.first
 have uH:=K.q0
 refine dc (st':=⟨[(0,.c<|.W 0 a<|n+3),(1,N al v),(5,D<|G v),(6,cU<|Y U (a+(n+2)) 0*4294967296+Y U (a+(n+1)) 0)],[(0,.vec 23 al U)],4,[]⟩) (wk ⟨sR J,sR J,sR J,sE J ?_,T⟩ ⟨bR J,T⟩) ?_
 .exact bA e6
 generalize Y U (a+(n+2)) 0*4294967296+Y U (a+(n+1)) 0=t at*
 generalize QY:Y v (n+1) 0=v1 at*
 generalize aj4:Y v n 0=v2 at*
 generalize aj5:Y U (a+n) 0=u2 at*
 generalize YF:val ((aE a U).take<|n+3)=u at*
 have x1:ao .u64 (Y v (ad<|(G v:Z)-1) 0)=v1:=by rw[a2,QY];exact ev1
 have x2:ao .u64 (Y v (ad<|(G v:Z)-2) 0)=v2:=by rw[a3,aj4];exact ev2
 have x3:ao .u64 (Y U (a+ad ((G v:Z)-2)) 0)=u2:=by rw[a3,aj5];exact eu2
 have Re:0<=t/v1:=uh H S
 have De:0<=t%v1:=fS _ S
 have ze:t%v1<v1:=gA _ S
 have fc:=oi t v1
 have R:((-9223372036854775808<=(G v:Z)-1/\(G v:Z)-1<=9223372036854775807)/\0<=(G v:Z)-1/\(G v:Z)-1<(G v:Z))/\ao .u64 (Y v (ad<|(G v:Z)-1) 0)≠0:=by rw[x1];omega
 have YG:=dC 2 (t/v1) (t%v1) (by rw[ew];omega) De S QO YE
 rw[hQ]at YG
 let ⟨q1,q2,q3⟩:=YG
 refine e J (hp:=by simp only[Pr.an,Pr.h,num,eO,true_and,and_true];exact⟨⟨⟨R,R.1.1⟩,R.1.2⟩,R.2⟩) ?_
 refine oq ⟨[(0,.c<|.W 0 a<|n+3),(1,N al v),(5,D<|G v),(7,cU g)],[(0,.vec 23 al U)],30,[]⟩ ?_<|λte=>vL<|aK (α:=I×Z×Z) (λx=>⟨[(0,.c<|.W 0 a<|n+3),(1,N al v),(5,D<|G v),(6,cU t),(7,cU x.2.1),(8,cU x.2.2)],[(0,.vec 23 al U)],6,[]⟩) (λx=>rK x.1 x.2.1 x.2.2 v1 v2 u2=g/\t=x.2.1*v1+x.2.2/\0<=x.2.2/\x.2.2<4294967296/\4294967296<=x.2.2+x.1*2147483648/\u/val v<=x.2.1) (λx=>x.1) (2,t/v1,t%v1) ⟨hQ,by show t=t/v1*v1+t%v1;rw[ew];omega,De,(S:t%v1<4294967296),QO,YE⟩ (wk ⟨sR J,sR J,sR J,sR J,sE J ?_,sE J ?_,T⟩ ⟨bR J,T⟩) ?_
 .clear dC Bg hQ;refine e J<|L<|e J ?_;refine vL (aK (α:=I×Z×Z) (λx=>⟨[(0,.c<|.W 0 a<|n+3),(1,N al v),(5,D<|G v),(7,cU g),(9,cU x.2.1),(10,cU x.2.2),(82,D<|G v),(83,D x.1)],[(0,.vec 23 al<|cZ U a<|bV x.1<|val ((aE a U).take x.1)-g*val (y x.1 v))],32,[]⟩) (λx=>x.1<=n+2/\(val ((aE a U).take x.1)-g*val (y x.1 v))/4294967296^x.1= -(x.2.1+x.2.2)/\x.2.1=g*val (y x.1 v)/4294967296^x.1/\(x.2.2=0\/x.2.2=1)) (λx=>n+2-x.1) (0,0,0) ⟨aW _,xy,xy,.inl J⟩ (wk (aS J) ⟨bE J ?_,T⟩) ?_)
  .exact aC (aH.vec 23 al) (K1 U a).symm
  rintro⟨i,c,b⟩ ⟨F,h2,h3,h4⟩;simp only at F h2 h3 h4;have k:=Yn hv (S:0<=g) q3 i;rw[<-h3]at k;have gu:=dp hU<|a+i;have P:=Yl U v a i g (c:=c) (b:=b) J h2;have Q:G (bV i<|val ((aE a U).take i)-g*val (y i v))=i:=s' _ _;have K9:=xE (U:=U) (j:=a) (ws:=bV i<|val ((aE a U).take i)-g*val (y i v)) S;have C:=K2 (U:=U) (j:=a) (ws:=bV i<|val ((aE a U).take i)-g*val (y i v)) S;have E:=λw=>K3 (U:=U) (j:=a) (ws:=bV i<|val ((aE a U).take i)-g*val (y i v)) w S
  rw[Q]at C E;simp only at P;let ⟨s1,s2⟩:=P;refine e J<|L ?_;refine z J (λh=>?_)<|λh=>?_
  .have h:i<n+2:=by have h:(i:Z)<(G v:Z):=az h;omega
   have gv:=dp hv i;have hm:0<=g*Y v i 0/\g*Y v i 0<=18446744065119617025:=GI S S gv.1 S;have hcn:=Yo (v:=v) (q:=g) i h3;refine ai<|L<|vL<|e J<|e J (hp:=ak) ?_;have ei:ad (i:Z)=i:=aV i;have O:ao .u64 (ao .u64 (g*ao .u64 (Y v (ad (i:Z)) 0))+c)=g*Y v i 0+c:=by rw[ei,wrap_u64 (Y v i 0) S S,wrap_u64 (g*Y v i 0) S S,wrap_u64 _ S S]
   generalize hp:g*Y v i 0+c=p at*;refine dc (st':=⟨[(0,.c<|.W 0 a<|n+3),(1,N al v),(5,D<|G v),(7,cU g),(10,cU b),(11,D i),(12,cU p),(82,D<|G v),(83,D i)],[(0,.vec 23 al<|cZ U a<|bV i<|val ((aE a U).take i)-g*val (y i v))],40,[]⟩) (wk ⟨sR J,sR J,sR J,sR J,sR J,sR J,sE J ?_,sR J,sR J,T⟩ ⟨bR J,T⟩) ?_
   .exact bA O
   generalize hX:cZ U a (bV i<|val ((aE a U).take i)-g*val (y i v))=X at*;refine e J<|e J (hp:=ak) ?_;have w2:p.fdiv (2^(min (ad ((32:I):Z))<|cr .u64))=p/4294967296:=zm p 32 S;have w3:ao .u64 (ao .u64 (ao .u64 (X.getD (a+ad (i:Z)) 0)-ao .u64 (ao .u32 p))-b)=(Y U (a+i) 0-p%4294967296-b)%18446744073709551616:=by rw[ei,C,qG,qG,qG,qG,xM];omega
   generalize hd:(Y U (a+i) 0-p%4294967296-b)%18446744073709551616=d at*;refine dc (st':=⟨[(0,.c<|.W 0 a<|n+3),(1,N al v),(5,D<|G v),(7,cU g),(9,cU<|p/4294967296),(11,D i),(13,cU d),(82,D<|G v),(83,D i)],[(0,.vec 23 al X)],44,[]⟩) (wk ⟨sR J,sR J,sR J,sR J,sE J ?_,sR J,sE J ?_,sR J,sR J,T⟩ ⟨bR J,T⟩) ?_
   .exact bA w2
   .exact bA w3
   refine e J (hp:=ak)<|rt J (hp:=ak)<|aT<|rt J<|aA (i+1,p/4294967296,1-(4294967296+Y U (a+i) 0-p%4294967296-b)/4294967296) ⟨(S:i+1<=n+2),s2,hcn.symm,(S:1-(4294967296+Y U (a+i) 0-p%4294967296-b)/4294967296=0\/1-(4294967296+Y U (a+i) 0-p%4294967296-b)/4294967296=1)⟩ (S:n+2-(i+1)<n+2-i)<|wk ⟨sR J,sR J,sR J,sR J,sR J,sE J ?_,sR J,sR J,T⟩ ⟨bE J ?_,T⟩
   .refine bA ?_;show d.fdiv (2^(min (ad ((63:I):Z))<|cr .u64))=1-(4294967296+Y U (a+i) 0-p%4294967296-b)/4294967296;rw[zm d 63 S];omega
   .refine aC (aH.vec 23 al) ?_;show X.set (a+ad (i:Z)) (ao .u32 d)=cZ U a (bV (i+1) _);rw[s1,ei,xM,(S:d%4294967296=(4294967296+Y U (a+i) 0-p%4294967296-b)%4294967296),E]
  .have bZ:i=n+2:=by have h:¬(i:Z)<(G v:Z):=aL h;omega
   subst bZ;have vY:Y v (n+2) 0=0:=by simp[aF,lG (S:G v<=n+2)]
   rw[vY,dI,zj,gT k.1 k.2,Dz k.1 k.2,zj,na v (n+2+1) S,YF]at s2;rw[vY,dI,zj,gT k.1 k.2,na v (n+2+1) S,YF]at s1;generalize hX:cZ U a (bV (n+2)<|val ((aE a U).take<|n+2)-g*val (y (n+2) v))=X at*;refine aN<|ay<|e J (hp:=ak) ?_;have w3:ao .u64 (ao .u64 (ao .u64 (X.getD (a+(G v:Z).toNat) 0)-c)-b)=(Y U (a+(n+2)) 0-c-b)%18446744073709551616:=by rw[a1,C,qG,qG,qG];omega
   generalize hd:(Y U (a+(n+2)) 0-c-b)%18446744073709551616=d at*;refine dc (st':=⟨[(0,.c<|.W 0 a<|n+3),(1,N al v),(5,D<|G v),(7,cU g),(14,cU d)],[(0,.vec 23 al X)],44,[]⟩) (wk ⟨sR J,sR J,sR J,sR J,sE J ?_,T⟩ ⟨bR J,T⟩) ?_
   .exact bA w3
   refine e J (hp:=ak)<|L<|e J (hp:=ak) ?_;have Rf:X.set (a+(G v:Z).toNat) (ao .u32 d)=cZ U a (bV (n+3)<|u-g*val v):=by rw[a1,show n+3=n+2+1 from J,s1,xM,(S:d%4294967296=(4294967296+Y U (a+(n+2)) 0-c-b)%4294967296),E]
   have xG:d.fdiv (2^(min (ad ((63:I):Z))<|cr .u64))=1-(4294967296+Y U (a+(n+2)) 0-c-b)/4294967296:=by rw[zm d 63 S];omega
   generalize Qw:1-(4294967296+Y U (a+(n+2)) 0-c-b)/4294967296=b' at*;have auS:b'=0\/b'=1:=S;have Q1:=oi u<|val v;have Bd:=fS u (S:val v≠0);have vZ:=gA u hvp;have hpn:=kE<|n+2+1;have h5:=oi (u-g*val v)<|4294967296^(n+2+1);have h6:=fS (u-g*val v) (S:(4294967296:Z)^(n+2+1)≠0);have l:=gA (u-g*val v) hpn;rw[s2]at h5;refine z J (λB=>?_)<|λB=>?_
   .have B:b'=0:=by have B:d.fdiv (2^(min (ad ((63:I):Z))<|cr .u64))=0:=eq_of_beq B;rw[<-xG];exact B
    have hq:g=u/val v:=by
     rw[B]at h5;simp only[Int.neg_zero,dI,mT]at h5;by_cases bZ:g=u/val v
     .exact bZ
     .exfalso;have e2:g=u/val v+1:=S;have Q2:g*val v=val v*(u/val v)+val v:=by rw[e2,nb,j7,ew]
      omega
    have e1:u-g*val v=u%val v:=by have:=ew (u/val v)<|val v;rw[hq];omega
    refine e J<|bc ?_;repeat(first|refine bt ?_|refine eH ?_|refine gf ?_)
    refine P2 (st':=⟨[(4,cW<|u/val v)],[(0,.vec 23 al<|cZ U a<|bV (n+3)<|u%val v)],60,[]⟩) (wk ⟨sE J ?_,T⟩ ⟨bE J ?_,T⟩)<|s7 a6 J (a7.refl _) J
    .refine Da ?_;rw[wrap_u32 _ S S];exact hq
    .rw[Rf,e1]
   .have B:b'=1:=by have B:¬d.fdiv (2^(min (ad ((63:I):Z))<|cr .u64))=0:=fT B;rw[xG]at B;omega
    have hq:g=u/val v+1:=by
     rw[B]at h5;rw[Int.mul_neg,lA]at h5;by_cases bZ:g=u/val v
     .exfalso;have:g*val v=val v*(u/val v):=by rw[bZ,ew]
      omega
     .omega
    have Q2:g*val v=val v*(u/val v)+val v:=by rw[hq,nb,j7,ew]
    refine ai ?_;refine dc (st':=⟨[(0,.c<|.W 0 a<|n+3),(1,N al v),(5,D<|G v),(7,cU g)],[(0,.vec 23 al<|cZ U a<|bV (n+3)<|u-g*val v)],50,[]⟩) (wk (aS J) ⟨bE J ?_,T⟩) ?_
    .rw[Rf]
    have DI:∀x,G (bV (n+3) x)=n+3:=λx=>s' _ _
    have hU1:bM (cZ U a<|bV (n+3)<|u-g*val v):=QR hU<|GQ _ _;have auT:G (cZ U a<|bV (n+3)<|u-g*val v)=G U:=xE uK;have G8:cZ (cZ U a<|bV (n+3)<|u-g*val v) a (bV (n+3)<|val (y (n+3)<|aE a<|cZ U a<|bV (n+3)<|u-g*val v)+val v)=cZ U a (bV (n+3)<|u%val v):=by rw[Yt uK (by rw[DI,DI]),QT uK,yM uK,iI uK,GR];refine aC (cZ U a)<|K0 _ _ _ ?_;rw[Int.emod_add_emod];congr 1;omega
    generalize cZ U a (bV (n+3)<|u-g*val v)=m at*;clear Rf xG Qw s1 s2 E C hX;refine e J<|L<|e J ?_;refine vL<|aK (α:=I×Z) (λx=>⟨[(0,.c<|.W 0 a<|n+3),(1,N al v),(5,D<|G v),(7,cU g),(9,cU x.2),(135,D<|G v),(136,D x.1)],[(0,.vec 23 al<|cZ m a<|bV x.1<|val ((aE a m).take x.1)+val (y x.1 v))],60,[]⟩) (λx=>x.1<=n+2/\(val ((aE a m).take x.1)+val (y x.1 v))/4294967296^x.1=x.2/\(x.2=0\/x.2=1)) (λx=>n+2-x.1) (0,0) ⟨aW _,xy,.inl J⟩ (wk (aS J) ⟨bE J ?_,T⟩) ?_
    .exact aC (aH.vec 23 al) (K1 m a).symm
    rintro⟨i,c⟩ ⟨F,h2,h4⟩;simp only at F h2 h4;have gu:=dp hU1<|a+i;have P:=Ym m v a i (c:=c) J h2;simp only at P;let ⟨s1,s2⟩:=P;have Q:G (bV i<|val ((aE a m).take i)+val (y i v))=i:=s' _ _;have K9:=xE (U:=m) (j:=a) (ws:=bV i<|val ((aE a m).take i)+val (y i v)) S;have C:=K2 (U:=m) (j:=a) (ws:=bV i<|val ((aE a m).take i)+val (y i v)) S;have E:=λw=>K3 (U:=m) (j:=a) (ws:=bV i<|val ((aE a m).take i)+val (y i v)) w S
    rw[Q]at C E;refine e J<|L ?_;refine z J (λh=>?_)<|λh=>?_
    .have h:i<n+2:=by have h:(i:Z)<(G v:Z):=az h;omega
     have gv:=dp hv i;generalize hX:cZ m a (bV i<|val ((aE a m).take i)+val (y i v))=X at*;have ei:ad (i:Z)=i:=aV i;refine ai<|L<|vL<|e J<|e J (hp:=ak) ?_;have O:ao .u64 (ao .u64 (ao .u64 (X.getD (a+ad (i:Z)) 0)+ao .u64 (Y v (ad (i:Z)) 0))+c)=Y m (a+i) 0+Y v i 0+c:=by rw[ei,C,wrap_u64 (Y m (a+i) 0) S S,wrap_u64 (Y v i 0) S S,wrap_u64 (_+Y v i 0) S S,wrap_u64 _ S S]
     generalize ht:Y m (a+i) 0+Y v i 0+c=V at*;have H:0<=V/\V<8589934592:=S;refine dc (st':=⟨[(0,.c<|.W 0 a<|n+3),(1,N al v),(5,D<|G v),(7,cU g),(15,D i),(16,cU V),(135,D<|G v),(136,D i)],[(0,.vec 23 al X)],70,[]⟩) (wk ⟨sR J,sR J,sR J,sR J,sR J,sE J ?_,sR J,sR J,T⟩ ⟨bR J,T⟩) ?_
     .exact bA O
     refine e J (hp:=ak)<|rt J (hp:=ak)<|aT<|rt J<|aA (i+1,V/4294967296) ⟨(S:i+1<=n+2),s2,(S:V/4294967296=0\/V/4294967296=1)⟩ (S:n+2-(i+1)<n+2-i)<|wk ⟨sR J,sR J,sR J,sR J,sE J ?_,sR J,sR J,T⟩ ⟨bE J ?_,T⟩
     .exact bA<|zm V 32 S
     .refine aC (aH.vec 23 al) ?_;show X.set (a+ad (i:Z)) (ao .u32 V)=cZ m a (bV (i+1) _);rw[s1,ei,xM,E]
    .have bZ:i=n+2:=by have h:¬(i:Z)<(G v:Z):=aL h;omega
     subst bZ;rw[vY,mT,na v (n+2+1) S]at s1;generalize hX:cZ m a (bV (n+2)<|val ((aE a m).take<|n+2)+val (y (n+2) v))=X at*;refine aN<|ay<|e J (hp:=ak)<|e J<|bc ?_;refine P2 (st':=⟨[(4,cW<|u/val v)],[(0,.vec 23 al<|cZ U a<|bV (n+3)<|u%val v)],90,[]⟩) (wk ⟨sE J ?_,T⟩ ⟨bE J ?_,T⟩)<|s7 a6 J (a7.refl _) J
     .refine Da ?_;rw[qG,xM];omega
     .refine aC (aH.vec 23 al) ?_;rw[<-G8,show n+3=n+2+1 from J,s1,a1,C,xM,xM,(S:(Y m (a+(n+2)) 0+c%4294967296)%4294967296=(Y m (a+(n+2)) 0+c)%4294967296),E]
 .refine bA ?_;show ao .u64 (t.tdiv<|ao .u64<|Y v (ad<|(G v:Z)-1) 0)=t/v1;have:=KT v1 H;rw[x1,DA H,wrap_u64 _ Re S]
 .refine bA ?_;show(t.tmod<|ao .u64<|Y v (ad<|(G v:Z)-1) 0)=t%v1;rw[x1,GP H]
 .rintro⟨f,q,r⟩ ⟨F,h2,h3,h4,h5,h6⟩;simp only at F h2 h3 h4 h5 h6;have hqs:=Bg h2 h3;cases f with
  |zero=>omega
  |succ f=>
  rw[rK]at F;have vZ:0<=q*v2/\q*v2<18446744073709551616:=by refine⟨jm S S,?_⟩;have:q*v2<=4294967297*4294967295:=wQ S S S A;omega
  refine L<|rb<|rg 50 J J (λh=>?_)<|λh=>?_
  .have YH:q>=4294967296:=by simpa using h
   have k:q>=4294967296\/q*v2>r*4294967296+u2:= .inl YH;refine o J (z J (λ_=>?_)<|λl=>by cases l);have iD:u/val v<q:=by
    rcases k with k|k
    .have:=K.CB;omega
    .exact K.down h2 S k
   have O:ao .u64 (q-1)=q-1:=wrap_u64 _ S S;have w2:ao .u64 (r+ao .u64 (Y v (ad<|(G v:Z)-1) 0))=r+v1:=by rw[x1,wrap_u64 _ S S]
   refine ai<|vL<|e J<|e J (hp:=ak)<|e J<|z J (λl=>?_)<|λl=>?_
   .have l:r+v1>=4294967296:=by have l:ao .u64 (r+ao .u64 (Y v (ad<|(G v:Z)-1) 0))>=4294967296:=az l;omega
    rw[s k,s l]at F;refine jS<|Gc<|kF<|jT<|fH te<|wk ⟨sR J,sR J,sR J,sE J ?_,T⟩ ⟨bR J,T⟩;refine bA ?_;rw[<-F];exact O
   .have l:¬r+v1>=4294967296:=by have l:¬ao .u64 (r+ao .u64 (Y v (ad<|(G v:Z)-1) 0))>=4294967296:=aL l;omega
    rw[s k,M l]at F;refine bN<|dy<|aA (f,q-1,r+v1) ⟨F,KU,KV,KW,KX,KY⟩ (di f)<|wk ⟨sR J,sR J,sR J,sR J,sE J ?_,sE J ?_,T⟩ ⟨bR J,T⟩
    .exact bA O
    .exact bA w2
  .have YH:¬q>=4294967296:=by have:q<4294967296:=du;omega
   have w3:ao .u64 (q*ao .u64 (Y v (ad<|(G v:Z)-2) 0))=q*v2:=by rw[x2,wrap_u64 _ vZ.1 vZ.2]
   have w4:ao .u64 ((iq (cr .u64) (ao .u64<|r*2^(min (ad ((32:I):Z))<|cr .u64))|||iq (cr .u64) (ao .u64<|Y U (a+ad ((G v:Z)-2)) 0)).toNat:Z)=r*4294967296+u2:=by rw[x3,zk r 32 h3 S S,Bf _ _ 32 S (DP _ _) S S S,show(2:Z)^32=4294967296 from J]
   refine o J (hp:=ak)<|z J (λB=>?_)<|λB=>?_
   .have k:q>=4294967296\/q*v2>r*4294967296+u2:= .inr (by have B:ao .u64 (q*ao .u64 (Y v (ad<|(G v:Z)-2) 0))>ao .u64 ((iq (cr .u64) (ao .u64<|r*2^(min (ad ((32:I):Z))<|cr .u64))|||iq (cr .u64) (ao .u64<|Y U (a+ad ((G v:Z)-2)) 0)).toNat:Z):=az B;rw[w3,w4]at B;exact B);have iD:u/val v<q:=by
     rcases k with k|k
     .have:=K.CB;omega
     .exact K.down h2 S k
    have O:ao .u64 (q-1)=q-1:=wrap_u64 _ S S;have w2:ao .u64 (r+ao .u64 (Y v (ad<|(G v:Z)-1) 0))=r+v1:=by rw[x1,wrap_u64 _ S S]
    refine ai<|vL<|e J<|e J (hp:=ak)<|e J<|z J (λl=>?_)<|λl=>?_
    .have l:r+v1>=4294967296:=by have l:ao .u64 (r+ao .u64 (Y v (ad<|(G v:Z)-1) 0))>=4294967296:=az l;omega
     rw[s k,s l]at F;refine jS<|Gc<|kF<|jT<|fH te<|wk ⟨sR J,sR J,sR J,sE J ?_,T⟩ ⟨bR J,T⟩;refine bA ?_;rw[<-F];exact O
    .have l:¬r+v1>=4294967296:=by have l:¬ao .u64 (r+ao .u64 (Y v (ad<|(G v:Z)-1) 0))>=4294967296:=aL l;omega
     rw[s k,M l]at F;refine bN<|dy<|aA (f,q-1,r+v1) ⟨F,KU,KV,KW,KX,KY⟩ (di f)<|wk ⟨sR J,sR J,sR J,sR J,sE J ?_,sE J ?_,T⟩ ⟨bR J,T⟩
     .exact bA O
     .exact bA w2
   .have k:¬(q>=4294967296\/q*v2>r*4294967296+u2):=by have B:¬ao .u64 (q*ao .u64 (Y v (ad<|(G v:Z)-2) 0))>ao .u64 ((iq (cr .u64) (ao .u64<|r*2^(min (ad ((32:I):Z))<|cr .u64))|||iq (cr .u64) (ao .u64<|Y U (a+ad ((G v:Z)-2)) 0)).toNat:Z):=aL B;rw[w3,w4]at B;omega
    rw[M k]at F;subst F;exact aN<|fH te aM
def xO m:af j 234 [N al (aj m)] (N al<|aj m):=by have h:=vU<|aj m;rwa[Pp]at h
def aj9{k n}(F:G (aj k)=n+2){x a:I}(ex:(x:Z)=Y (aj k) (n+1) 0)(H:2147483648<=x*2^a)(d:x*2^a<4294967296)(P:a<=31):
  ((k*2^a:I):Z)<4294967296^(n+2)/\G (aj<|k*2^a)=n+2/\2147483648<=Y (aj<|k*2^a) (n+1) 0:=by
 have i:0<2^a:=lN A
 have l:(x+1)*2^a<=4294967296:=by
  have e:4294967296=2^(32-a)*2^a:=by rw[<-om,(S:32-a+a=32)]
  have:x<2^(32-a):=by rw[e]at d;exact Nat.lt_of_mul_lt_mul_right d
  rw[e];exact eB _ this
 generalize p:2^a=D at*
 have f:=lH (aj k)<|n+1
 rw[na _ _ (S:G (aj k)<=n+1+1),eN,<-ex]at f
 have r:=nC<|j5 (eh k)<|n+1
 rw[(bP:G (y (n+1)<|aj k)=n+1)]at r
 have K:=mN<|j5 (eh k)<|n+1
 have Q:=kE<|n+1
 generalize val (y (n+1)<|aj k)=v at*
 have b:((x:Z)+1)*(D:Z)<=4294967296:=by have:(((x+1)*D:I):Z)<=((4294967296:I):Z):=S;rw[fF,uG]at this;exact this
 have g:((k*D:I):Z)<4294967296^(n+2):=by
  rw[fF,pC,f];have R:(v+(x:Z)*4294967296^(n+1))*D<(((x:Z)+1)*4294967296^(n+1))*D:=GV (by rw[nb,j7];omega) S;have U:((x:Z)+1)*4294967296^(n+1)*D=4294967296^(n+1)*(((x:Z)+1)*D):=by generalize (4294967296:Z)^(n+1)=B;grind
  have W:4294967296^(n+1)*(((x:Z)+1)*D)<=4294967296^(n+1)*4294967296:=ja b S;omega
 have C:G (aj<|k*D)=n+2:=by have X:G (aj<|k*D)<=n+2:=Ak g;have h:=rJ (m:=k) (k:=k*D)<|Bb _ i;omega
 refine⟨g,C,?_⟩
 have c:=lH (aj<|k*D)<|n+1
 rw[na _ _ (S:G (aj<|k*D)<=n+1+1),eN]at c
 have E:=nC<|j5 (eh<|k*D)<|n+1
 rw[(bP:G (y (n+1)<|aj<|k*D)=n+1)]at E
 generalize Y (aj<|k*D) (n+1) 0=c1 at*
 generalize val (y (n+1)<|aj<|k*D)=j at*
 by_cases e:2147483648<=c1
 .exact e
 .exfalso;have o:(c1+1)*4294967296^(n+1)<=(x:Z)*D*4294967296^(n+1):=iU S S;have q:(x:Z)*4294967296^(n+1)*D<=(k:Z)*D:=iU S S;have t:(x:Z)*4294967296^(n+1)*D=(x:Z)*D*4294967296^(n+1):=by generalize (4294967296:Z)^(n+1)=B;grind
  have u:(c1+1)*4294967296^(n+1)=c1*4294967296^(n+1)+4294967296^(n+1):=Fz;rw[fF]at c;omega
def aj' m k n(d:G (aj k)=n+2)(wR:k<=m)(lm:G (aj m)<=1099511627776):af j 235 [N al (aj m),N al<|aj k] (.t [(ah,[.S al (aj<|m/k)]),(ah,[.S al (aj<|m%k)])]):=by
 refine aD YI ?_;have Rg:=dp (eh k)<|n+1;have hb0:Y (aj k) (n+1) 0≠0:=by
  rcases ud k with f|f
  .rw[f]at d;simp at d
  .rw[d]at f;exact f
 obtain⟨x,ex⟩:∃x:I,(x:Z)=Y (aj k) (n+1) 0:=⟨ad<|Y (aj k) (n+1) 0,Bc Rg.1⟩;let ⟨s,hlz,K,x1,x2⟩:=ajQ x S S;let ⟨f5,f6,f7⟩:=aj9 d ex x1 x2 K;have hD:0<2^s:=lN A;have hD2:2^s<=2^31:=fG A K;have E:(2:Z)^s=((2^s:I):Z):=ax;have s5:0<k:=by
  rcases qF k with f|f
  .subst f;rw[Cz]at d;simp at d
  .exact f
 have GW:n+2<=G (aj m):=by rw[<-d];exact rJ wR
 obtain⟨a,hM⟩:∃a,G (aj m)=a+(n+2):=⟨G (aj m)-(n+2),S⟩;have QX:((m*2^s:I):Z)<4294967296^(a+(n+2)+1):=by have H:=uf (n:=m);rw[hM]at H;rw[pC,fF];have:=kE<|a+(n+2);have h2:(m:Z)*((2^s:I):Z)<=(m:Z)*4294967296:=ja S S;omega
 have P:¬cX (m:Z) (k:Z)<0:=by unfold cX;rw[M S];split<;>decide
 have R:=YC (aj m) s (eh m) K lm;have W:=(YC (aj k) s (eh k) K S).fs;have hlk:=uf (n:=k);rw[d]at hlk;rw[eN,d,E,<-fF]at W;rw[eN,E,<-fF,hM]at R;have hVt:y (n+2) (bV (n+2+1) ((k*2^s:I):Z))=aj (k*2^s):=by have:=Yj<|eh<|k*2^s;rw[f6,eN]at this;rw[DB,List.take_left'<|s' _ _,this]
 refine e J<|t<|rc J J (xO m)<|rc J J (xO k)<|o J ?_;refine L<|aO J J (DQ m k) J<|z J (λh=>absurd (az h) P)<|λ_=>ai ?_;refine L<|e J<|z J (λh=>?_)<|λ_=>ai ?_
 .exfalso;have h:(G (aj k):Z)=1:=eq_of_beq h;omega
 have a2:ad ((G (aj k):Z)-1)=n+1:=S;have u:af j 274 [cW (Y (aj k) (ad<|(G (aj k):Z)-1) 0)] (D s):=by rw[a2,<-ex];exact hlz
 refine e J<|t<|rc J J u<|o J (hp:=ak) ?_;refine t<|uE J J R<|o J ?_;refine t<|rc J J W<|o J (hp:=by simp only[Pr.an,Pr.h,num,eO,true_and,and_true];rw[s'];omega) ?_;refine t<|rm al (a+1) J J J J J J (kH .u32) S ?_ ?_<|o J ?_
 .show _*4<=_;omega
 .show _*1<=_;omega
 generalize F:bV (a+(n+2)+1) ((m*2^s:I):Z)=l;have v:val l=((m*2^s:I):Z):=by rw[<-F,GR,gT S QX]
 have B:bM l:=by rw[<-F];exact GQ _ _
 have w:G l=a+(n+2)+1:=by rw[<-F,s']
 have vY:(0:Z)<((k*2^s:I):Z):=by have:0<k*2^s:=xF s5 hD;omega
 have GX:uJ ((m*2^s:I):Z) ((k*2^s:I):Z) (n+2) a (a+1,l,bh (a+1) 0):=by
  refine⟨a8 _,w,B,?_,ax,rh _,λi hi=>?_,?_⟩
  .show val (aE (a+1) l)<_;have H:=zf l (a+1) S;have h2:=mN<|j5 B<|a+1;have hp:=kE<|a+1;by_cases f:val (aE (a+1) l)<((k*2^s:I):Z)
   .exact f
   .exfalso;have h3:4294967296^(a+1)*((k*2^s:I):Z)<=4294967296^(a+1)*val (aE (a+1) l):=ja S S;have h4:=JH (eh k) (ud k) (by intro f;rw[f]at d;simp at d);rw[eN,d,(S:n+2-1=n+1)]at h4;have h5:=uf (n:=m);rw[hM,(S:a+(n+2)=a+1+(n+1)),Int.pow_add]at h5;have h6:4294967296^(a+1)*4294967296^(n+1)*((2^s:I):Z)<=4294967296^(a+1)*((k*2^s:I):Z):=by rw[fF,jb];exact ja (iU h4 S) S
    have h7:(m:Z)*((2^s:I):Z)<4294967296^(a+1)*4294967296^(n+1)*((2^s:I):Z):=GV h5 S;rw[v,fF m]at H;omega
  .show Y (bh (a+1) (0:Z)) i 0=0;rw[aF,j9];split<;>rfl
  .show _=val l+_*val (bh (a+1) 0);rw[JG,v];omega
 refine L<|e J ?_;refine q<|aK (α:=I×V Z×V Z) (λx=>⟨[(8,D ((n+2:I):Z)),(9,D s),(10,.c<|.X 6002000),(11,N al<|aj<|k*2^s),(12,.c<|.X 8005000),(13,D<|(x.1:Z)-1)],[(6002000,.vec 23 al x.2.1),(8005000,.vec 23 al x.2.2)],10,[]⟩) (uJ ((m*2^s:I):Z) ((k*2^s:I):Z) (n+2) a) (λx=>x.1) (a+1,l,bh (a+1) 0) GX (wk ⟨sE J ?_,sR J,sR J,sE J ?_,sR J,sE J ?_,T⟩<|jv J) ?_
 .exact gh S
 .refine aC (λg6=>AV.c<|C.S al g6) ?_;rw[<-hVt];simp only[d,aV,rI]
 .exact gh S
 rintro⟨c,U,Q⟩ p;have xq:G U=a+(n+2)+1:=p.ul;have r:bM U:=p.ur;have DH:G Q=a+1:=p.ql;have hck:c<=a+1:=p.k;refine L<|e J ?_;refine z J (λh=>?_)<|λh=>?_
 .have h:(c:Z)-1>=0:=az h;obtain⟨b,rfl⟩:∃b,c=b+1:=⟨c-1,S⟩;have ej:((b+1:I):Z)-1=(b:Z):=S;rw[ej];have g:=p.next vY f5;let ⟨_,O⟩:=p.QW f5;have YJ:=ajY U (aj<|k*2^s) b n r (eh _) f6 S S f7 (by rw[eN];exact O);rw[eN]at YJ;rw[show n+2+1=n+3 from J]at g O;have hu0:=mN<|j5 (yz r b)<|n+3;refine ai<|L<|q ?_;refine bs<|X' b (b+(n+3)) J J J J J J S S (S:b+(n+3)<=G U) ?_;rw[(S:b+(n+3)-b=n+3)];refine nJ 6002000 J YJ J J<|o J ?_;refine aT<|rt J<|aA (b,cZ U b<|bV (n+3)<|val ((aE b U).take<|n+3)%((k*2^s:I):Z),Q.set b<|val ((aE b U).take<|n+3)/((k*2^s:I):Z)) g (di b)<|wk (aS J) ⟨bR J,bE J ?_,T⟩;refine aC (aH.vec 23 al) ?_;show Q.set (ad (b:Z)) _=Q.set b _;rw[aV]
 .have h:¬(c:Z)-1>=0:=aL h;have hc:c=0:=S;subst hc;let ⟨e1,e2⟩:=p.fin;have q1:au Q=aj (m/k):=by
   rw[pn p.qr];show aj (ad<|val Q)=_;rw[e1];have:((m*2^s:I):Z)/((k*2^s:I):Z)=((m/k:I):Z):=by rw[<-vX,Nat.mul_div_mul_right _ _ hD]
   rw[this,aV]
  have hub:val U<((k*2^s:I):Z):=p.ub;have hut:val (y (n+2) U)=val U:=by have H:=zf U (n+2) S;rw[Yr r (n+2) S S,dI,mT]at H;exact H.symm
  have xG:=ajV (y (n+2) U) s (j5 r _) K v7;have q2:aj (ad<|val (y (n+2) U)/2^s)=aj (m%k):=by
   rw[hut,e2,E];have:((m*2^s:I):Z)%((k*2^s:I):Z)/((2^s:I):Z)=((m%k:I):Z):=by rw[<-DJ,Nat.mul_mod_mul_right,<-vX,Q3 _ hD]
   rw[this,aV]
  rw[q2]at xG;have ht:=vU Q;rw[q1]at ht;refine aN<|ay<|cD 6002000 J J J<|cD 8005000 J J J ?_;refine t<|rc J J ht<|rc J J xG (hp:=ak)<|o J<|bq J ?_;rfl
def YK m k(i:k≠0)(f:G (aj m)<=1099511627776):af j 235 [N al (aj m),N al<|aj k] (.t [(ah,[.S al (aj<|m/k)]),(ah,[.S al (aj<|m%k)])]):=by
 by_cases a:m<k
 .refine aD YI ?_;refine e J<|t<|rc J J (xO m)<|rc J J (xO k)<|o J ?_;refine L (aO J J (DQ m k) J<|z J (λ_=>?_)<|λh=>?_)
  .refine aO J J (Li (aj m) f) J<|bc<|bt<|g8 a6 J ?_;rw[A6 a,nK a];exact a7.t2<|a7.nil al
  .exfalso;have h:¬cX (m:Z) (k:Z)<0:=aL h;unfold cX at h;rw[s S]at h;omega
 .by_cases b:k<4294967296
  .refine aD YI ?_;have x:aj k=[(k:Z)]:=by rw[wP i,A6 b,Cz,nK b]
   have d:¬cX (m:Z) (k:Z)<0:=by unfold cX;rw[M S];split<;>decide
   have l:=ajR (aj m) (k:Z) (eh m) S S f;rw[eN,<-vX,<-DJ,aV]at l;have p:=DQ m k;have r:=xO k;rw[x]at p r⊢;refine e J<|t<|rc J J (xO m)<|rc J J r<|o J ?_;refine L<|aO J J p J<|z J (λh=>absurd (az h) d)<|λ_=>ai ?_;have g:af j 273 [N al (aj m),.c (num .u64 (k:Z)).1] (.t [(ah,[.S al (aj<|m/k)]),(ah,[.I .u64 ((m%k:I):Z)])]):=by rw[show(AV.c (num .u64 (k:Z)).1)=cU (k:Z)from bA<|wrap_u64 _ S S];exact l
   have v:=fg m<|oj i;refine L<|e J<|z J (λ_=>?_)<|λh=>bS;refine aO J J g J ?_;refine aO J J (Lg (m%k) S) J<|bc<|bt<|atR J
  .have E:2<=G (aj k):=by
    by_cases B:2<=G (aj k)
    .exact B
    .exfalso;have F:=uf (n:=k);have C:=ug (m:=G<|aj k) (n:=1) S;rw[Be]at C;omega
   exact aj' m k (G (aj k)-2) S S f
def v8 a b(n:b≠0)(m:Sm a)(i:Sm b):af j 162 [aZ a,aZ b] (.t [(ae,av .z<|a/b),(ae,av .z<|a%b),(ah,[.I .i64 0])]):=by
 refine aD Tryz.func162 ?_;have c:aq b≠0:=S;refine e J<|L<|aO J J (xO<|aq b) J ?_;refine z J (λk=>?_)<|λk=>?_
 .exfalso;have k:(G (aj<|aq b):Z)=0:=eq_of_beq k;have:=mU.2 c;omega
 .refine ai<|aO J J (YK _ _ c m) J<|L<|t ?_;refine rg 26 J J (λh3=>?_) (λh3=>?_)
  .have h3:a<0:=by simpa[bK]using h3
   refine o J<|z J (λh4=>?_)<|λh4=>?_
   .have h4:aq a%aq b≠0:=by have h4:(G (aj<|aq a%aq b):Z)>0:=xB;exact mU.1 S
    let ⟨e1,d⟩:=QN (oj c) h3 h4;have hz:bK a=ae:=xC;let ⟨f,g⟩:=xA a b (aq a/aq b+1) (aq b-aq a%aq b) xD d;have p:aq a%aq b<aq b:=fg _<|oj c;refine t<|rl al [_] J J (rc J J (Yx (aq a/aq b) 1 ?_ A)<|o J<|bs<|rc J J (Rc (aq b) _ S i)<|o J<|ay<|t ?_)
    .exact cQ (rJ<|A8 _ _) m
    refine rc J J (oS _ _)<|rc J J (oS _ _)<|o J<|bq J ?_;rw[f,g];rfl
   .have h4:aq a%aq b=0:=by have h4:¬(G (aj<|aq a%aq b):Z)>0:=xB;exact Decidable.byContradiction λl=>by have:=mU.2 l;omega
    let ⟨e1,d⟩:=QM (oj c) h3 h4;have hz:bK a=ae:=xC;let ⟨f,g⟩:=xA a b (aq a/aq b) (aq a%aq b) xD (by rw[d,h4];rfl);refine ai<|t<|rc J J (oS _ _)<|rc J J (oS _ _)<|o J<|bq J ?_;rw[f,g];rfl
  .have h3:¬a<0:=by simpa[bK]using h3
   refine o J<|z J (λh4=>by simp at h4)<|λh4=>?_;let ⟨e1,d⟩:=QK (oj c) h3;have hz:bK a=ah:=xC;let ⟨f,g⟩:=xA a b (aq a/aq b) (aq a%aq b) xD d;refine ai<|t<|rc J J (oS _ _)<|rc J J (oS _ _)<|o J<|bq J ?_;rw[f,g];rfl
def Rh m(k:m<18446744073709551616):af j 255 [N al (aj m)] (cU m):=by
 refine aD Tryz.func255 ?_;have n:=xx k;refine e J<|e J<|L<|e J ?_;refine q<|aK (α:=I) (λi=>⟨[(0,N al<|aj m),(3,cU<|val<|y i<|aj m),(6,D<|G<|aj m),(7,D i)],[],4,[]⟩) (λi=>i<=G (aj m)) (λi=>G (aj m)-i) 0 (aW _) aM ?_;intro i p;have g:=dp (eh m) i;have b:=lH (aj m) i;have f:=nC<|j5 (eh m) i;have l:=mN<|j5 (eh m) i;refine e J<|L ?_;refine z J (λh=>?_)<|λh=>?_
 .have h:i<G (aj m):=by have h:(i:Z)<(G (aj m):Z):=az h;omega
  have c:G (y i<|aj m)=i:=bP;rw[c]at f;refine ai<|L<|q<|e J<|rt J (hp:=ak)<|aT<|rt J<|aA (i+1) h (S:G (aj m)-(i+1)<G (aj m)-i)<|wk ⟨sR J,sE J ?_,sR J,sR J,T⟩ T;refine bA ?_;have a:i=0\/i=1:=S;rcases a with d|d
  .subst d;show ao .u64 ((iq (cr .u64) (val<|y 0<|aj m)|||iq (cr .u64) (ao .u64<|ao .u64 (Y (aj m) 0 0)*2^(min (ad<|((0:I):Z))<|cr .u64))).toNat:Z)=val (y (0+1)<|aj m);rw[b,wrap_u64 (Y (aj m) 0 0) S S,zk _ 0 g.1 S S];have:=Bf (Y (aj m) 0 0*2^0) 0 0 S (by simp[Int.emod_one]) A A S;rw[Bh];simp only[val];rw[BitVec.or_comm,this];simp
  .subst d;show ao .u64 ((iq (cr .u64) (val<|y 1<|aj m)|||iq (cr .u64) (ao .u64<|ao .u64 (Y (aj m) 1 0)*2^(min (ad<|((32:I):Z))<|cr .u64))).toNat:Z)=val (y (1+1)<|aj m);rw[Be]at f b;rw[b,wrap_u64 (Y (aj m) 1 0) S S,zk _ 32 g.1 S S];have:=Bf (Y (aj m) 1 0*2^32) (val<|y 1<|aj m) 32 S (DP _ _) l S S;rw[BitVec.or_comm,this,show(2:Z)^32=4294967296 from J];omega
 .have h:i=G (aj m):=by have h:¬(i:Z)<(G (aj m):Z):=aL h;omega
  subst h;refine aN<|ay<|e J<|bq J<|bA ?_;rw[eE,eN]
def ake a(g:0<=a)(i:a<9223372036854775808):af j 232 [aZ a] (.t [(ah,[.I .i64 a]),(ah,[.B ae])]):=by
 refine aD Tryz.func232 ?_;have b:aq a<18446744073709551616:=S;have k:=xx b;have c:bK a=ah:=by simp[bK];omega
 refine e J<|L<|e J<|z J (λh=>?_)<|λ_=>ai ?_
 .exfalso;have h:(G (aj<|aq a):Z)>2:=az h;omega
 refine aO J J (Rh (aq a) b) J ?_;refine L<|e J<|z J (λh=>?_)<|λ_=>ai ?_
 .rw[c]at h;cases h
 refine L<|e J<|z J (λh=>?_)<|λ_=>ai ?_
 .exfalso;have d:decide (((aq a:I):Z)>=9223372036854775808)=ah:=iX S;rw[d]at h;cases h
 have f: -9223372036854775808<=((aq a:I):Z)/\((aq a:I):Z)<=9223372036854775807:=S;refine e J (hp:=f)<|bq J ?_;exact aC (λx=>AV.t [(ah,[C.I .i64 x]),(ah,[C.B ae])]) S
def YL a(d:Sm a):af j 157 [aZ a] (cB ae):=by
 refine aD Tryz.func157 ?_;have f:G (aj<|aq a)<=1099511627776:=d;have b:G (de a)<=1099511627776:=d;refine e J<|e J<|L<|e J<|z J (λh=>?_)<|λh=>ai ?_
 .have h:(G (aj<|aq a):Z)=0:=eq_of_beq h;have i:a=0:=by have:¬0<G (aj<|aq a):=S;rw[mU]at this;omega
  subst i;exact e J<|bc<|bt<|atR J
 .have h:(G (aj<|aq a):Z)≠0:=fT h;have g:0<G (de a):=by show 0<G (aj<|aq a);omega
  refine e J (hp:=ak)<|bq J ?_;have k:=ud<|aq a;refine aC cB ?_;rcases k with c|c
  .rw[c]at h;simp at h
  .show(Y (aj<|aq a) (ad<|(G (aj<|aq a):Z)-1) 0 !=0)=ae;rw[(S:ad ((G (aj<|aq a):Z)-1)=G (aj<|aq a)-1)];simpa using c
def jV(a:V Z):I->I
 |0=>0
 |i+1=>jV a i+aq (Y a i 0)
def cO(a:V Z):I:=jV a (G a)*2^(G a-1)
def akf{a}(b:cq a<0):a<0:=by unfold cq at b;split at b<;>first|assumption| (split at b<;>omega)
def akg{a}(b:a<0):cq a= -1:=by unfold cq;simp[b]
def rN:I->I->I->I->I->I
 |0,r,_,_,_=>r
 |f+1,r,a,n,p=>if n=0 then r else rN f (if n%2=1 then r*a%p else r) (a*a%p) (n/2) p
def uM(a n p:I):I:=rN 64 (1%p) (a%p) n p
def eQ(a p:I):I:=uM a (p-2) p
def YM:∀(f r a n p:I),0<p->r<p->rN f r a n p<p
 |0,r,_,_,_,_,b=>b
 |f+1,r,a,n,p,hp,b=>by
  unfold rN;split
  .exact b
  .refine YM f _ _ _ _ hp ?_;split
   .exact fg _ hp
   .exact b
def G9 a n p(b:0<p):uM a n p<p:=YM _ _ _ _ _ b<|fg _ b
def gU(x a:I):(x:Z).tmod (a:Z)=((x%a:I):Z):=by rw[oh S];omega
def zo(x a p:I)(c:x<p)(d:a<p)(b:p<=4294967296):(ao .u64<|(x:Z)*(a:Z)).tmod (p:Z)=((x*a%p:I):Z):=by have h:x*a<18446744073709551616:=jD (Lu c d)<|cQ (ly b b) A;rw[<-fF,wrap_u64 _ S S,gU]
def rO(x:I)(a:x<18446744073709551616):(ao .u64<|(x:Z).tdiv 2)=((x/2:I):Z):=by
 have e:(x:Z).tdiv 2=((x/2:I):Z):=by rw[zb S];omega
 rw[e,wrap_u64 _ S S]
def Ri(a n p:I)(P:a<18446744073709551616)(F:n<18446744073709551616)(c:0<p)(B:p<=4294967296):af j 180 [cU a,cU n,cU p] (cU<|uM a n p):=by
 refine aD Tryz.func180 ?_;refine e J<|L<|e J ?_;refine z J (λh=>?_)<|λh=>?_
 .exfalso;have h:(p:Z)=0:=du;omega
 .have H:(p:Z)≠0:=by omega
  refine ai<|e J<|L<|e J<|q<|aK (α:=I×I×I×I) (λx=>⟨[(0,cU x.2.2.1),(1,cU x.2.2.2),(2,cU p),(7,cU x.2.1)],[],4,[]⟩) (λx=>rN x.1 x.2.1 x.2.2.1 x.2.2.2 p=uM a n p/\x.2.2.2<2^x.1/\x.2.1<p/\x.2.2.1<p/\x.2.2.2<18446744073709551616) (λx=>x.2.2.2) (64,1%p,a%p,n) ⟨J,F,fg _ c,fg _ c,F⟩ (wk ⟨sE J ?_,sR J,sR J,sE J ?_,T⟩ T) ?_
  .exact bA<|gU a p
  .exact bA<|gU 1 p
  .rintro⟨f,r,b,m⟩ ⟨g,hm,C,k,i⟩;simp only at g hm C k i;refine L<|e J ?_;refine z J (λl=>?_) (λl=>?_)
   .have l:(m:Z)>0:=by simpa using l
    cases f with
    |zero=>rw[oo]at hm;omega
    |succ f=>
     have v:m/2<2^f:=by rw[fy]at hm;omega
     rw[rN,M S]at g
     refine ai<|L<|q<|L<|e J ?_
     refine z J (λd=>?_)<|λd=>?_
     .have d:m%2=1:=by have d:=eq_of_beq d;have K:(m:Z).tmod 2=((m%2:I):Z):=gU m 2;have E:(m:Z).tmod 2=1:=d;omega
      rw[s d]at g;refine rt J<|ay<|rt J<|aT<|rt J<|aA (f,r*b%p,b*b%p,m/2) ⟨g,v,fg _ c,fg _ c,Lv⟩ Lw<|wk ⟨sE J ?_,sE J ?_,sR J,sE J ?_,T⟩ T
      .exact bA<|zo b b p k k B
      .exact bA<|rO m i
      .exact bA<|zo r b p C k B
     .have d:¬m%2=1:=by intro K;have Q:(m:Z).tmod 2=((m%2:I):Z):=gU m 2;have E:((m:Z).tmod 2==1)=ah:=d;rw[(S:(m:Z).tmod 2=1)]at E;cases E
      rw[M d]at g;refine ai<|rt J<|aT<|rt J<|aA (f,r,b*b%p,m/2) ⟨g,v,C,fg _ c,Lv⟩ Lw<|wk ⟨sE J ?_,sE J ?_,sR J,sR J,T⟩ T
      .exact bA<|zo b b p k k B
      .exact bA<|rO m i
   .have l:¬(m:Z)>0:=by simpa using l
    have:m=0:=S;subst this;refine aN<|ay<|e J<|bq J ?_;rw[<-g];cases f with
    |zero=>rfl
    |succ f=>rw[rN,s J]
def akh(a p:I)(b:a<18446744073709551616)(k:a%p≠0)(d:2<=p)(f:p<=4294967296):af j 124 [cU a,cU p] (.t [(ah,[.I .u64 (eQ a p)]),(ah,[.I .i64 0])]):=by
 refine aD Tryz.func124 ?_;have g:(p:Z)≠0:=S;refine e J<|L<|t ?_;refine rg 8 J J (λh=>?_)<|λh=>?_
 .exfalso;have h:(p:Z)<2:=du;omega
 .refine o J (z J (λh2=>?_)<|λh2=>?_)
  .exfalso;have h2:(a:Z).tmod (p:Z)=0:=lj;rw[gU]at h2;omega
  .have i:af j 180 [cU a,.c (num .u64<|(p:Z)-2).1,cU p] (cU<|uM a (p-2) p):=by rw[show(AV.c (num .u64<|(p:Z)-2).1)=cU ((p-2:I):Z)from bA<|(wrap_u64 _ S S).trans S];exact Ri a (p-2) p b S S f
   exact ai<|aO J J i J<|bU J
def aP(xs:V Z)(p:Z):AV:= .a [.S u xs,.I .u64 p]
def YN{a}{k}(b:gY a k=gY a (G a))(c:k=0\/Y a (k-1) 0≠0):y k a=au a:=by
 unfold au;rw[<-b];cases k with
 |zero=>rfl
 |succ k=>
  rcases c with c|c
  .omega
  .simp only[eJ]at c;simp only[gY,c,cC]
def DR ws p(f:G ws<=1000000):af j 123 [aP ws p] (aP (au ws) p):=by
 refine aD Tryz.func123 ?_;refine e J<|e J ?_;refine L<|q<|aK (α:=I) (λk=>⟨[(1,.c<|.P 0 0),(2,.c<|.P 1000 0),(3,D k)],[(0,.box 101 0 [.S u ws,.I .u64 p]),(1000,.box 101 0 [.V (.slice none 0 0),.I .u64 0])],2,[]⟩) (λk=>k<=G ws/\gY ws k=gY ws (G ws)) (λk=>k) (G ws) ⟨a8 _,J⟩ (wk (aS J) ⟨bE J J,bE J J,T⟩) ?_;rintro k ⟨g,a⟩;refine L<|t ?_;refine rg 9 J J (λh=>?_)<|λh=>?_
 .simp at h;refine o J (z J (λh2=>?_)<|λh2=>?_)
  .refine ai (q<|rt J<|dy<|aA (k-1) ⟨S,?_⟩ (S:k-1<k)<|wk ⟨sR J,sR J,sE J ?_,T⟩ ⟨bE J J,bE J J,T⟩)
   .rw[<-a];obtain⟨b,rfl⟩:∃b,k=b+1:=⟨k-1,S⟩;have d:Y ws b 0=0:=by have:ad (((b+1:I):Z)-1)=b:=S;simpa[this]using h2
    simp only[eJ,gY,d,cA]
   .congr 2;omega
  .refine aN<|ay<|e J<|bq J ?_;refine aC (aP · p) ?_;rw[<-YN a (.inr ?_)]
   .simp
   .have:ad ((k:Z)-1)=k-1:=by omega
    simpa[this]using h2
 .simp at h;subst h;refine o J<|z J (λh2=>xt)<|λ_=>?_;refine aN<|ay<|e J<|bq J ?_;exact aC (aP · p)<|YN a<|.inl J
def rp(p:Z)(r:V Z):Prop:=∀i,0<=Y r i 0/\Y r i 0<p
def DS{p}{r}(a:rp p r) i{x}(b:0<=x)(c:x<p):rp p (r.set i x):=by
 intro j;have:=a j;simp only[aF,Dw]at this⊢;split
 .split
  .exact⟨b,c⟩
  .rename_i d f;simp only[Option.getD_none];exact⟨gk _,S⟩
 .exact this
def Lx{p}(a:0<p) n:rp p (bh n 0):=by
 intro j;simp only[aF,j9];split
 .exact⟨gk _,a⟩
 .exact⟨gk _,a⟩
def rP(a b:V Z)(p:Z)(i:I):I->V Z->V Z
 |0,r=>r
 |c+1,r=>(rP a b p i c r).set (i+c)<|(Y (rP a b p i c r) (i+c) 0+Y a i 0*Y b c 0)%p
def nj(a b:V Z)(p:Z):I->V Z
 |0=>bh (G a+G b-1) 0
 |i+1=>rP a b p i (G b)<|nj a b p i
def G'(a b:V Z)(p:Z)(i:I)(r:V Z):∀c,G (rP a b p i c r)=G r
 |0=>rfl
 |c+1=>by rw[rP,fP,G' a b p i r c]
def Ha(a b:V Z)(p:Z):∀i,G (nj a b p i)=G a+G b-1
 |0=>by simp[nj]
 |i+1=>by rw[nj,G',Ha a b p i]
def Ly{a b:V Z}{p:Z}(d:0<p)(i:I){r:V Z}(f:rp p r):∀c,rp p (rP a b p i c r)
 |0=>f
 |c+1=>DS (Ly d i f c) _ (fS _ S)<|gA _ d
def Hb(a b:V Z){p:Z}(c:0<p):∀i,rp p (nj a b p i)
 |0=>Lx c _
 |i+1=>Ly c i (Hb a b c i) _
def bT(a b:V Z)(p:Z):V Z:=if a=[]\/b=[]then[]else au (nj a b p<|G a)
def Rj x a b p(g:0<=x/\x<p)(d:0<=a/\a<p)(c:0<=b/\b<p)(i:p<=2147483648):(ao .u64<|x+ao .u64 (a*b)).tmod p=(x+a*b)%p:=by have f:0<=a*b:=jm d.1 c.1;have k:a*b<=2147483648*2147483648:=wQ S S c.1 S;rw[wrap_u64 (a*b) f S,wrap_u64 _ S S,oh S]
def a7.trans{x a b}(c:a7 x a)(k:a7 a b):a7 x b:=⟨λg v e=>k.1 g v<|c.1 g v e,λd e=>c.2 d<|k.2 d e⟩
def a7.a2{x i k}(d:a7 (.c x) (.c i)):a7 (.a [x,k]) (.a [i,k]):=by
 refine⟨?_,?_⟩
 .rintro g v ⟨vs,rfl,v1,r,rfl,l,f⟩;exact⟨_,J,v1,r,J,d.1 g v1 l,f⟩
 .intro m b;have f:=d.2 m;simp only[AV.ar,cy,iW,b8]at b f⊢;exact b.elim (λd=> .inl<|f d) .inr
def Hc a b p(F:G a<=1000)(H:G b<=1000)(g:0<p)(n:p<=2147483648)(r:rp p a)(v:rp p b):af Tryz.prog 94 [aP a p,aP b p] (aP (bT a b p) p):=by
 refine aD Tryz.func94 ?_;refine e J<|L<|t ?_;have k:a=[]\/b=[]->aP [] p=aP (bT a b p) p:=λh=>by rw[bT,s h]
 refine rg 12 J J (λh=>?_)<|λh=>?_
 .have h:a=[]:=by simpa using h
  refine o J<|z J (λh2=>?_)<|λh2=>xt;exact e J<|bc<|bt<|g8 a6 J<|a7.trans (a7.a2<|a7.nil u)<|a7.of_eq<|k<|.inl h
 .have h:a≠[]:=by simpa using h
  refine o J<|z J (λh2=>?_)<|λh2=>?_
  .have h2:b=[]:=by simpa using h2
   exact e J<|bc<|bt<|g8 a6 J<|a7.trans (a7.a2<|a7.nil u)<|a7.of_eq<|k<|.inr h2
  .have h2:b≠[]:=by simpa using h2
   have K:=bX.2 h;have Q:=bX.2 h2;refine ai<|t ?_;refine rm u (G a+G b-1) J J J J J J (kH .u64) S ?_ ?_ ?_
   .show _*8<=_;omega
   .show _*1<=_;omega
   refine o J<|L<|e J ?_;refine q<|aK (α:=I) (λi=>⟨[(2,.c<|.P 0 0),(3,.c<|.P 1000 0),(4,.c<|.P 2000 0),(5,.c<|.X 2008000),(32,D<|G a),(33,D i)],[(0,.box 101 0 [.S u a,.I .u64 p]),(1000,.box 101 0 [.S u b,.I .u64 p]),(2000,.box 101 0 [.V (.slice none 0 0),.I .u64 0]),(2008000,.vec 25 u<|nj a b p i)],4,[]⟩) (λi=>i<=G a) (λi=>G a-i) 0 (aW _) (wk (aS J) ⟨bE J J,bE J J,bE J J,bE J J,T⟩) ?_;intro i R;have x:=Ha a b p i;refine e J<|L ?_;refine z J (λd=>?_)<|λd=>?_
   .have d:i<G a:=by simpa using d
    refine ai<|L<|q<|e J<|e J ?_;refine q<|aK (α:=I) (λj=>⟨[(2,.c<|.P 0 0),(3,.c<|.P 1000 0),(4,.c<|.P 2000 0),(5,.c<|.X 2008000),(6,D i),(32,D<|G a),(33,D i),(38,D<|G b),(39,D j)],[(0,.box 101 0 [.S u a,.I .u64 p]),(1000,.box 101 0 [.S u b,.I .u64 p]),(2000,.box 101 0 [.V (.slice none 0 0),.I .u64 0]),(2008000,.vec 25 u<|rP a b p i j<|nj a b p i)],7,[]⟩) (λj=>j<=G b) (λj=>G b-j) 0 (aW _) (wk (aS J) ⟨bE J J,bE J J,bE J J,bE J J,T⟩) ?_;intro j U;have B:=G' a b p i (nj a b p i) j;refine e J<|L ?_;refine z J (λf=>?_)<|λf=>?_
    .have f:j<G b:=by simpa using f
     have C:=r i;have E:=v j;have gr:=Ly g (a:=a) (b:=b) i (Hb a b g i) j<|i+j;have m:ad ((i:Z)+(j:Z))=i+j:=S;refine ai<|L<|q<|e J<|rt J ?_ (hp:=iM);refine aT<|rt J<|aA (j+1) f Hd<|wk (aS J) ⟨bE J J,bE J J,bE J J,bE J ?_,T⟩;rw[rP,m,<-Rj _ _ _ p gr C E n];rfl
    .have f:¬j<G b:=by simpa using f
     have l:j=G b:=S;subst l;refine aN<|aT<|rt J<|aA (i+1) d ka<|wk (aS J) ⟨bE J J,bE J J,bE J J,bE J J,T⟩
   .have d:¬i<G a:=by simpa using d
    have l:i=G a:=S;subst l;refine aN<|ay<|cD 2008000 J J J<|aO J J (DR (nj a b p<|G a) p S) J<|bq J ?_;rw[bT,M<|λl=>l.elim h h2];rfl
def aki(x:Z)(a:V Z)(b:G a<=1000000):lK j 181 [N u (x::a)] 25 u (x::a):=by
 refine vT Tryz.func181 J J J J A ?_;refine e J<|L<|t<|rx J J T<|o J ?_;refine z J (λh=>by simp at h)<|λh=>?_;refine ai<|t<|gR u [] J J (ra J J J J J J J J J ?_ ?_<|o J<|bc<|uD (id:=2002000) a6 J J)
 .show(_+(_+1)+(_+(_+1))/4+192)*8<=_;simp only[k6];omega
 .show(_+(_+1))*1<=_;simp only[k6];omega
def tf ws p(a:G ws<=1000000):af j 93 [aP ws p] (D<|(G ws:Z)-1):=by refine aD Tryz.func93 ?_;exact e J<|e J<|bU J
def uN(b:V Z)(p c:Z)(i:I):I->V Z->V Z
 |0,r=>r
 |a+1,r=>(uN b p c i a r).set (i+a)<|(Y (uN b p c i a r) (i+a) 0+(p-c)*Y b a 0)%p
def iY(a b:V Z)(p v:Z)(m n:I):I->V Z×V Z
 |0=>(bh m 0,a)
 |k+1=>((iY a b p v m n k).1.set (m-(k+1))<|(iY a b p v m n k).2.getD (m-(k+1)+n) 0*v%p,uN b p ((iY a b p v m n k).2.getD (m-(k+1)+n) 0*v%p) (m-(k+1)) (G b) (iY a b p v m n k).2)
def Lz(b:V Z)(p c:Z)(i:I)(r:V Z):∀a,G (uN b p c i a r)=G r
 |0=>rfl
 |a+1=>by rw[uN,fP,Lz b p c i r a]
def Rk{b:V Z}{p c:Z}(d:0<p)(i:I){r:V Z}(f:rp p r):∀a,rp p (uN b p c i a r)
 |0=>f
 |a+1=>DS (Rk d i f a) _ (fS _ S)<|gA _ d
def LA(a b:V Z)(p v:Z)(m n:I):∀k,(iY a b p v m n k).1.length=m/\(iY a b p v m n k).2.length=G a
 |0=>by simp[iY]
 |k+1=>by have:=LA a b p v m n k;simp only[iY,fP,Lz];exact this
def Rl{a:V Z}(b:V Z){p:Z}(v:Z)(m n:I)(c:0<p)(d:rp p a):∀k,rp p (iY a b p v m n k).1/\rp p (iY a b p v m n k).2
 |0=>⟨Lx c _,d⟩
 |k+1=>by have f:=Rl b v m n c d k;exact⟨DS f.1 _ (fS _ S)<|gA _ c,Rk c _ f.2 _⟩
def aJ(a b:V Z)(p:Z):V Z×V Z:=
 if G a<=G b-1 then([],a)
 else(λx=>(x.1,au<|y (G b-1) x.2)) (iY a b p (eQ (ad<|Y b (G b-1) 0) (ad p):I) (G a-(G b-1)) (G b-1)<|G a-(G b-1))
def YO x a b p(g:0<=x/\x<p)(d:0<=a/\a<=p)(c:0<=b/\b<p)(i:p<=2147483648):(ao .u64<|x+ao .u64 (a*b)).tmod p=(x+a*b)%p:=by have f:0<=a*b:=jm d.1 c.1;have k:a*b<=2147483648*2147483648:=wQ S S c.1 S;rw[wrap_u64 (a*b) f S,wrap_u64 _ S S,oh S]
def LB a b p(d:0<=a/\a<p)(c:0<=b/\b<p)(g:p<=2147483648):(ao .u64<|a*b).tmod p=a*b%p:=by have f:0<=a*b:=jm d.1 c.1;have i:a*b<=2147483648*2147483648:=wQ S S c.1 S;rw[wrap_u64 (a*b) f S,oh S]
def LC a p(b:0<=a/\a<p)(d:a≠0)(c:2<=p)(f:p<=2147483648):af j 124 [cU a,cU p] (.t [(ah,[.I .u64 (eQ (ad a) (ad p):I)]),(ah,[.I .i64 0])]):=by have h:=akh (ad a) (ad p) S (by rw[nK S];omega) S S;rwa[Bc b.1,Bc (by omega:0<=p)]at h
def a7.ta{x d f}{r}(i:a7 (.c x) (.c d)):a7 (.t<|(ae,[x,f])::r) (.t<|(ae,[d,f])::r):=by
 refine⟨?_,?_⟩
 .rintro g v ⟨vs,rfl,v1,r1,rfl,⟨us,rfl,v2,k,rfl,l,b⟩,m⟩;exact⟨_,J,_,_,J,⟨_,J,v2,k,J,i.1 g v2 l,b⟩,m⟩
 .intro n a;have b:=i.2 n;simp only[AV.ar,fN,cy,iW,b8]at a b⊢;rcases a with(a|a)|a
  .exact .inl<|.inl<|b a
  .exact .inl<|.inr a
  .exact .inr a
def akj x a' b p{a}(ea:a=x::a')(la:G a<=1000)(lb:G b<=1000)(E:2<=p)(F:p<=2147483648)(ha:rp p a)(hb:rp p b)(H:b≠[])(l:Y b (G b-1) 0≠0):af Tryz.prog 127 [aP a p,aP b p] (.t [(ae,[.S u (aJ a b p).1,.I .u64 p]),(ae,[.S u (aJ a b p).2,.I .u64 p])]):=by
 refine aD Tryz.func127 ?_;have He:p≠0:=S;have pb:=bX.2 H;have K:lK Tryz.prog 181 [N u a] 25 u a:=by rw[ea]at la⊢;exact aki x a' (by simp at la;omega)
 refine e J<|t<|uE J J K<|o J<|aO J J (tf b p S) J<|L<|e J ?_;refine z J (λh=>?_)<|λh=>?_
 .have h:G a<=G b-1:=by have h:(G a:Z)<=(G b:Z)-1:=du;omega
  have f:aJ a b p=([],a):=by rw[aJ,s h]
  rw[f];refine e J<|bc<|bt<|g8 a6 J ?_;exact a7.ta<|a7.nil u
 .have h:¬G a<=G b-1:=by have h:¬(G a:Z)<=(G b:Z)-1:=du;omega
  obtain⟨n,A⟩:∃n,G b=n+1:=⟨G b-1,S⟩;obtain⟨m,hm⟩:∃m,G a=n+m:=⟨G a-n,S⟩;have f:aJ a b p=((iY a b p (eQ (ad<|Y b n 0) (ad p):I) m n m).1,au<|(iY a b p (eQ (ad<|Y b n 0) (ad p):I) m n m).2.take n):=by rw[aJ,M h,A,hm,eJ,DT]
  rw[f];rw[A,eJ]at l;have en:(G b:Z)-1=(n:Z):=S;generalize O:(eQ (ad<|Y b n 0) (ad p):I)=v;have Q:(0:Z)<=(v:Z)/\(v:Z)<p:=by have:=G9 (ad<|Y b n 0) (ad p-2) (ad p) S;unfold eQ at O;omega
  rw[en];have d:=LC (Y b n 0) p (hb n) l E F;rw[O]at d;refine ai<|aO J J d J<|t ?_;refine rm u m J J J J J J (kH .u64) S ?_ ?_ ?_
  .show _*8<=_;omega
  .show _*1<=_;omega
  refine o J<|L<|e J ?_;refine q<|aK (α:=I) (λk=>⟨[(2,.c<|.P 0 0),(3,.c<|.P 1000 0),(4,.c<|.P 2000 0),(5,.c<|.P 3000 0),(6,.c<|.X 1002000),(7,D n),(8,cU v),(10,.c<|.X 5004000),(11,D<|(m:Z)-1-k)],[(0,.box 101 0 [.S u a,.I .u64 p]),(1000,.box 101 0 [.S u b,.I .u64 p]),(2000,.box 101 0 [.V (.slice none 0 0),.I .u64 0]),(3000,.box 101 0 [.V (.slice none 0 0),.I .u64 0]),(1002000,.vec 25 u (iY a b p v m n k).2),(5004000,.vec 25 u (iY a b p v m n k).1)],7,[]⟩) (λk=>k<=m) (λk=>m-k) 0 (aW _) (wk ⟨sR J,sR J,sR J,sR J,sR J,sR J,sR J,sR J,sE J ?_,T⟩ ⟨bE J J,bE J J,bE J J,bE J J,bE J J,bE J J,T⟩) ?_
  .exact aC D (by simp only[fo];omega)
  intro k hk;have R:=LA a b p v m n k;have r:=Rl b v m n S ha k;refine L<|e J ?_;refine z J (λh3=>?_)<|λh3=>?_
  .have h3:k<m:=by have h3:(m:Z)-1-k>=0:=wS;omega
   obtain⟨i,hi⟩:∃i,m=i+(k+1):=⟨m-(k+1),S⟩;have ei:(m:Z)-1-k=(i:Z):=S;have B:m-(k+1)=i:=S;rw[ei];have U:ad ((i:Z)+(n:Z))=i+n:=S;generalize hc:(iY a b p v m n k).2.getD (i+n) 0*v%p=c;have Gs:0<=c/\c<p:=by rw[<-hc];exact⟨fS _ S,gA _ S⟩
   have W:=r.2<|i+n;refine ai<|L<|q<|e J (hp:=iM)<|e J ?_;refine q<|aK (α:=I) (λj=>⟨[(2,.c<|.P 0 0),(3,.c<|.P 1000 0),(4,.c<|.P 2000 0),(5,.c<|.P 3000 0),(6,.c<|.X 1002000),(7,D n),(8,cU v),(10,.c<|.X 5004000),(11,D i),(65,D<|G b),(66,D j)],[(0,.box 101 0 [.S u a,.I .u64 p]),(1000,.box 101 0 [.S u b,.I .u64 p]),(2000,.box 101 0 [.V (.slice none 0 0),.I .u64 0]),(3000,.box 101 0 [.V (.slice none 0 0),.I .u64 0]),(1002000,.vec 25 u<|uN b p c i j (iY a b p v m n k).2),(5004000,.vec 25 u<|(iY a b p v m n k).1.set i c)],10,[]⟩) (λj=>j<=G b) (λj=>G b-j) 0 (aW _) (wk (aS J) ⟨bE J J,bE J J,bE J J,bE J J,bE J J,bE J ?_,T⟩) ?_
   .rw[<-hc,<-LB _ _ p W Q F,<-U];rfl
   intro j hj;have YP:=Lz b p c i (iY a b p v m n k).2 j;have w:=Rk (b:=b) (p:=p) (c:=c) S i r.2 j<|i+j;refine e J<|L ?_;refine z J (λg=>?_)<|λg=>?_
   .have g:j<G b:=by simpa using g
    have gb:=hb j;have y:ad ((i:Z)+(j:Z))=i+j:=S;have C:Y ((iY a b p v m n k).1.set i c) i 0=c:=by rw[aF,List.getElem?_set_self S];rfl
    have DU:G ((iY a b p v m n k).1.set i c)=m:=by rw[fP];exact R.1
    refine ai<|L<|q<|e J<|rt J ?_ (hp:=iM);refine aT<|rt J<|aA (j+1) g Hd<|wk (aS J) ⟨bE J J,bE J J,bE J J,bE J J,bE J ?_,bE J J,T⟩;rw[uN,y,<-YO _ (p-c) _ p w S gb F];have e2:ao .u64 (p-Y ((iY a b p v m n k).1.set i c) (ad (i:Z)) 0)=p-c:=by rw[aV,C,wrap_u64 _ S S]
    rw[<-e2];rfl
   .have g:¬j<G b:=by simpa using g
    have f:j=G b:=S;subst f;refine aN<|aT<|rt J<|aA (k+1) h3 (S:m-(k+1)<m-k)<|wk ⟨sR J,sR J,sR J,sR J,sR J,sR J,sR J,sR J,sE J ?_,T⟩ ⟨bE J J,bE J J,bE J J,bE J J,bE J ?_,bE J ?_,T⟩
    .exact aC D S
    .rw[iY,B,hc]
    .rw[iY,B,hc]
  .have h3:¬k<m:=by have h3:¬(m:Z)-1-k>=0:=wS;omega
   have f:k=m:=S;subst f;refine aN<|ay<|cD 1002000 J J J<|cD 5004000 J J J<|aO J J (DR ((iY a b p v k n k).2.take n) p v7) J<|bU J
def sm(f:I->Z):I->Z
 |0=>0
 |k+1=>sm f k+f k
def LD(a B:I->Z)(n:I):∀k,lM a B n k=sm (λi=>a i*B (n-i)) k
 |0=>rfl
 |k+1=>by rw[lM,sm,LD a B n k]
def gi{f g:I->Z}:∀{k:I},(∀i,i<k->f i=g i)->sm f k=sm g k
 |0,_=>rfl
 |k+1,a=>by rw[sm,sm,gi<|λi b=>a i S,a k S]
def nk{f:I->Z}{k}(a:∀i,i<k->f i=0):sm f k=0:=by
 induction k with
 |zero=>rfl
 |succ k b=>rw[sm,b<|λi c=>a i S,a k S];rfl
def Bi(f g:I->Z):∀k,sm (λi=>f i+g i) k=sm f k+sm g k
 |0=>rfl
 |k+1=>by simp only[sm,Bi f g k];omega
def th(c:Z)(f:I->Z):∀k,sm (λi=>c*f i) k=c*sm f k
 |0=>by simp[sm]
 |k+1=>by simp only[sm,th c f k,nc]
def Rm c(f:I->Z) k:sm (λi=>f i*c) k=sm f k*c:=by rw[ew,<-th];exact gi<|λi _=>ew _ _
def YQ(f:I->Z):∀k,sm f (k+1)=f 0+sm (λi=>f<|i+1) k
 |0=>by simp[sm]
 |k+1=>by rw[sm,YQ f k,sm];omega
def YR(f:I->Z):∀k,sm f k=sm (λi=>f<|k-1-i) k
 |0=>rfl
 |k+1=>by rw[sm,YR f k,YQ<|λi=>f<|k+1-1-i];have:sm (λi=>f<|k+1-1-(i+1)) k=sm (λi=>f<|k-1-i) k:=gi (λi _=>by congr 1;omega);rw[this,(S:k+1-1-0=k)];omega
def YS(F:I->I->Z):∀n,sm (λi=>sm (λa=>F i a)<|i+1) n=sm (λa=>sm (λk=>F (a+k) a)<|n-a) n
 |0=>rfl
 |n+1=>by
  rw[sm,YS F n];have b:sm (λa=>sm (λk=>F (a+k) a)<|n+1-a) n=sm (λa=>sm (λk=>F (a+k) a) (n-a)+F n a) n:=by refine gi<|λa c=>?_;rw[(S:n+1-a=(n-a)+1),sm,(S:a+(n-a)=n)]
  rw[show sm (λa=>sm (λk=>F (a+k) a)<|n+1-a) (n+1)=sm (λa=>sm (λk=>F (a+k) a)<|n+1-a) n+sm (λk=>F (n+k) n) (n+1-n)from J,b,Bi];rw[(S:n+1-n=1),show sm (λa=>F n a) (n+1)=sm (λa=>F n a) n+F n n from J,show sm (λk=>F (n+k) n) 1=0+F (n+0) n from J,jE];have d:sm (λa=>F n a) n=sm (F n) n:=rfl;omega
def PS:Type:=I->Z
namespace PS
instance:Add PS:=⟨λA B i=>A i+B i⟩
instance:Mul PS:=⟨λA B=>conv A B⟩
instance:Neg PS:=⟨λA i=> -(A i)⟩
instance:_root_.Sub PS:=⟨λA B i=>A i-B i⟩
instance:OfNat PS 0:=⟨λ_=>(0:Z)⟩
instance:OfNat PS 1:=⟨λi=>if i=0 then(1:Z)else 0⟩
def K(c:Z):PS:=λi=>if i=0 then c else 0
def X(k:I):PS:=λi=>if i=k then 1 else 0
def ext{a B:PS}(b:∀i,a i=B i):a=B:=funext b
def eR(a B:PS) i:(a+B) i=a i+B i:=rfl
def LF(a:PS) i:(-a) i= -(a i):=rfl
def xP(a B:PS) i:(a-B) i=a i-B i:=rfl
def l0 i:(0:PS) i=0:=rfl
def gG(a B:PS) n:(a*B) n=sm (λi=>a i*B (n-i)) (n+1):=LD a B n<|n+1
def add_comm(a B:PS):a+B=B+a:=ext λi=>vW _ _
def add_assoc(a B C:PS):a+B+C=a+(B+C):=ext λi=>Int.add_assoc _ _ _
def zero_add(a:PS):0+a=a:=ext λi=>zj _
def add_zero(a:PS):a+0=a:=ext λi=>mT _
def add_neg(a:PS):a+ -a=0:=ext λi=>Int.add_right_neg _
def akk(a:PS): -a+a=0:=ext λi=>Int.add_left_neg _
def sub_def(a B:PS):a-B=a+ -B:=ext λi=>GZ
def neg_zero: -(0:PS)=0:=rfl
def neg_add(a B:PS): -(a+B)= -a+ -B:=ext λi=>Int.neg_add
def mul_comm(a B:PS):a*B=B*a:=by
 refine ext λn=>?_
 rw[gG,gG,YR];refine gi<|λi b=>?_;rw[ew];congr 1<;>congr 1<;>omega
def mul_add(a B C:PS):a*(B+C)=a*B+a*C:=by
 refine ext λn=>?_
 rw[eR,gG,gG,gG,<-Bi];exact gi (λi _=>by rw[eR,nc])
def add_mul(a B C:PS):(a+B)*C=a*C+B*C:=by rw[mul_comm,mul_add,mul_comm C a,mul_comm C B]
def mul_assoc(a B C:PS):a*B*C=a*(B*C):=by
 refine ext λn=>?_
 rw[gG,gG];have b:sm (λi=>(a*B) i*C (n-i)) (n+1)=sm (λi=>sm (λj=>a j*B (i-j)*C (n-i))<|i+1) (n+1):=gi (λi _=>by rw[gG,Rm]);rw[b,YS<|λi j=>a j*B (i-j)*C (n-i)];refine gi<|λj c=>?_;rw[gG,<-th,(S:n+1-j=n-j+1)];refine gi<|λk d=>?_;rw[jb,(S:j+k-j=k),(S:n-(j+k)=n-j-k)]
def mul_zero(a:PS):a*0=0:=by
 refine ext λn=>?_
 rw[gG];exact nk (λi _=>by rw[l0,dI])
def zero_mul(a:PS):0*a=0:=by rw[mul_comm,mul_zero]
def nP k a i:(X k*a) i=if k<=i then a (i-k)else 0:=by
 rw[gG];by_cases h:k<=i
 .rw[s h];have e:sm (λj=>X k j*a (i-j)) (i+1)=X k k*a (i-k):=by have:=Lc (X k) a i k (i+1) S (λj _ b=>by simp[X,b]);exact(LD (X k) a i<|i+1).symm.trans this
  rw[e];simp[X]
 .rw[M h];exact nk (λj b=>by simp[X,(S:j≠k)])
def eS c a i:(K c*a) i=c*a i:=by rw[gG];have:=Lc (K c) a i 0 (i+1) S (λj _ b=>by simp[K,b]);rw[show sm (λj=>K c j*a (i-j)) (i+1)=K c 0*a (i-0)from(LD (K c) a i<|i+1).symm.trans this];simp[K]
def DV:(1:PS)=K 1:=rfl
def l3:K 0=0:=ext λi=>by simp[K,l0]
def one_mul(a:PS):1*a=a:=ext λi=>by rw[DV,eS,j7]
def mul_one(a:PS):a*1=a:=by rw[mul_comm,one_mul]
def neg_eq a: -a=K (-1)*a:=ext λi=>by rw[eS,LF];omega
def neg_mul(a B:PS): -a*B= -(a*B):=by rw[neg_eq,neg_eq<|a*B,mul_assoc]
def mul_neg(a B:PS):a* -B= -(a*B):=by rw[mul_comm,neg_mul,mul_comm B a]
def pE a b:K (a+b)=K a+K b:=ext λi=>by rw[eR];unfold K;split<;>rfl
def rQ a b:K (a*b)=K a*K b:=ext λi=>by rw[eS];unfold K;split<;>simp
def LG a k:X (a+k)=X a*X k:=ext λi=>by
 rw[nP];unfold X;by_cases h:a<=i
 .rw[s h];by_cases h2:i=a+k
  .rw[s h2,s S]
  .rw[M h2,M S]
 .rw[M h,M S]
instance:Std.Associative (α:=PS) (·+·):=⟨add_assoc⟩
instance:Std.Commutative (α:=PS) (·+·):=⟨add_comm⟩
instance:Std.Associative (α:=PS) (·*·):=⟨mul_assoc⟩
instance:Std.Commutative (α:=PS) (·*·):=⟨mul_comm⟩
end PS
def ps(a:V Z):PS:=λi=>Y a i 0
def cc a i:ps a i=Y a i 0:=rfl
def Cg(m:Z)(a B:PS):Prop:=∃U:PS,a=B+PS.K m*U
def Cg.at{m}{a B}(b:Cg m a B) i:a i%m=B i%m:=by obtain⟨U,rfl⟩:=b;rw[PS.eR,PS.eS];exact DC _ _ _
def Cg.of{m}{a B}(b:∀i,a i%m=B i%m):Cg m a B:=by
 let U:PS:=λi=>a i/m-B i/m
 refine⟨U,PS.ext λi=>?_⟩;have c:=oi (a i) m;have d:=oi (B i) m;have:=b i;have e:U i=a i/m-B i/m:=rfl;rw[PS.eR,PS.eS,e,DD];omega
def Cg.dvd{m}{a B}(b:Cg m a B) i:m∣a i-B i:=by obtain⟨U,rfl⟩:=b;rw[PS.eR,PS.eS];exact⟨U i,S⟩
def Cg.Rn{m}{a B}(b:∀i,m∣a i-B i):Cg m a B:=Cg.of λi=>zp.2<|Bj<|b i
def Cg.refl m a:Cg m a a:=⟨0,by rw[PS.mul_zero,PS.add_zero]⟩
def Cg.of_eq{m}{a B}(b:a=B):Cg m a B:=b▸Cg.refl m a
def Cg.symm{m}{a B}(b:Cg m a B):Cg m B a:=Cg.of λi=>(b.at i).symm
def Cg.trans{m}{a B C}(b:Cg m a B)(k:Cg m B C):Cg m a C:=Cg.of λi=>(b.at i).trans<|k.at i
def Cg.add{m}{a B C b}(c:Cg m a B)(k:Cg m C b):Cg m (a+C) (B+b):=by obtain⟨U,rfl⟩:=c;obtain⟨V,rfl⟩:=k;exact⟨U+V,by rw[PS.mul_add];ac_rfl⟩
def Cg.neg{m}{a B}(b:Cg m a B):Cg m (-a) (-B):=by obtain⟨U,rfl⟩:=b;exact⟨-U,by rw[PS.neg_add,PS.mul_neg]⟩
def Cg.sub{m}{a B C b}(c:Cg m a B)(k:Cg m C b):Cg m (a-C) (B-b):=by rw[PS.sub_def,PS.sub_def];exact c.add k.neg
def Cg.mul{m}{b B C a}(c:Cg m b B)(k:Cg m C a):Cg m (b*C) (B*a):=by obtain⟨U,rfl⟩:=c;obtain⟨V,rfl⟩:=k;refine⟨B*V+U*a+PS.K m*U*V,?_⟩;simp only[PS.mul_add,PS.add_mul];ac_rfl
def Cg.tj{m}a{C b}(k:Cg m C b):Cg m (a*C) (a*b):=(Cg.refl m a).mul k
def Cg.oT{m}{a B}(k:Cg m a B) C:Cg m (a*C) (B*C):=k.mul<|Cg.refl m C
def Cg.LH{m}a{C b}(k:Cg m C b):Cg m (a+C) (a+b):=(Cg.refl m a).add k
def Cg.ou{m}{a B}(k:Cg m a B) C:Cg m (a+C) (B+C):=k.add<|Cg.refl m C
def Cg.K{m a b}(c:a%m=b%m):Cg m (PS.K a) (PS.K b):=Cg.of λi=>by
 unfold PS.K;split
 .exact c
 .rfl
def Cg.Km m:Cg m (PS.K m) 0:=⟨1,by rw[PS.mul_one,PS.zero_add]⟩
def Cg.up{m n}{a B}(b:Cg n a B):Cg (m*n) (PS.K m*a) (PS.K m*B):=by obtain⟨U,rfl⟩:=b;refine⟨U,?_⟩;rw[PS.mul_add,PS.rQ,PS.mul_assoc]
def Dl(p:Z)(n:I)(a:PS):Prop:=∀i,n<=i->a i%p=0
def Dl.cg{p}{n}{a B}(b:Dl p n a)(k:Cg p a B):Dl p n B:=λi c=>by rw[<-k.at i];exact b i c
def Dl.le{p}{n m}{a}(b:Dl p n a)(k:n<=m):Dl p m a:=λi c=>b i S
def Dl.add{p}{n}{a B}(c:Dl p n a)(k:Dl p n B):Dl p n (a+B):=λi b=>by rw[PS.eR,tk,c i b,k i b];rfl
def Dl.neg{p}{n}{a}(b:Dl p n a):Dl p n (-a):=λi c=>by rw[PS.LF];exact Bj<|Int.dvd_neg.2<|Bk<|b i c
def Dl.sub{p}{n}{a B}(b:Dl p n a)(k:Dl p n B):Dl p n (a-B):=by rw[PS.sub_def];exact b.add k.neg
def YT{p}{f:I->Z}{k}(a:∀i,i<k->f i%p=0):sm f k%p=0:=by
 induction k with
 |zero=>exact dj _
 |succ k b=>rw[sm,tk,b<|λi c=>a i S,a k S];rfl
def LI{p a b:Z}(c:a%p=0):a*b%p=0:=by rw[kJ,c,ko,dj]
def LJ{p a b:Z}(c:b%p=0):a*b%p=0:=by rw[ew];exact LI c
def Dl.mul{p}{n m}{b B}(c:Dl p (n+1) b)(k:Dl p m B):Dl p (n+m) (b*B):=λi d=>by
 rw[PS.gG];refine YT<|λj f=>?_;by_cases a:n+1<=j
 .exact LI<|c j a
 .exact LJ<|k (i-j) S
def Dl.mul'{p}{n m}{a B}(b:Dl p n a)(k:Dl p m B):Dl p (n+m) (a*B):=by
 cases n with
 |zero=>
  intro i c
  rw[PS.gG]
  exact YT<|λj d=>LI<|b j<|aW _
 |succ n=>exact(b.mul k).le S
def Dl.top{p}{n m}{a B}(c:Dl p (n+1) a)(k:Dl p (m+1) B):(a*B) (n+m)%p=a n*B m%p:=by
 rw[PS.gG];have:∀r,r<=n+m+1->sm (λi=>a i*B (n+m-i)) r%p=if n<r then a n*B m%p else 0:=by
  intro r f;induction r with
  |zero=>simp[sm]
  |succ r d=>
   rw[sm,tk,d S]
   by_cases b:n<r
   .rw[s b,s S,LI<|c r S,mT,jJ]
   .rw[M b];by_cases h2:n=r
    .subst h2;rw[s S,zj,jJ,(S:n+m-n=m)]
    .rw[M S,LJ<|k _ S];rfl
 rw[this _ (a8 _),s S]
def akl{p}{a}(b:Dl p 0 a):Cg p a 0:=Cg.of λi=>by rw[b i (aW _),PS.l0,dj]
def iN p a:Dl p (G a) (ps a):=λi b=>by rw[cc,aF,lG b];simp
def akm p k:Dl p (k+1) (PS.X k):=λi a=>by unfold PS.X;rw[M S];simp
def Ro p c:Dl p 1 (PS.K c):=λi a=>by unfold PS.K;rw[M S];simp
def Bl p n:Dl p n 0:=λi _=>by rw[PS.l0,dj]
def LK p:Dl p 1 1:=Ro p 1
def cE(p:I):Prop:=2<=p/\∀d,2<=d->d*d<=p->p%d≠0
def cE.wa{p d}(b:cE p)(f:d∣p):d=1\/d=p:=by
 let ⟨e,he⟩:=f;have i:=b.1;have k:d≠0:=by intro a;subst a;simp at he;omega
 have a:e≠0:=by intro a;subst a;simp at he;omega
 by_cases d1:d=1
 .exact .inl d1
 by_cases g:e=1
 .subst g;right;omega
 exfalso;by_cases c:d<=e
 .exact b.2 d S (by rw[he];exact jw d c) (by rw[he];exact Nat.mul_mod_right d e)
 .exact b.2 e S (by rw[he];exact eB e S) (by rw[he];exact Nat.mul_mod_left d e)
def cE.coprime{p a}(b:cE p)(c:¬p∣a):Nat.Coprime p a:=by
 rcases b.wa (Nat.gcd_dvd_left p a)with e|e
 .exact e
 .exact absurd (e▸LL p a) c
def cE.dvd_mul{p a b}(c:cE p)(d:p∣a*b):p∣a\/p∣b:=by
 by_cases ha:p∣a
 .exact .inl ha
 .exact .inr<|(c.coprime ha).dvd_of_dvd_mul_left d
def cE.Rp{p}{a b}(c:cE p)(d:(p:Z)∣a*b):(p:Z)∣a\/(p:Z)∣b:=by
 have:p∣aq a*aq b:=by rw[<-qE];have:=Hf.2 d;rwa[lO]at this
 rcases c.dvd_mul this with e|e
 .exact .inl (Hf.1<|by rwa[lO])
 .exact .inr (Hf.1<|by rwa[lO])
def cE.nQ{p}{a b}(c:cE p)(d:a%(p:Z)≠0)(f:b%(p:Z)≠0):a*b%(p:Z)≠0:=λe=>by
 rcases c.Rp (Bk e)with e|e
 .exact d<|Bj e
 .exact f<|Bj e
def ch:I->I->I
 |_,0=>1
 |0,_+1=>0
 |n+1,k+1=>ch n k+ch n (k+1)
def rR n:ch n 0=1:=by cases n<;>rfl
def zq:∀(n k:I),n<k->ch n k=0
 |0,0,a=>by omega
 |0,k+1,_=>rfl
 |n+1,0,a=>by omega
 |n+1,k+1,a=>by rw[ch,zq n k S,zq n (k+1) S]
def Hg:∀n,ch n n=1
 |0=>rfl
 |n+1=>by rw[ch,Hg n,zq n (n+1) S]
def LM:∀(n k:I),(k+1)*ch (n+1) (k+1)=(n+1)*ch n k
 |0,0=>rfl
 |0,k+1=>by rw[zq 1 (k+1+1) S];rfl
 |n+1,0=>by have:=LM n 0;rw[rR]at this;rw[show ch (n+1+1) (0+1)=ch (n+1) 0+ch (n+1) (0+1)from J,rR];omega
 |n+1,k+1=>by have a:=LM n k;have b:=LM n<|k+1;rw[ch,xQ,b];rw[(F1:(k+1+1)*ch (n+1) (k+1)=(k+1)*ch (n+1) (k+1)+ch (n+1) (k+1)),a];rw[show ch (n+1) (k+1)=ch n k+ch n (k+1)from J];grind
def cE.akn{p k}(a:cE p)(c:0<k)(d:k<p):p∣ch p k:=by
 obtain⟨n,rfl⟩:∃n,p=n+1:=⟨p-1,S⟩;obtain⟨j,rfl⟩:∃j,k=j+1:=⟨k-1,S⟩;have b:n+1∣(j+1)*ch (n+1) (j+1):=⟨ch n j,LM n j⟩;rcases a.dvd_mul b with e|e
 .have:=pG S e;omega
 .exact e
def pw(a:PS):I->PS
 |0=>1
 |n+1=>pw a n*a
def sP(f:I->PS):I->PS
 |0=>0
 |k+1=>sP f k+f k
def Rq{f g:I->PS}:∀{k:I},(∀i,i<k->f i=g i)->sP f k=sP g k
 |0,_=>rfl
 |k+1,a=>by rw[sP,sP,Rq<|λi b=>a i S,a k S]
def YU(f g:I->PS):∀k,sP (λi=>f i+g i) k=sP f k+sP g k
 |0=>(PS.add_zero 0).symm
 |k+1=>by simp only[sP,YU f g k];ac_rfl
def Rs(f:I->PS)(a:PS):∀k,sP (λi=>f i*a) k=sP f k*a
 |0=>(PS.zero_mul a).symm
 |k+1=>by simp only[sP,Rs f a k,PS.add_mul]
def LN(f:I->PS):∀k,sP f (k+1)=f 0+sP (λi=>f<|i+1) k
 |0=>by simp only[sP];exact PS.add_comm _ _
 |k+1=>by rw[sP,LN f k,sP,PS.add_assoc]
def ako{m}{f:I->PS}{k}(a:∀i,i<k->Cg m (f i) 0):Cg m (sP f k) 0:=by
 induction k with
 |zero=>exact Cg.refl m _
 |succ k b=>
  have:=(b<|λi c=>a i S).add<|a k S
  rwa[PS.add_zero]at this
def YV(a B:PS):∀n,pw (a+B) n=sP (λk=>PS.K (ch n k)*(pw a k*pw B (n-k))) (n+1)
 |0=>by rw[show sP (λk=>PS.K (ch 0 k)*(pw a k*pw B (0-k))) (0+1)=0+1*(1*1)from J,PS.zero_add,PS.mul_one,PS.mul_one];rfl
 |n+1=>by
  rw[pw,YV a B n,PS.mul_add,<-Rs,<-Rs];rw[LN (λk=>PS.K (ch (n+1) k)*(pw a k*pw B (n+1-k))) (n+1)];have b:sP (λi=>PS.K (ch (n+1)<|i+1)*(pw a (i+1)*pw B (n+1-(i+1)))) (n+1)=sP (λi=>PS.K (ch n i)*(pw a i*pw B (n-i))*a) (n+1)+sP (λi=>PS.K (ch n<|i+1)*(pw a (i+1)*pw B (n-i))) (n+1):=by rw[<-YU];refine Rq<|λi _=>?_;rw[(S:n+1-(i+1)=n-i),ch,uG,PS.pE,PS.add_mul,pw];ac_rfl
  have c:sP (λi=>PS.K (ch n i)*(pw a i*pw B (n-i))*B) (n+1)=PS.K (ch (n+1) 0)*(pw a 0*pw B (n+1-0))+sP (λi=>PS.K (ch n<|i+1)*(pw a (i+1)*pw B (n-i))) (n+1):=by
   rw[LN,show sP (λi=>PS.K (ch n<|i+1)*(pw a (i+1)*pw B (n-i))) (n+1)=sP (λi=>PS.K (ch n<|i+1)*(pw a (i+1)*pw B (n-i))) n+PS.K (ch n<|n+1)*(pw a (n+1)*pw B (n-n))from J];rw[zq n (n+1) S,rR,rR,show PS.K ((0:I):Z)=0 from PS.l3,PS.zero_mul,PS.add_zero];have d:sP (λi=>PS.K (ch n<|i+1)*(pw a (i+1)*pw B (n-(i+1)))*B) n=sP (λi=>PS.K (ch n<|i+1)*(pw a (i+1)*pw B (n-i))) n:=by refine Rq<|λi g=>?_;rw[(S:n-i=n-(i+1)+1),pw.eq_2 B];ac_rfl
   rw[d];have f:pw B (n+1-0)=pw B (n-0)*B:=rfl;rw[f];ac_rfl
  rw[b,c];ac_rfl
def cE.DW{p}(h:cE p) a B:Cg p (pw (a+B) p) (pw a p+pw B p):=by
 rw[YV];obtain⟨n,rfl⟩:∃n,p=n+1:=⟨p-1,DX⟩;rw[sP,LN];rw[Hg,rR,(S:n+1-(n+1)=0),wb];have e:Cg ((n+1:I):Z) (sP (λi=>PS.K (ch (n+1)<|i+1)*(pw a (i+1)*pw B (n+1-(i+1)))) n) 0:=by refine ako<|λi g=>?_;have b:=h.akn (k:=i+1) S S;have:Cg ((n+1:I):Z) (PS.K (ch (n+1) (i+1):I)) (PS.K 0):=Cg.K (by rw[dj];exact Bj<|xR.2 b);rw[PS.l3]at this;have c:=this.oT<|pw a (i+1)*pw B (n+1-(i+1));rwa[PS.zero_mul]at c
 have d:PS.K ((1:I):Z)*(pw a 0*pw B (n+1))=pw B (n+1):=by rw[show PS.K ((1:I):Z)=1 from J,PS.one_mul,show pw a 0=1 from J,PS.one_mul]
 have f:PS.K ((1:I):Z)*(pw a (n+1)*pw B 0)=pw a (n+1):=by rw[show PS.K ((1:I):Z)=1 from J,PS.one_mul,show pw B 0=1 from J,PS.mul_one]
 rw[d,f];have:=((Cg.refl ((n+1:I):Z)<|pw B<|n+1).add e).add<|Cg.refl _<|pw a<|n+1;rw[PS.add_zero]at this;rw[PS.add_comm (pw a<|n+1)];exact this
def Rt(a:Z):∀n,pw (PS.K a) n=PS.K (a^n)
 |0=>by rw[oQ];rfl
 |n+1=>by rw[pw,Rt a n,<-PS.rQ,dK]
def YW:∀n,pw 1 n=1
 |0=>rfl
 |n+1=>by rw[pw,YW n,PS.mul_one]
def cE.zr{p:I}(h:cE p):∀a:I,((a:Z)^p)%(p:Z)=(a:Z)%(p:Z)
 |0=>by obtain⟨n,rfl⟩:∃n,p=n+1:=⟨p-1,DX⟩;rw[dK];simp
 |a+1=>by
  have f:=h.zr a;have b:=(h.DW (PS.K (a:Z)) 1).at 0;rw[show PS.K (a:Z)+1=PS.K ((a+1:I):Z)by rw[PS.DV,<-PS.pE];rfl,Rt,YW,PS.eR,Rt]at b;have d:∀c:Z,PS.K c 0=c:=λc=>by simp[PS.K]
  rw[d,d,PS.DV,d,tk,f,<-tk]at b;exact b
def cE.YX{p a}(h:cE p)(b:¬p∣a):a^(p-1)%p=1:=by
 have c:=h.zr a;obtain⟨n,rfl⟩:∃n,p=n+1:=⟨p-1,DX⟩;have d:((n+1:I):Z)∣(a:Z)*((a:Z)^n-1):=by rw[DD,lA,ew,<-dK];exact Bk<|zp.1 c
 rcases h.Rp d with e|e
 .exact absurd (xR.1 e) b
 .have h3:((a:Z)^n)%((n+1:I):Z)=1%((n+1:I):Z):=zp.2<|Bj e;have f:(1:Z)%((n+1:I):Z)=1:=gT A DX;rw[f]at h3;simp only[eJ];have:((a^n%(n+1):I):Z)=1:=wS;omega
def cE.akp{p x}(b:cE p)(l:x<p)(m:x*x%p=1):x=1\/x=p-1:=by
 have n:=b.1;have c:(p:Z)∣((x:Z)-1)*((x:Z)+1):=by
  have d:x*x=1+p*(x*x/p):=by have:=Nat.mod_add_div (x*x) p;omega
  have f:(x:Z)*x=1+(p:Z)*((x*x/p:I):Z):=by exact_mod_cast d
  refine⟨((x*x/p:I):Z),?_⟩;rw[An,nc,f];omega
 rcases b.Rp c with⟨k,e⟩|⟨k,e⟩
 .left;by_cases a:k=0
  .subst a;omega
  .exfalso;have:k>=1\/k<=-1:=S;rcases this with a|a
   .have:=ja a (S:(0:Z)<=p);omega
   .have:=ja a (S:(0:Z)<=p);omega
 .right;have a:k=1:=by
   by_cases g:k<=0
   .have:=ja g (S:(0:Z)<=p);omega
   .by_cases i:2<=k
    .have:=ja i (S:(0:Z)<=p);omega
    .omega
  subst a;omega
def cE.inv{p a}(b:cE p)(c:¬p∣a):a*(a^(p-2)%p)%p=1:=by rw[DY,Nat.mod_mod,<-DY];have:=b.YX c;have d:=b.1;rwa[(S:p-1=p-2+1),fy,fR]at this
def Ru:∀(f r a n p:I),n<2^f->r<p->rN f r a n p=r*a^n%p
 |0,r,a,n,p,h,b=>by have:n=0:=du;subst this;rw[rN,oo,kI,nK b]
 |f+1,r,a,n,p,h,b=>by
  rw[rN];split
  .rename_i g;subst g;rw[oo,kI,nK b]
  .have i:0<p:=by omega
   have c:n/2<2^f:=by rw[fy]at h;omega
   have d:(a*a%p)^(n/2)%p=a^(2*(n/2))%p:=by rw[<-Bm,<-Nat.pow_two,wc]
   split
   .rename_i k;rw[Ru f _ _ _ _ c (fg _ i),DY,d,<-DY,Nat.mod_mul_mod];have:a^n=a*a^(2*(n/2)):=by rw[fR,<-fy];congr 1;omega
    rw[this,xL]
   .rename_i k;rw[Ru f _ _ _ _ c b,DY,d,<-DY];have:2*(n/2)=n:=S;rw[this]
def LO a n p(b:n<18446744073709551616)(c:1<p):uM a n p=a^n%p:=by rw[uM,Ru _ _ _ _ _ b<|fg _ S,nK c,iL,<-Bm]
def YY a p(b:p<18446744073709551616)(c:1<p):eQ a p=a^(p-2)%p:=LO a (p-2) p S c
def Rv(n:I):I->Bool:=λk=>Nat.rec (motive:=λ_=>Bool) ae (λi a=>match Nat.beq (n%(i+2)) 0 with|true=>ah|false=>a) k
def YZ{n:I}:∀{k:I},Rv n k=ae->∀d,2<=d->d<k+2->n%d≠0
 |0,_,d,h2,c=>by omega
 |k+1,f,d,h2,c=>by
  have a:(match Nat.beq (n%(k+2)) 0 with|true=>ah|false=>Rv n k)=ae:=f;split at a
  .cases a
  .rename_i b;by_cases e:d=k+2
   .subst e;intro g;rw[g]at b;cases b
   .exact YZ a d h2 S
def akq:Rv 2147483647 46340=ae:=j8
def akr:cE 2147483647:=⟨A,λd a b=>YZ akq d a (by
 by_cases e:d<46342
 .exact e
 .have:46342*46342<=d*d:=ly S S;omega)⟩
def Y0:∀(m n:I),m+n=2147483647->0<m->∃p,cE p/\n<p/\p<=2147483647/\∀a,n<a->a<p->¬cE a
 |0,_,_,d=>by omega
 |m+1,n,d,_=>by
  by_cases b:cE (n+1)
  .exact⟨n+1,b,S,S,λa c f=>S⟩
  .by_cases g:m=0
   .subst g;have:n+1=2147483647:=S;rw[this]at b;exact absurd akr b
   .let ⟨p,c,f,i,k⟩:=Y0 m (n+1) S S;refine⟨p,c,S,i,λa v l=>?_⟩;by_cases r:a=n+1
    .rw[r];exact b
    .exact k a S l
def LP n(g:cE n)(x:n<=2147483647):af j 83 [cU n] (cB ae):=by
 refine aD Tryz.func83 ?_;have B:=g.1;refine e J<|L<|t<|rg 6 J J (λc=>?_)<|λc=>?_
 .exfalso;have c:(n:Z)<2:=az c;omega
 refine o J<|z J (λi=>?_)<|λ_=>ai ?_
 .exfalso;have i:(n:Z)>2147483647:=az i;omega
 refine L<|e J<|q<|aK (α:=I) (λd=>⟨[(0,cU n),(3,cU d)],[],4,[]⟩) (λd=>2<=d/\(d-1)*(d-1)<=n) (λd=>n+2-d) 2 ⟨A,S⟩ aM ?_;rintro d ⟨k,l⟩;have b:d<65536:=by
  by_cases m:d<65536
  .exact m
  .have:65535*65535<=(d-1)*(d-1):=ly S S;omega
 have p:d*d<4294967296:=Lu b b;have r:ao .u64 ((d:Z)*(d:Z))=((d*d:I):Z):=by rw[<-fF,wrap_u64 _ S S]
 refine L<|e J<|z J (λa=>?_)<|λa=>?_
 .have a:ao .u64 ((d:Z)*(d:Z))<=(n:Z):=az a;rw[r]at a;have a:d*d<=n:=S;have v:=g.2 d k a;refine ai (L<|q<|e J (hp:=ak)<|z J (λf=>?_)<|λ_=>bN<|aT ?_)
  .exfalso;have f:(n:Z).tmod (d:Z)=0:=eq_of_beq f;rw[gU]at f;omega
  .have:d<=n:=cQ (Le d S) a;refine rt J<|aA (d+1) ⟨S,by rw[eJ];exact a⟩ (S:n+2-(d+1)<n+2-d)<|wk ⟨sR J,sE J ?_,T⟩ T;refine bA ?_;show ao .u64 ((d:Z)+1)=((d+1:I):Z);rw[wrap_u64 _ S S];omega
 .exact aN<|ay<|e J<|bU J
def aks n(v:¬cE n)(E:n<=2147483647):af j 83 [cU n] (cB ah):=by
 refine aD Tryz.func83 ?_;refine e J<|L<|t<|rg 6 J J (λg=>?_)<|λg=>?_
 .exact o J (z J (λ_=>e J<|bc<|bt<|atR J)<|λi=>by cases i)
 have p:2<=n:=by have g:¬(n:Z)<2:=aL g;omega
 refine o J<|z J (λi=>?_)<|λ_=>ai ?_
 .exfalso;have i:(n:Z)>2147483647:=az i;omega
 refine L<|e J<|q<|aK (α:=I) (λd=>⟨[(0,cU n),(3,cU d)],[],4,[]⟩) (λd=>2<=d/\(d-1)*(d-1)<=n/\∀k,2<=k->k<d->n%k≠0) (λd=>n+2-d) 2 ⟨A,S,λk l p=>S⟩ aM ?_;rintro d ⟨C,x,b⟩;have c:d<65536:=by
  by_cases f:d<65536
  .exact f
  .have:65535*65535<=(d-1)*(d-1):=ly S S;omega
 have B:d*d<4294967296:=Lu c c;have r:ao .u64 ((d:Z)*(d:Z))=((d*d:I):Z):=by rw[<-fF,wrap_u64 _ S S]
 refine L<|e J<|z J (λa=>?_)<|λa=>?_
 .have a:ao .u64 ((d:Z)*(d:Z))<=(n:Z):=az a;rw[r]at a;have a:d*d<=n:=S;refine ai (L<|q<|e J (hp:=ak)<|z J (λm=>?_)<|λm=>bN<|aT ?_)
  .refine e J<|bc ?_;repeat(first|refine bt ?_|refine eH ?_|refine gf ?_)
   exact atR J
  .have m:(n:Z).tmod (d:Z)≠0:=fT m;rw[gU]at m;have:d<=n:=cQ (Le d S) a;refine rt J (aA (d+1) ⟨S,by rw[eJ];exact a,λk l p=>?_⟩ (S:n+2-(d+1)<n+2-d)<|wk ⟨sR J,sE J ?_,T⟩ T)
   .by_cases f:k=d
    .subst f;omega
    .exact b k l S
   .refine bA ?_;show ao .u64 ((d:Z)+1)=((d+1:I):Z);rw[wrap_u64 _ S S];omega
 .exfalso;have a:¬ao .u64 ((d:Z)*(d:Z))<=(n:Z):=aL a;rw[r]at a;refine v ⟨p,λk l g=>b k l ?_⟩;by_cases f:k<d
  .exact f
  .have:d*d<=k*k:=ly S S;omega
def Y1 n(k:n<2147483647):∃p,cE p/\n<p/\p<=2147483647/\(∀a,n<a->a<p->¬cE a)/\af j 59 [cU n] (.t [(ah,[.I .u64 p]),(ah,[.I .i64 0])]):=by
 let ⟨p,c,h2,d,f⟩:=Y0 (2147483647-n) n S S;refine⟨p,c,h2,d,f,?_⟩;refine aD Tryz.func59 ?_;refine e J<|L<|e J<|z J (λh=>?_)<|λ_=>ai ?_
 .exfalso;have h:(n:Z)>=2147483647:=az h;omega
 refine e J<|L<|q<|aK (α:=I) (λa=>⟨[(4,cU a)],[],4,[]⟩) (λa=>n<a/\a<=p) (λa=>p-a) (n+1) ⟨S,S⟩ (wk ⟨sE J ?_,T⟩ T) ?_
 .refine bA ?_;show ao .u64 ((n:Z)+1)=((n+1:I):Z);rw[wrap_u64 _ S S];omega
 rintro a ⟨b,g⟩;by_cases i:a=p
 .subst i;refine L<|aO J J (LP a c d) J<|z J (λh=>bS)<|λ_=>?_;exact aN<|ay<|e J<|bU J
 .refine L<|aO J J (aks a (f a b S) S) J<|z J (λ_=>?_)<|λh=>bS;refine ai<|q<|rt J<|dy<|aA (a+1) ⟨S,S⟩ (S:p-(a+1)<p-a)<|wk ⟨sE J ?_,T⟩ T;refine bA ?_;show ao .u64 ((a:Z)+1)=((a+1:I):Z);rw[wrap_u64 _ S S];omega
def akt:cE 31:=⟨A,λd a b=>by
 have c:d<6:=dQ λh=>absurd (ly (S:6<=d) (S:6<=d)) S
 rcases(by omega:d=2\/d=3\/d=4\/d=5)with rfl|rfl|rfl|rfl<;>decide⟩
def aku(n:I)(g:n<4294967296)(i:n%2=0):∃p,cE p/\p<=31/\af j 10 [cW n] (cU p):=by
 have k:=fg n (A:0<2147483000);have b:ao .u64 ((n:Z).tmod 2147483000)=((n%2147483000:I):Z):=by rw[show((n:Z).tmod 2147483000)=((n%2147483000:I):Z)from gU n 2147483000,wrap_u64 _ S S]
 let ⟨p,c,h2,l,a,d⟩:=Y1 (n%2147483000/2%30) S;refine⟨p,c,yB λf=>a 31 S f akt,?_⟩;refine aD Tryz.func10 ?_;refine e J<|e J (hp:=ak)<|L<|e J (hp:=ak)<|z J (λ_=>?_)<|λa=>?_
 .refine rt J (hp:=ak)<|ay ?_;refine dc (st':=⟨[(3,cU ((n%2147483000/2%30:I):Z))],[],10,[]⟩) (wk ⟨sE J ?_,T⟩ T) ?_
  .refine bA ?_;rw[b,rO _ S];exact gU _ 30
  exact aO J J d J<|e J<|bU J
 .exfalso;have a:(n:Z).tmod 2≠0:=fT a;exact a (by rw[show(n:Z).tmod 2=((n%2:I):Z)from gU n 2];omega)
def LQ p d(v:cE p)(GB:p<=2147483647)(hod:p%2=1)(hw:¬p∣d)(B:d<18446744073709551616):af j 122 [cU p,cU d] (cB ae):=by
 refine aD Tryz.func122 ?_;have s:=v.1;refine e J<|e J ?_;refine Yy (α:=I×I) (λx=>⟨[(0,cU p),(1,cU d),(5,cU x.1),(6,D x.2)],[],20,[]⟩) (λx=>x.1*2^x.2=p-1/\x.2<32/\x.1%2=1) ?_<|λC=>q<|aK (α:=I×I) (λx=>⟨[(0,cU p),(1,cU d),(5,cU x.1),(6,D x.2)],[],4,[]⟩) (λx=>x.1*2^x.2=p-1/\0<x.1) (λx=>x.1) (p-1,0) ⟨ax,(S:0<p-1)⟩ (wk ⟨sR J,sR J,sE J ?_,sR J,T⟩ T) ?_
 .rintro⟨b,a⟩ ⟨f,h2,u⟩;simp only at f h2 u;have O:1<=a:=by
   by_cases c:a=0
   .subst c;simp at f;omega
   .omega
  have V:b<=p-1:=by rw[<-f];exact Bb _<|lN A
  refine aO J J (Ri d b p B S S S) J ?_;rw[LO d b p S S];have R:=fg (d^b) (S:0<p);have U:(d^b%p)^2^a%p=1:=by rw[<-Bm,<-wc,f];exact v.YX hw
  generalize d^b%p=x at R U;refine L<|t<|rg 23 J J (λh=>?_)<|λh=>?_
  .exact o J (z J (λ_=>e J<|bc<|bt<|atR J)<|λk=>by cases k)
  have E:x≠1:=by have h:=fT h;omega
  have W:ao .u64 ((p:Z)-1)=((p-1:I):Z):=by rw[wrap_u64 _ S S];omega
  refine o J<|z J (λk=>?_)<|λk=>ai ?_
  .exact e J<|bc<|bt<|atR J
  have F:x≠p-1:=by have k:(x:Z)≠ao .u64 ((p:Z)-1):=fT k;rw[W]at k;omega
  refine L<|e J<|q<|aK (α:=I×I) (λy=>⟨[(0,cU p),(7,cU y.2),(30,D<|(a:Z)-1),(31,D y.1)],[],30,[]⟩) (λy=>y.1<=a-1/\y.2<p/\y.2≠1/\y.2≠p-1/\y.2^2^(a-y.1)%p=1) (λy=>a-1-y.1) (0,x) ⟨aW _,R,E,F,U⟩ aM ?_;rintro⟨i,x⟩ ⟨G,g2,H,K,l⟩;simp only at G g2 H K l;have m:∀P,x^2^(P+1)%p=(x*x%p)^2^P%p:=by intro P;rw[<-Bm,<-Nat.pow_two,<-wc];congr 2;rw[fy,fR]
  have n:=λh=>v.akp g2 h
  refine e J<|L<|z J (λg=>?_)<|λg=>?_
  .have g:i<a-1:=by have g:(i:Z)<(a:Z)-1:=az g;omega
   have X:(ao .u64<|(x:Z)*(x:Z)).tmod (p:Z)=((x*x%p:I):Z):=zo x x p g2 g2 S;refine ai<|L<|q<|e J (hp:=ak)<|e J<|z J (λr=>?_)<|λr=>bN<|aT ?_
   .refine e J<|bc ?_;repeat(first|refine bt ?_|refine eH ?_|refine gf ?_)
    exact atR J
   .have r:(ao .u64<|(x:Z)*(x:Z)).tmod (p:Z)≠ao .u64 ((p:Z)-1):=fT r;rw[X,W]at r;refine rt J (hp:=ak) (aA (i+1,x*x%p) ⟨(S:i+1<=a-1),fg _ S,λc=>?_,(S:x*x%p≠p-1),?_⟩ (S:a-1-(i+1)<a-1-i)<|wk ⟨sR J,sE J ?_,sR J,sR J,T⟩ T)
    .rcases n c with c|c
     .exact H c
     .exact K c
    .show(x*x%p)^2^(a-(i+1))%p=1;rw[<-m,(S:a-(i+1)+1=a-i)];exact l
    .exact bA X
  .exfalso;have g:i=a-1:=by have g:¬(i:Z)<(a:Z)-1:=aL g;omega
   rw[g,(S:a-(a-1)=0+1),m 0]at l;simp at l;rcases n l with c|c
   .exact H c
   .exact K c
 .refine bA ?_;show ao .u64 ((p:Z)-1)=((p-1:I):Z);rw[wrap_u64 _ S S];omega
 .rintro⟨b,a⟩ ⟨f,h2⟩;simp only at f h2;have Q:a<32:=by
   by_cases c:a<32
   .exact c
   .have g:2^32<=2^a:=fG A S;have r:1*2^a<=b*2^a:=eB _ h2;omega
  have M:b<=p-1:=by rw[<-f];exact Bb _<|lN A
  refine L<|e J (hp:=ak)<|z J (λh=>?_)<|λh=>?_
  .have h:(b:Z).tmod 2=0:=eq_of_beq h;have N:(b:Z).tmod 2=((b%2:I):Z):=gU b 2;refine ai (q<|e J (hp:=ak)<|rt J (hp:=ak)<|dy<|aA (b/2,a+1) ⟨?_,(S:0<b/2)⟩ (S:b/2<b)<|wk ⟨sR J,sR J,sE J ?_,sR J,T⟩ T)
   .show b/2*2^(a+1)=p-1;rw[<-f,fy,fR (2^a) 2,<-xL];congr 1;omega
   .exact bA<|rO b S
  .have h:(b:Z).tmod 2≠0:=fT h;have N:(b:Z).tmod 2=((b%2:I):Z):=gU b 2;exact aN<|fH (C (b,a) ⟨f,Q,(S:b%2=1)⟩) aM
def Hh p(l:cE p)(n:p<=2147483647):af j 60 [cU p] (cB ae):=by
 refine aD Tryz.func60 ?_;have F:=l.1;refine e J<|L<|t<|rg 7 J J (λm=>?_)<|λm=>?_
 .exfalso;have m:(p:Z)<2:=az m;omega
 refine o J<|z J (λE=>?_)<|λ_=>ai ?_
 .exfalso;have E:(p:Z)>2147483647:=az E;omega
 refine L<|t<|rx J J T<|o J ?_;refine q<|aK (α:=I) (λi=>⟨[(0,cU p),(11,.a [.I .u64 2,.I .u64 3,.I .u64 5,.I .u64 7]),(12,D i)],[],8,[]⟩) (λi=>i<=4/\(0<i->p%2=1)) (λi=>4-i) 0 ⟨A,λh=>absurd h A⟩ aM ?_;rintro i ⟨H,x⟩;rcases(S:i=0\/i=1\/i=2\/i=3\/i=4)with b|b|b|b|b
 .subst b;refine e J<|L<|z J (λ_=>ai ?_)<|λh=>bS;refine L (q<|t<|rx J J ?_<|o J<|L<|e J (hp:=ak) ?_)
  .exact⟨Hi,Hj⟩
  refine z J (λh=>?_)<|λh=>ai ?_
  .have h:(p:Z).tmod 2=0:=eq_of_beq h;have d:2∣p:=by have r:(p:Z).tmod 2=((p%2:I):Z):=gU p 2;exact qH S
   have m:p=2:=by rcases l.wa d with b|b<;>omega
   refine e J<|bc ?_;repeat(first|refine bt ?_|refine eH ?_|refine gf ?_)
   refine c9 J<|aC cB ?_;rw[m];rfl
  .have h:(p:Z).tmod 2≠0:=fT h;have d:¬2∣p:=λf=>h (by have r:(p:Z).tmod 2=((p%2:I):Z):=gU p 2;omega)
   have c:p%2=1:=by have K:¬p%2=0:=λb=>d<|qH b;omega
   have g:¬p∣2:=λf=>by
    have B:p<=2:=pG A f;have C:=l.1;have v:2%p=0:=Hk f;have k:p%2≠0:=λb=>d<|qH b
    rcases(S:p=2\/p=3\/p=4\/p=5\/p=6\/p=7)with b|b|b|b|b|b<;>subst b<;>first|omega| (simp at v k c)
   refine aO J J (LQ p 2 l n c g A) J<|z J (λh=>bS)<|λ_=>bN<|aT<|rt J (hp:=ak)<|aA 1 ⟨A,λ_=>c⟩ A aM
 .subst b;refine e J<|L<|z J (λ_=>ai ?_)<|λh=>bS;refine L (q<|t<|rx J J ?_<|o J<|L<|e J (hp:=ak) ?_)
  .exact⟨Hi,Hj⟩
  refine z J (λh=>?_)<|λh=>ai ?_
  .have h:(p:Z).tmod 3=0:=eq_of_beq h;have d:3∣p:=by have r:(p:Z).tmod 3=((p%3:I):Z):=gU p 3;exact qH S
   have m:p=3:=by rcases l.wa d with b|b<;>omega
   refine e J<|bc ?_;repeat(first|refine bt ?_|refine eH ?_|refine gf ?_)
   refine c9 J<|aC cB ?_;rw[m];rfl
  .have h:(p:Z).tmod 3≠0:=fT h;have d:¬3∣p:=λf=>h (by have r:(p:Z).tmod 3=((p%3:I):Z):=gU p 3;omega)
   have c:p%2=1:=x A;have g:¬p∣3:=λf=>by
    have B:p<=3:=pG A f;have C:=l.1;have v:3%p=0:=Hk f;have k:p%3≠0:=λb=>d<|qH b
    rcases(S:p=2\/p=3\/p=4\/p=5\/p=6\/p=7)with b|b|b|b|b|b<;>subst b<;>first|omega| (simp at v k c)
   refine aO J J (LQ p 3 l n c g A) J<|z J (λh=>bS)<|λ_=>bN<|aT<|rt J (hp:=ak)<|aA 2 ⟨A,λ_=>c⟩ A aM
 .subst b;refine e J<|L<|z J (λ_=>ai ?_)<|λh=>bS;refine L (q<|t<|rx J J ?_<|o J<|L<|e J (hp:=ak) ?_)
  .exact⟨Hi,Hj⟩
  refine z J (λh=>?_)<|λh=>ai ?_
  .have h:(p:Z).tmod 5=0:=eq_of_beq h;have d:5∣p:=by have r:(p:Z).tmod 5=((p%5:I):Z):=gU p 5;exact qH S
   have m:p=5:=by rcases l.wa d with b|b<;>omega
   refine e J<|bc ?_;repeat(first|refine bt ?_|refine eH ?_|refine gf ?_)
   refine c9 J<|aC cB ?_;rw[m];rfl
  .have h:(p:Z).tmod 5≠0:=fT h;have d:¬5∣p:=λf=>h (by have r:(p:Z).tmod 5=((p%5:I):Z):=gU p 5;omega)
   have c:p%2=1:=x A;have g:¬p∣5:=λf=>by
    have B:p<=5:=pG A f;have C:=l.1;have v:5%p=0:=Hk f;have k:p%5≠0:=λb=>d<|qH b
    rcases(S:p=2\/p=3\/p=4\/p=5\/p=6\/p=7)with b|b|b|b|b|b<;>subst b<;>first|omega| (simp at v k c)
   refine aO J J (LQ p 5 l n c g A) J<|z J (λh=>bS)<|λ_=>bN<|aT<|rt J (hp:=ak)<|aA 3 ⟨A,λ_=>c⟩ A aM
 .subst b;refine e J<|L<|z J (λ_=>ai ?_)<|λh=>bS;refine L (q<|t<|rx J J ?_<|o J<|L<|e J (hp:=ak) ?_)
  .exact⟨Hi,Hj⟩
  refine z J (λh=>?_)<|λh=>ai ?_
  .have h:(p:Z).tmod 7=0:=eq_of_beq h;have d:7∣p:=by have r:(p:Z).tmod 7=((p%7:I):Z):=gU p 7;exact qH S
   have m:p=7:=by rcases l.wa d with b|b<;>omega
   refine e J<|bc ?_;repeat(first|refine bt ?_|refine eH ?_|refine gf ?_)
   refine c9 J<|aC cB ?_;rw[m];rfl
  .have h:(p:Z).tmod 7≠0:=fT h;have d:¬7∣p:=λf=>h (by have r:(p:Z).tmod 7=((p%7:I):Z):=gU p 7;omega)
   have c:p%2=1:=x A;have g:¬p∣7:=λf=>by
    have B:p<=7:=pG A f;have C:=l.1;have v:7%p=0:=Hk f;have k:p%7≠0:=λb=>d<|qH b
    rcases(S:p=2\/p=3\/p=4\/p=5\/p=6\/p=7)with b|b|b|b|b|b<;>subst b<;>first|omega| (simp at v k c)
   refine aO J J (LQ p 7 l n c g A) J<|z J (λh=>bS)<|λ_=>bN<|aT<|rt J (hp:=ak)<|aA 4 ⟨A,λ_=>c⟩ A aM
 .subst b;refine e J<|L<|z J (λh=>bS)<|λ_=>?_;exact aN<|ay<|e J<|bU J
def akv(a n p:I)(E:n<18446744073709551616)(c:0<p)(B:p<=4294967296):af j 229 [cU a,cU n,cU p] (cU<|uM a n p):=by
 refine aD Tryz.func229 ?_;have F:(p:Z)≠0:=S;refine e J<|e J (hp:=ak)<|e J (hp:=ak)<|L<|e J ?_;refine q<|aK (α:=I×I×I×I) (λx=>⟨[(2,cU p),(7,cU x.2.1),(8,cU x.2.2.1),(9,cU x.2.2.2)],[],4,[]⟩) (λx=>rN x.1 x.2.1 x.2.2.1 x.2.2.2 p=uM a n p/\x.2.2.2<2^x.1/\x.2.1<p/\x.2.2.1<p/\x.2.2.2<18446744073709551616) (λx=>x.2.2.2) (64,1%p,a%p,n) ⟨J,E,fg _ c,fg _ c,E⟩ (wk ⟨sR J,sE J ?_,sE J ?_,sR J,T⟩ T) ?_
 .exact bA<|gU 1 p
 .exact bA<|gU a p
 .rintro⟨f,r,b,m⟩ ⟨d,hm,C,i,g⟩;simp only at d hm C i g;refine L (e J<|z J (λk=>?_)<|λk=>?_)
  .have k:(m:Z)>0:=az k;cases f with
   |zero=>rw[oo]at hm;omega
   |succ f=>
    have l:m/2<2^f:=by rw[fy]at hm;omega
    rw[rN,M S]at d
    have H:(m:Z).tmod 2=((m%2:I):Z):=gU m 2
    refine ai<|L<|q<|L<|e J (hp:=ak)<|z J (λv=>?_)<|λv=>?_
    .have v:(m:Z).tmod 2=1:=eq_of_beq v;rw[s S]at d;refine rt J (hp:=ak) (ay<|rt J (hp:=ak)<|aT<|rt J (hp:=ak)<|aA (f,r*b%p,b*b%p,m/2) ⟨d,l,fg _ c,fg _ c,Lv⟩ Lw<|wk ⟨sR J,sE J ?_,sE J ?_,sE J ?_,T⟩ T)
     .exact bA<|zo r b p C i B
     .exact bA<|zo b b p i i B
     .exact bA<|rO m g
    .have v:(m:Z).tmod 2≠1:=fT v;rw[M S]at d;refine ai (rt J (hp:=ak)<|aT<|rt J (hp:=ak)<|aA (f,r,b*b%p,m/2) ⟨d,l,C,fg _ c,Lv⟩ Lw<|wk ⟨sR J,sR J,sE J ?_,sE J ?_,T⟩ T)
     .exact bA<|zo b b p i i B
     .exact bA<|rO m g
  .have k:¬(m:Z)>0:=aL k;have:m=0:=S;subst this;refine aN<|ay<|e J<|bq J ?_;rw[<-d];cases f with
   |zero=>rfl
   |succ f=>rw[rN,s J]
def Rw a p(d:0<=a/\a<p)(k:a≠0)(f:2<=p)(l:p<=2147483648):af j 154 [cU a,cU p] (.t [(ah,[.I .u64 (eQ (ad a) (ad p):I)]),(ah,[.I .i64 0])]):=by
 obtain⟨a,rfl⟩:=xK d.1;obtain⟨p,rfl⟩:=xK (S:0<=p);rw[aV,aV];refine aD Tryz.func154 ?_;have g:(p:Z)≠0:=S;refine e J<|L<|e J (hp:=ak)<|z J (λb=>?_)<|λb=>ai ?_
 .exfalso;have b:(a:Z).tmod (p:Z)=0:=eq_of_beq b;rw[gU,nK S]at b;omega
 .have i:af j 229 [cU a,.c (num .u64<|(p:Z)-2).1,cU p] (cU<|uM a (p-2) p):=by rw[show(AV.c (num .u64<|(p:Z)-2).1)=cU ((p-2:I):Z)from bA<|(wrap_u64 _ S S).trans S];exact akv a (p-2) p S S S
  exact aO J J i J<|bU J
def Hl(a:V Z)(i:I):af j 133 [N u a,D i] (cU<|Y a i 0):=by
 refine aD Tryz.func133 ?_;refine e J<|L<|e J<|z J (λh=>?_)<|λh=>ai ?_
 .have h:(i:Z)<(G a:Z):=az h;refine e J (hp:=ak)<|bc<|bt<|c9 J<|bA ?_;rw[aV]
 .have h:¬(i:Z)<(G a:Z):=aL h;refine e J<|bq J<|bA ?_;rw[aF,lG S];rfl
def md(p:Z)(a:V Z):V Z:=a.map (·%p)
def oU p a:(md p a).length=G a:=cL _
def getD_map{f:Z->Z}(b:f 0=0) a i:(a.map f).getD i 0=f (Y a i 0):=by
 rw[aF,gj,aF];cases a[i]? with
 |none=>exact b.symm
 |some x=>rfl
def Bn p a i:(md p a).getD i 0=Y a i 0%p:=getD_map (dj p) a i
def pH{p}(b:0<p) a:rp p (md p a):=λi=>by rw[Bn];exact⟨fS _ S,gA _ b⟩
def Bo{p}{a}(b:rp p a):md p a=a:=by refine lq (oU p a)<|λi d c=>?_;have:=b i;rw[aF,bD c,Aj]at this;simp only[md,og];exact gT this.1 this.2
def jK(a:V Z) i(b:i<G a):y (i+1) a=y i a++[Y a i 0]:=by rw[mM,aF,bD b];rfl
def uO(a:V Z) p(r:G a<=1000000)(l:0<p)(v:p<18446744073709551616)(m:∀i,0<=Y a i 0):af Tryz.prog 11 [N u a,cU p] (N u<|au<|md p a):=by
 refine aD Tryz.func11 ?_;have n:=oU p a;refine e J<|t<|gR u [] J J (o J<|L<|e J ?_);refine q<|aK (α:=I) (λi=>⟨[(0,N u a),(1,cU p),(5,.c<|.X 1000000),(6,D i)],[(1000000,.vec 25 u<|(md p a).take i)],3,[]⟩) (λi=>i<=G a) (λi=>G a-i) 0 (aW _) aM ?_
 .intro i x;refine L (e J<|z J (λh=>?_)<|λh=>?_)
  .have h:i<G a:=by have h:(i:Z)<(G a:Z):=az h;omega
   have B:G ((md p a).take i)=i:=bP;refine ai<|L<|q<|bs ?_;refine rl u [_] J J (hp:=ak) (ra J J J J J J J J J ?_ ?_<|o J ?_)
   .show(_+1+(_+1)/4+192)*8<=_;omega
   .show(_+1)*1<=_;omega
   refine aT<|rt J<|aA (i+1) h ka<|Wk.trans (wk (st':=⟨[(0,N u a),(1,cU p),(5,.c<|.X 4008000),(6,D ((i+1:I):Z))],[(4008000,.vec 25 u<|(md p a).take<|i+1)],8,[]⟩) (aS J) ⟨bE J ?_,T⟩)<|Wk.trans (fp 1000000 4008000 J J J) aM;refine aC (aH.vec 25 u) ?_;rw[jK _ i S,Bn,aV,oh<|m i]
  .have h:i=G a:=by have h:¬(i:Z)<(G a:Z):=aL h;omega
   subst h;refine aN<|ay<|cD 1000000 J J J ?_;generalize C:md p a=b at*;refine L<|q<|aK (α:=I) (λk=>⟨[(5,N u<|y k b)],[],10,[]⟩) (λk=>k<=G b/\gY b k=gY b (G b)) (λk=>k) (G b) ⟨a8 _,J⟩ (wk ⟨sE J ?_,T⟩ T) ?_
   .rw[iI (S:G b<=G a),eE];rfl
   rintro k ⟨E,d⟩;have f:(y k b).length=k:=bP;refine L<|t ?_;refine rg 26 J J (λh=>?_)<|λh=>?_
   .have h:0<k:=by have h:(((y k b).length:I):Z)>0:=az h;rw[f]at h;omega
    obtain⟨j,rfl⟩:∃j,k=j+1:=⟨k-1,S⟩;have g:ad (((y (j+1) b).length:Z)-1)=j:=by rw[f];omega
    have ev:(y (j+1) b).getD j 0=Y b j 0:=by rw[aF,yC S,<-aF]
    refine o J (hp:=ak)<|z J (λh2=>?_)<|λh2=>?_
    .have h2:Y b j 0=0:=by have h2:(y (j+1) b).getD (ad<|((y (j+1) b).length:Z)-1) 0=0:=eq_of_beq h2;rwa[g,ev]at h2
     refine ai<|q<|rt J (hp:=ak)<|dy<|aA j ⟨S,?_⟩ ni<|wk ⟨sE J ?_,T⟩ T
     .rw[<-d,gY,s h2]
     .rw[g];simp only[rI,Gj];rw[pj S]
    .have h2:Y b j 0≠0:=by have h2:(y (j+1) b).getD (ad<|((y (j+1) b).length:Z)-1) 0≠0:=fT h2;rwa[g,ev]at h2
     refine aN<|ay<|e J<|bq J ?_;unfold au;rw[<-d,gY,M h2]
   .have h:k=0:=by have h:¬(((y k b).length:I):Z)>0:=aL h;rw[f]at h;omega
    subst h;refine o J<|z J (λh2=>nl)<|λ_=>?_;refine aN<|ay<|e J<|bq J ?_;unfold au;rw[<-d];rfl
def uP a b p(P:G a<=1000)(Q:G b<=1000)(d:0<p)(r:p<=2147483648)(v:rp p a)(x:rp p b):af Tryz.prog 16 [N u a,N u b,cU p] (N u<|bT a b p):=by
 refine aD Tryz.func16 ?_;have k:a=[]\/b=[]->N u []=N u (bT a b p):=λh=>by rw[bT,s h]
 refine e J<|L<|t ?_;refine rg 13 J J (λh=>?_)<|λh=>?_
 .have h:a=[]:=by simpa using h
  refine o J<|z J (λh2=>?_)<|λh2=>nl;exact e J<|bc<|bt<|g8 a6 J<|a7.trans (a7.nil u)<|a7.of_eq<|k<|.inl h
 .have h:a≠[]:=by simpa using h
  refine o J<|z J (λh2=>?_)<|λh2=>?_
  .have h2:b=[]:=by simpa using h2
   exact e J<|bc<|bt<|g8 a6 J<|a7.trans (a7.nil u)<|a7.of_eq<|k<|.inr h2
  .have h2:b≠[]:=by simpa using h2
   have K:=bX.2 h;have R:=bX.2 h2;refine ai<|t ?_;refine rm u (G a+G b-1) J J J J J J (kH .u64) S ?_ ?_ ?_
   .show _*8<=_;omega
   .show _*1<=_;omega
   refine o J<|L<|e J ?_;refine q<|aK (α:=I) (λi=>⟨[(0,N u a),(1,N u b),(2,cU p),(7,.c<|.X 2006000),(8,D i)],[(2006000,.vec 25 u<|nj a b p i)],4,[]⟩) (λi=>i<=G a) (λi=>G a-i) 0 (aW _) aM ?_;intro i U;have B:=Ha a b p i;refine L<|e J<|z J (λf=>?_)<|λf=>?_
   .have f:i<G a:=by have f:(i:Z)<(G a:Z):=az f;omega
    refine ai<|L<|q<|e J ?_;refine q<|aK (α:=I) (λj=>⟨[(0,N u a),(1,N u b),(2,cU p),(7,.c<|.X 2006000),(8,D i),(9,D j)],[(2006000,.vec 25 u<|rP a b p i j<|nj a b p i)],7,[]⟩) (λj=>j<=G b) (λj=>G b-j) 0 (aW _) aM ?_;intro j W;have C:=G' a b p i (nj a b p i) j;refine L<|e J<|z J (λg=>?_)<|λg=>?_
    .have g:j<G b:=by have g:(j:Z)<(G b:Z):=az g;omega
     have E:=v i;have F:=x j;have gr:=Ly d (a:=a) (b:=b) i (Hb a b d i) j<|i+j;have l:ad ((i:Z)+(j:Z))=i+j:=S;refine ai<|L<|q<|rt J (hp:=ak) ?_;refine aT<|rt J<|aA (j+1) g Hd<|wk (aS J) ⟨bE J ?_,T⟩;refine aC (aH.vec 25 u) ?_;rw[rP,l,<-Rj _ _ _ p gr E F r];rfl
    .have g:j=G b:=by have g:¬(j:Z)<(G b:Z):=aL g;omega
     subst g;exact aN<|aT<|rt J<|aA (i+1) f ka<|wk (aS J) ⟨bE J J,T⟩
   .have f:i=G a:=by have f:¬(i:Z)<(G a:Z):=aL f;omega
    subst f;have m:=Hb a b d<|G a;have n:=uO (nj a b p<|G a) p S d S<|λi=>(m i).1;rw[Bo m]at n;refine aN<|ay<|cD 2006000 J J J<|aO J J n J<|bq J ?_;rw[bT,M<|λH=>H.elim h h2]
def hZ(a b:V Z)(p:Z):V Z:=(List.range<|max (G a)<|G b).map λi=>(Y a i 0+p-Y b i 0)%p
def LR a b p:G (hZ a b p)=max (G a) (G b):=by simp[hZ]
def Bp{p}(c:0<p) a b:rp p (hZ a b p):=λi=>by
 unfold hZ;rw[aF,gj];by_cases h:i<max (G a) (G b)
 .rw[jW h];exact⟨fS _ S,gA _ c⟩
 .rw[lG bP];exact⟨gk _,c⟩
def Hm a b p(H:G a<=1000)(P:G b<=1000)(l:0<p)(Q:p<=2147483648)(v:rp p a)(x:rp p b):af j 71 [N u a,N u b,cU p] (N u<|au<|hZ a b p):=by
 refine aD Tryz.func71 ?_;generalize hM:max (G a) (G b)=M;have E:M<=1000:=S;let d:=(List.range M).map λi=>Y a i 0+p-Y b i 0
 have K:G d=M:=by simp[d]
 have f:∀i,i<M->Y d i 0=Y a i 0+p-Y b i 0:=λi B=>by simp only[d];rw[aF,gj,jW B];rfl
 have m:md p d=hZ a b p:=by simp only[d,md,hZ,LS,hM];rfl
 have n:∀i,0<=Y d i 0:=λi=>by
  by_cases h:i<M
  .rw[f i h];have F:=v i;have h2:=x i;omega
  .rw[aF,lG S];exact gk _
 clear_value d;refine e J<|t<|gR u [] J J (o J<|L<|e J ?_);refine q<|aK (α:=I) (λi=>⟨[(0,N u a),(1,N u b),(2,cU p),(7,.c<|.X 1000000),(8,D i)],[(1000000,.vec 25 u<|y i d)],3,[]⟩) (λi=>i<=M) (λi=>M-i) 0 (aW _) aM ?_;intro i B;have R:(y i d).length=i:=bP;by_cases g:i<M
 .refine oq ⟨[(0,N u a),(1,N u b),(2,cU p),(7,.c<|.X 1000000),(8,D i)],[(1000000,.vec 25 u<|y i d)],4,[]⟩ ?_ (λk=>t<|rg 14 J J (λh=>o J<|z J (λ_=>bN<|fH k aM)<|λh2=>nl)<|λh=>o J<|z J (λ_=>bN<|fH k aM)<|λh2=>?_)
  .have F:=v i;have h2:=x i;refine L<|q<|bs ?_;refine rc J J (Hl a i)<|rc J J (Hl b i) ?_;refine rl u [_] J J (ra J J J J J J J J J ?_ ?_<|o J ?_)
   .show(_+1+(_+1)/4+192)*8<=_;omega
   .show(_+1)*1<=_;omega
   refine aT<|rt J<|aA (i+1) g xu<|Wk.trans (wk (st':=⟨[(0,N u a),(1,N u b),(2,cU p),(7,.c<|.X 4011000),(8,D ((i+1:I):Z))],[(4011000,.vec 25 u<|y (i+1) d)],8,[]⟩) (aS J) ⟨bE J ?_,T⟩)<|Wk.trans (fp 1000000 4011000 J J J) aM;refine aC (aH.vec 25 u) ?_;rw[jK _ i S,f i g,wrap_u64 (Y a i 0+p) S S,wrap_u64 _ S S]
  .exfalso;have h:¬(i:Z)<(G a:Z):=aL h;have h2:¬(i:Z)<(G b:Z):=aL h2;omega
 .have r:i=M:=by omega
  subst r;have C:=uO d p S l S n;rw[m]at C;refine L<|t<|rg 14 J J (λh=>?_)<|λh=>?_
  .exfalso;have h:(i:Z)<(G a:Z):=az h;omega
  .refine o J (z J (λh2=>?_)<|λh2=>?_)
   .exfalso;have h2:(i:Z)<(G b:Z):=az h2;omega
   .rw[iI S];exact aN<|ay<|cD 1000000 J J J<|aO J J C J<|bU J
end Go.El
