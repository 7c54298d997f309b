/- Own work; no condition. -/
import Derived.Test.YtceihkmakfdcnaaGreatI8
import Derived.Test.YtceihkmakfdcnaaGreatI7
set_option linter.all false
set_option maxHeartbeats 16000000
set_option maxRecDepth 100000
open Go.El renaming rr->e,cS->S,xe->F,re->O,bA->h,cI->y,rb->w
open Go.Proofs.Tryz renaming prog->r
open Int renaming toNat->ah,natAbs->aD,mul_zero->KX,le_of_eq->afi,natAbs_mul_self->aq8
open List renaming getD->I,length->Z,take->c,range->cy,replicate->bt,getElem?_append->aqM
open Nat renaming dvd_mul_left_of_dvd->aq'
open Rat renaming add_neg_cancel->aqS,natCast_add->ae7
open _root_ renaming Nat->G,Int->V,List->E,Rat->U
namespace Go.El
open Go Go.Proofs
def aqD(a n p:G)(z:n<18446744073709551616)(d:0<p)(u:p<=4294967296):aq r 284 [cU a,cU n,cU p] (cU<|wm a n p):=by
 refine aS Tryz.func284 ?_;have A:(p:V)≠0:=Y;refine e J<|e J (hp:=aH)<|e J (hp:=aH)<|h<|e J ?_;refine aA<|bx (α:=G×G×G×G) (λx=>⟨[(2,cU p),(7,cU x.2.1),(8,cU x.2.2.1),(9,cU x.2.2.2)],[],4,[]⟩) (λx=>tq x.1 x.2.1 x.2.2.1 x.2.2.2 p=wm a n p/\x.2.2.2<2^x.1/\x.2.1<p/\x.2.2.1<p/\x.2.2.2<18446744073709551616) (λx=>x.2.2.2) (64,1%p,a%p,n) ⟨J,z,gJ _ d,gJ _ d,z⟩ (wk ⟨sR J,sE J ?_,sE J ?_,sR J,M⟩ M) ?_
 .exact bY<|nQ 1 p
 .exact bY<|nQ a p
 .rintro⟨f,v,b,m⟩ ⟨g,hm,hr,k,i⟩;simp only at g hm hr k i;refine h (e J<|F J (λl=>?_)<|λl=>?_)
  .have l:(m:V)>0:=aX l;cases f with
   |zero=>rw[pW]at hm;omega
   |succ f=>
    have s:m/2<2^f:=by rw[gK]at hm;omega
    rw[tq,j Y]at g
    have B:(m:V).tmod 2=((m%2:G):V):=nQ m 2
    refine aG<|h<|aA<|h<|e J (hp:=aH)<|F J (λt=>?_)<|λt=>?_
    .have t:(m:V).tmod 2=1:=eS t;rw[q Y]at g;refine rt J (hp:=aH) (aR<|rt J (hp:=aH)<|bU<|rt J (hp:=aH)<|a6 (f,v*b%p,b*b%p,m/2) ⟨g,s,gJ _ d,gJ _ d,Pt⟩ Pu<|wk ⟨sR J,sE J ?_,sE J ?_,sE J ?_,M⟩ M)
     .exact bY<|GW v b p hr k u
     .exact bY<|GW b b p k k u
     .exact bY<|DA m i
    .have t:(m:V).tmod 2≠1:=pa t;rw[j Y]at g;refine aG (rt J (hp:=aH)<|bU<|rt J (hp:=aH)<|a6 (f,v,b*b%p,m/2) ⟨g,s,hr,gJ _ d,Pt⟩ Pu<|wk ⟨sR J,sR J,sE J ?_,sE J ?_,M⟩ M)
     .exact bY<|GW b b p k k u
     .exact bY<|DA m i
  .have l:¬(m:V)>0:=bh l;have:m=0:=Y;subst this;refine bD<|aR<|e J<|cd J ?_;rw[<-g];cases f with
   |zero=>rfl
   |succ f=>rw[tq,q J]
def Wm a p(d:0<=a/\a<p)(k:a≠0)(f:2<=p)(l:p<=2147483648):aq r 248 [cU a,cU p] (.t [(false,[.I .u64 (jD (ah a) (ah p):G)]),(false,[.I .i64 0])]):=by
 obtain⟨a,rfl⟩:=Dy d.1;obtain⟨p,rfl⟩:=Dy (Y:0<=p);rw[cx,cx];refine aS Tryz.func248 ?_;have g:(p:V)≠0:=Y;refine e J<|h<|e J (hp:=aH)<|F J (λb=>?_)<|λb=>aG ?_
 .exfalso;have b:(a:V).tmod (p:V)=0:=eS b;rw[nQ,qK Y]at b;omega
 .have i:aq r 284 [cU a,.c (num .u64<|(p:V)-2).1,cU p] (cU<|wm a (p-2) p):=by rw[show(AV.c (num .u64<|(p:V)-2).1)=cU ((p-2:G):V)from bY<|(be _ Y Y).trans Y];exact aqD a (p-2) p Y Y Y
  exact bL J J i J<|di J
def Ky(a:E V)(i:G):aq r 285 [S au a,y i] (cU<|I a i 0):=by
 refine aS Tryz.func285 ?_;refine e J<|h<|e J<|F J (λb=>?_)<|λb=>aG ?_
 .have b:(i:V)<(Z a:V):=aX b;refine e J (hp:=aH)<|bX<|da<|fO J<|bY ?_;rw[cx]
 .have b:¬(i:V)<(Z a:V):=bh b;refine e J<|cd J<|bY ?_;rw[aO,jB Y];rfl
def md(p:V)(a:E V):E V:=a.map (·%p)
def zg p a:(md p a).length=Z a:=c7 _
def getD_map{f:V->V}(b:f 0=0) a i:I (a.map f) i 0=f (I a i 0):=by
 rw[aO,jn,aO];cases a[i]? with
 |none=>exact b.symm
 |some x=>rfl
def Kz p a i:(md p a).getD i 0=I a i 0%p:=getD_map (iH p) a i
def DF{p}(b:0<p) a:rp p (md p a):=λi=>by rw[Kz];exact⟨jq _ Y,jr _ b⟩
def KA{p}{a}(b:rp p a):md p a=a:=by refine vz (zg p a)<|λi f d=>?_;have:=b i;rw[aO,cT d,sV]at this;simp only[md,CA];exact ix this.1 this.2
def tv(a:E V) i(b:i<Z a):c (i+1) a=c i a++[I a i 0]:=by rw[uC,aO,cT b];rfl
def zh(a:E V) p(s:Z a<=1000000)(l:0<p)(t:p<18446744073709551616)(m:∀i,0<=I a i 0):aq r 203 [S au a,cU p] (S au<|aU<|md p a):=by
 refine aS Tryz.func203 ?_;have n:=zg p a;refine e J<|w<|ij au [] J J (O J<|h<|e J ?_);refine aA<|bx (α:=G) (λi=>⟨[(0,S au a),(1,cU p),(5,.c<|.X 1000000),(6,y i)],[(1000000,.vec 150 au<|(md p a).take i)],3,[]⟩) (λi=>i<=Z a) (λi=>Z a-i) 0 (bm _) aY ?_
 .intro i u;refine h (e J<|F J (λb=>?_)<|λb=>?_)
  .have b:i<Z a:=by have b:(i:V)<(Z a:V):=aX b;omega
   have v:Z ((md p a).take i)=i:=b6;refine aG<|h<|aA<|cL ?_;refine rl au [_] J J (hp:=aH) (ra J J J J J J J J J ?_ ?_<|O J ?_)
   .show(_+1+(_+1)/4+192)*8<=_;omega
   .show(_+1)*1<=_;omega
   refine bU<|rt J<|a6 (i+1) b r6<|Wk.trans (wk (st':=⟨[(0,S au a),(1,cU p),(5,.c<|.X 4008000),(6,y ((i+1:G):V))],[(4008000,.vec 150 au<|(md p a).take<|i+1)],8,[]⟩) (bP J) ⟨bE J ?_,M⟩)<|Wk.trans (iw 1000000 4008000 J J J) aY;refine bl (aC.vec 150 au) ?_;rw[tv _ i Y,Kz,cx,l7<|m i]
  .have b:i=Z a:=by have b:¬(i:V)<(Z a:V):=bh b;omega
   subst b;refine bD<|aR<|dm 1000000 J J J ?_;generalize x:md p a=L at*;refine h<|aA<|bx (α:=G) (λk=>⟨[(5,S au<|c k L)],[],10,[]⟩) (λk=>k<=Z L/\gR L k=gR L (Z L)) (λk=>k) (Z L) ⟨aN _,J⟩ (wk ⟨sE J ?_,M⟩ M) ?_
   .rw[jy (Y:Z L<=Z a),ik];rfl
   rintro k ⟨z,d⟩;have f:(c k L).length=k:=b6;refine h<|w ?_;refine rg 26 J J (λb=>?_)<|λb=>?_
   .have b:0<k:=by have b:(((c k L).length:G):V)>0:=aX b;rw[f]at b;omega
    obtain⟨j,rfl⟩:∃j,k=j+1:=⟨k-1,Y⟩;have g:ah (((c (j+1) L).length:V)-1)=j:=by rw[f];omega
    have ev:(c (j+1) L).getD j 0=I L j 0:=by rw[aO,Iw Y,<-aO]
    refine O J (hp:=aH)<|F J (λh2=>?_)<|λh2=>?_
    .have h2:I L j 0=0:=by have h2:(c (j+1) L).getD (ah<|((c (j+1) L).length:V)-1) 0=0:=eS h2;rwa[g,ev]at h2
     refine aG<|aA<|rt J (hp:=aH)<|fT<|a6 j ⟨Y,?_⟩ uD<|wk ⟨sE J ?_,M⟩ M
     .rw[<-d,gR,q h2]
     .rw[g];simp only[qx,List.take_take];rw[uk Y]
    .have h2:I L j 0≠0:=by have h2:(c (j+1) L).getD (ah<|((c (j+1) L).length:V)-1) 0≠0:=pa h2;rwa[g,ev]at h2
     refine bD<|aR<|e J<|cd J ?_;unfold aU;rw[<-d,gR,ma h2]
   .have b:k=0:=by have b:¬(((c k L).length:G):V)>0:=bh b;rw[f]at b;omega
    subst b;refine O J<|F J (λh2=>sc)<|λ_=>?_;refine bD<|aR<|e J<|cd J ?_;unfold aU;rw[<-d];rfl
def wu a b p(D:Z a<=1000)(H:Z b<=1000)(f:0<p)(t:p<=2147483648)(u:rp p a)(v:rp p b):aq r 249 [S au a,S au b,cU p] (S au<|cX a b p):=by
 refine aS Tryz.func249 ?_;have l:a=[]\/b=[]->S au []=S au (cX a b p):=λd=>by rw[cX,q d]
 refine e J<|h<|w ?_;refine rg 13 J J (λd=>?_)<|λd=>?_
 .have d:a=[]:=by simpa using d
  refine O J<|F J (λh2=>?_)<|λh2=>sc;exact e J<|bX<|da<|iZ cp J<|bq.trans (bq.nil au)<|bq.of_eq<|l<|.inl d
 .have d:a≠[]:=by simpa using d
  refine O J<|F J (λh2=>?_)<|λh2=>?_
  .have h2:b=[]:=by simpa using h2
   exact e J<|bX<|da<|iZ cp J<|bq.trans (bq.nil au)<|bq.of_eq<|l<|.inr h2
  .have h2:b≠[]:=by simpa using h2
   have K:=cR.2 d;have N:=cR.2 h2;refine aG<|w ?_;refine rm au (Z a+Z b-1) J J J J J J (nJ .u64) Y ?_ ?_ ?_
   .show _*8<=_;omega
   .show _*1<=_;omega
   refine O J<|h<|e J ?_;refine aA<|bx (α:=G) (λi=>⟨[(0,S au a),(1,S au b),(2,cU p),(7,.c<|.X 2006000),(8,y i)],[(2006000,.vec 150 au<|nR a b p i)],4,[]⟩) (λi=>i<=Z a) (λi=>Z a-i) 0 (bm _) aY ?_;intro i P;have x:=Ki a b p i;refine h<|e J<|F J (λg=>?_)<|λg=>?_
   .have g:i<Z a:=by have g:(i:V)<(Z a:V):=aX g;omega
    refine aG<|h<|aA<|e J ?_;refine aA<|bx (α:=G) (λj=>⟨[(0,S au a),(1,S au b),(2,cU p),(7,.c<|.X 2006000),(8,y i),(9,y j)],[(2006000,.vec 150 au<|tr a b p i j<|nR a b p i)],7,[]⟩) (λj=>j<=Z b) (λj=>Z b-j) 0 (bm _) aY ?_;intro j Q;have z:=Kh a b p i (nR a b p i) j;refine h<|e J<|F J (λk=>?_)<|λk=>?_
    .have k:j<Z b:=by have k:(j:V)<(Z b:V):=aX k;omega
     have A:=u i;have B:=v j;have gr:=Pw f (a:=a) (b:=b) i (Kj a b f i) j<|i+j;have m:ah ((i:V)+(j:V))=i+j:=Y;refine aG<|h<|aA<|rt J (hp:=aH) ?_;refine bU<|rt J<|a6 (j+1) k V9<|wk (bP J) ⟨bE J ?_,M⟩;refine bl (aC.vec 150 au) ?_;rw[tr,m,<-aep _ _ _ p gr A B t];rfl
    .have k:j=Z b:=by have k:¬(j:V)<(Z b:V):=bh k;omega
     subst k;exact bD<|bU<|rt J<|a6 (i+1) g r6<|wk (bP J) ⟨bE J J,M⟩
   .have g:i=Z a:=by have g:¬(i:V)<(Z a:V):=bh g;omega
    subst g;have n:=Kj a b f<|Z a;have s:=zh (nR a b p<|Z a) p Y f Y<|λi=>(n i).1;rw[KA n]at s;refine bD<|aR<|dm 2006000 J J J<|bL J J s J<|cd J ?_;rw[cX,ma<|λC=>C.elim d h2]
def gU(a b:E V)(p:V):E V:=(cy<|max (Z a)<|Z b).map λi=>(I a i 0+p-I b i 0)%p
def PI a b p:Z (gU a b p)=max (Z a) (Z b):=by simp[gU]
def DG{p}(d:0<p) a b:rp p (gU a b p):=λi=>by
 unfold gU;rw[aO,jn];by_cases h:i<max (Z a) (Z b)
 .rw[lp h];exact⟨jq _ Y,jr _ d⟩
 .rw[jB b6];exact⟨iD _,d⟩
def KB a b p(B:Z a<=1000)(D:Z b<=1000)(l:0<p)(H:p<=2147483648)(t:rp p a)(u:rp p b):aq r 252 [S au a,S au b,cU p] (S au<|aU<|gU a b p):=by
 refine aS Tryz.func252 ?_;generalize hM:max (Z a) (Z b)=M;have z:M<=1000:=Y;let L:=(cy M).map λi=>I a i 0+p-I b i 0
 have C:Z L=M:=by simp[L]
 have f:∀i,i<M->I L i 0=I a i 0+p-I b i 0:=λi v=>by simp only[L];rw[aO,jn,lp v];rfl
 have m:md p L=gU a b p:=by simp only[L,md,gU,N3,hM];rfl
 have n:∀i,0<=I L i 0:=λi=>by
  by_cases d:i<M
  .rw[f i d];have A:=t i;have h2:=u i;omega
  .rw[aO,jB Y];exact iD _
 clear_value L;refine e J<|w<|ij au [] J J (O J<|h<|e J ?_);refine aA<|bx (α:=G) (λi=>⟨[(0,S au a),(1,S au b),(2,cU p),(7,.c<|.X 1000000),(8,y i)],[(1000000,.vec 150 au<|c i L)],3,[]⟩) (λi=>i<=M) (λi=>M-i) 0 (bm _) aY ?_;intro i v;have K:(c i L).length=i:=b6;by_cases g:i<M
 .refine nP ⟨[(0,S au a),(1,S au b),(2,cU p),(7,.c<|.X 1000000),(8,y i)],[(1000000,.vec 150 au<|c i L)],4,[]⟩ ?_ (λk=>w<|rg 14 J J (λd=>O J<|F J (λ_=>dk<|fp k aY)<|λh2=>sc)<|λd=>O J<|F J (λ_=>dk<|fp k aY)<|λh2=>?_)
  .have A:=t i;have h2:=u i;refine h<|aA<|cL ?_;refine rc J J (Ky a i)<|rc J J (Ky b i) ?_;refine rl au [_] J J (ra J J J J J J J J J ?_ ?_<|O J ?_)
   .show(_+1+(_+1)/4+192)*8<=_;omega
   .show(_+1)*1<=_;omega
   refine bU<|rt J<|a6 (i+1) g yY<|Wk.trans (wk (st':=⟨[(0,S au a),(1,S au b),(2,cU p),(7,.c<|.X 4011000),(8,y ((i+1:G):V))],[(4011000,.vec 150 au<|c (i+1) L)],8,[]⟩) (bP J) ⟨bE J ?_,ll⟩)<|Wk.trans (iw 1000000 4011000 J J J) aY;refine bl (aC.vec 150 au) ?_;rw[tv _ i Y,f i g,be (I a i 0+p) Y Y,be _ Y Y]
  .exfalso;have d:¬(i:V)<(Z a:V):=bh d;have h2:¬(i:V)<(Z b:V):=bh h2;omega
 .have s:i=M:=by omega
  subst s;have x:=zh L p Y l Y n;rw[m]at x;refine h<|w<|rg 14 J J (λd=>?_)<|λd=>?_
  .exfalso;have d:(i:V)<(Z a:V):=aX d;omega
  .refine O J (F J (λh2=>?_)<|λh2=>?_)
   .exfalso;have h2:(i:V)<(Z b:V):=aX h2;omega
   .rw[jy Y];exact bD<|aR<|dm 1000000 J J J<|bL J J x J<|di J
def bJ(p:V)(a:E V):Prop:=rp p a/\can a
def aeI(a:E V):∀n i,gR a n<=i->i<n->I a i 0=0
 |0,i,_,d=>by omega
 |n+1,i,b,h2=>by
  rw[gR]at b;split at b
  .rename_i d;by_cases f:i=n
   .rw[f];exact d
   .exact aeI a n i b Y
  .omega
def KC(a:E V) n i:(c n a).getD i 0=if i<n then I a i 0 else 0:=by
 rw[aO,Iv];split
 .rw[aO]
 .rfl
def fQ(a:E V){i}(b:Z a<=i):I a i 0=0:=by rw[aO,jB b];rfl
def sd a:ps (aU a)=ps a:=PS.ext λi=>by
 rw[cM,cM,aU,KC];split
 .rfl
 .rename_i h;by_cases e:i<Z a
  .exact(aeI a (Z a) i Y e).symm
  .exact(fQ a Y).symm
def Wn{p}(b:0<p){a}(d:rp p a) n:rp p (c n a):=λi=>by
 rw[KC];split
 .exact d i
 .exact⟨iD _,b⟩
def aeJ{p}(b:0<p){a}(d:rp p a):rp p (aU a):=Wn b d _
def mh{p}(b:0<p){a}(d:rp p a):bJ p (aU a):=⟨aeJ b d,JZ a⟩
def tx{p}(a:0<p):bJ p []:=⟨λi=>by simp;exact a,.inl J⟩
def qP a:Z (aU a)<=Z a:=by unfold aU;rw[hZ];omega
def xL{a}(b:can a):aU a=a:=by
 have:gR a (Z a)=Z a:=by
  cases hl:Z a with
  |zero=>rfl
  |succ n=>
   rw[gR,j]
   rcases b with b|b
   .rw[b]at hl;cases hl
   .rw[hl]at b;exact b
 rw[aU,this,ik]
def bJ.top{p}{a}(d:bJ p a){n}(b:Z a=n+1):I a n 0%p≠0:=by
 rcases d.2 with e|e
 .rw[e]at b;cases b
 .rw[b,eD]at e;have:=d.1 n;rw[ix this.1 this.2];exact e
def bJ.len{p}{a}(b:bJ p a){n}(d:Dl p n (ps a)):Z a<=n:=by
 by_cases e:Z a<=n
 .exact e
 .obtain⟨m,f⟩:∃m,Z a=m+1:=⟨Z a-1,Y⟩;exact aJ (d m Y)<|b.top f
def PJ{p}{a b}(f:bJ p a)(g:bJ p b)(d:Cg p (ps a) (ps b)):a=b:=by have t:=f.len<|(me p b).cg d.symm;have u:=g.len<|(me p a).cg d;refine vz Y<|λi n s=>?_;have k:=d.at i;have l:=f.1 i;have m:=g.1 i;rw[cM,cM,ix l.1 l.2,ix m.1 m.2,aO,aO,cT n,cT s]at k;exact k
def aeK p a:Cg p (ps<|md p a) (ps a):=Cg.of λi=>by rw[cM,cM,Kz,nT]
def DH:ps []=0:=PS.ext λi=>by rw[cM,PS.lD];rfl
def KD{a}{k}v(b:k<Z a):ps (a.set k v)=ps a+PS.K (v-I a k 0)*PS.X k:=PS.ext λi=>by
 rw[PS.dP,PS.dL,cM,cM,we _ _ _ _ b];unfold PS.X;split
 .rename_i e;first
   | (subst e;simp;omega)
   | (rw[e];simp;omega)
 .rename_i e;rw[j (λb=>e b.symm)];omega
def KE a i:ps (c (i+1) a)=ps (c i a)+PS.K (I a i 0)*PS.X i:=PS.ext λb=>by
 rw[PS.dP,PS.dL,cM,cM,KC,KC];unfold PS.X;by_cases h:b<i
 .rw[q h,q Y,j Y];omega
 .by_cases e:b=i
  .subst e;rw[q Y,j Y,q J];omega
  .rw[j Y,j Y,j e];omega
def KF a:ps (c 0 a)=0:=by rw[GV,DH]
def PK:ps [1]=1:=PS.ext λi=>by
 cases i with
 |zero=>rfl
 |succ i=>rfl
def PL n:ps (bt n 0)=0:=PS.ext λi=>by rw[cM,PS.lD,aO,nc];split<;>rfl
def Cg.aeL{p a b}(d:a%p=b%p) A:Cg p (PS.K a*A) (PS.K b*A):=(Cg.K d).DD A
def aeM(a b:E V)(p:V)(i:G)(f:E V):∀d,i+d<=Z f->Cg p (ps<|tr a b p i d f) (ps f+PS.K (I a i 0)*PS.X i*ps (c d b))
 |0,_=>by rw[tr,KF,PS.g8,PS.fq];exact Cg.refl _ _
 |d+1,k=>by
  have g:=aeM a b p i f d Y;rw[tr,KD _ (by rw[Kh];omega),KE,PS.fE,<-PS.jR];refine g.add ?_;have e:PS.K (I a i 0)*PS.X i*(PS.K (I b d 0)*PS.X d)=PS.K (I a i 0*I b d 0)*PS.X (i+d):=by rw[PS.Bj,PS.DB];ac_rfl
  rw[e];refine Cg.aeL ?_ _;rw[zi,nT,<-zi];congr 1;omega
def aeN(a b:E V)(p:V):∀i,i<=Z a->Cg p (ps<|nR a b p i) (ps (c i a)*ps b)
 |0,_=>by rw[nR,PL,KF,PS.dw];exact Cg.refl _ _
 |i+1,g=>by have f:=aeN a b p i Y;have d:=aeM a b p i (nR a b p i) (Z b) (by rw[Ki];omega);rw[ik]at d;rw[nR,KE,PS.gh];exact d.trans<|f.GX _
def G5 a b p:Cg p (ps<|cX a b p) (ps a*ps b):=by
 unfold cX;split
 .rename_i h;rcases h with h|h
  .rw[h,DH,PS.dw];exact Cg.refl _ _
  .rw[h,DH,PS.g8];exact Cg.refl _ _
 .rw[sd];have:=aeN a b p (Z a)<|aN _;rwa[ik]at this
def oB{p}(d:0<p) a b:bJ p (cX a b p):=by
 unfold cX;split
 .exact tx d
 .exact mh d<|Kj a b d _
def xM a b p:Z (cX a b p)<=Z a+Z b-1:=by
 unfold cX;split
 .exact bm _
 .have:=qP<|nR a b p<|Z a;rwa[Ki]at this
def aeO a b p:Cg p (ps<|aU<|gU a b p) (ps a-ps b):=by
 rw[sd];refine Cg.of λi=>?_
 rw[PS.nS,cM,cM,cM,gU,aO,jn];by_cases h:i<max (Z a) (Z b)
 .rw[lp h];show((I a i 0+p-I b i 0)%p)%p=_;rw[nT,(Y:I a i 0+p-I b i 0=I a i 0-I b i 0+p),Int.add_emod_right]
 .rw[jB b6,fQ a Y,fQ b Y];rfl
def G6{p:V}{A:PS}:∀{m:G},Dl p m A->Cg p A 0\/∃d,d<m/\A d%p≠0/\Dl p (d+1) A
 |0,a=> .inl<|aqt a
 |m+1,a=>by
  by_cases b:A m%p=0
  .rcases G6 (m:=m) (A:=A) (p:=p) (λi l=>by
    by_cases g:i=m
    .rw[g];exact b
    .exact a i Y)with f|⟨d,f,h2,k⟩
   .exact .inl f
   .exact .inr ⟨d,Y,h2,k⟩
  .exact .inr ⟨m,Y,b,a⟩
def Bm{p:G}(b:eo p){A B:PS}{d a:G}(f:Dl p (d+1) A)(g:Dl p (a+1) B)(i:A d%p≠0)(k:B a%p≠0):(A*B) (d+a)%(p:V)≠0:=by rw[f.top g];exact b.oA i k
def aqE{p}(b:eo p){D B}{m n}(f:Dl p m D)(g:Dl p (n+1) B)(i:B n%p≠0)(k:Dl p n (D*B)):Cg p D 0:=by
 rcases G6 f with a|⟨d,a,h2,l⟩
 .exact a
 .exact aJ (k (d+n) Y)<|Bm b l g h2 i
def aqF{p}(s:eo p){Q a b d B}{m n}(t:Dl p (n+1) B)(u:B n%p≠0)(hQ:Dl p m Q)(f:Dl p m b)(v:Dl p n a)(g:Dl p n d)(x:Cg p (Q*B+a) (b*B+d)):Cg p Q b/\Cg p a d:=by
 have e:Cg p ((Q-b)*B) (d-a):=by
  have z:(Q-b)*B=(Q*B+a)+ -(b*B+a):=by rw[PS.eY,PS.gh,PS.neg_mul,PS.qO];have:Q*B+a+(-(b*B)+ -a)=Q*B+ -(b*B)+(a+ -a):=fF;rw[this,PS.kT,PS.fq]
  have A:d-a=(b*B+d)+ -(b*B+a):=by rw[PS.eY,PS.qO];have:b*B+d+(-(b*B)+ -a)=b*B+ -(b*B)+(d+ -a):=fF;rw[this,PS.kT,PS.im]
  rw[z,A];exact x.GX _
 have l:=aqE s (hQ.sub f) t u<|(g.sub v).cg e.symm;have i:Cg p Q b:=by
  have:=l.GX b;have k:Q-b+b=Q:=by rw[PS.eY,PS.jR,PS.aew,PS.fq]
  rwa[k,PS.im]at this
 refine⟨i,?_⟩;have C:Cg p (d-a) 0:=by have:=l.DD B;rw[PS.dw]at this;exact e.symm.trans this
 have:=C.GX a;have k:d-a+a=d:=by rw[PS.eY,PS.jR,PS.aew,PS.fq]
 rw[k,PS.im]at this;exact this.symm
def aqG{p}(b:eo p){A B}{m n}(l:Dl p m A)(s:Dl p n B)(f:Cg p (A*B) 1):Dl p 1 A:=by
 have a:¬(1:V)%(p:V)=0:=by have:=b.1;rw[ix o Y];decide
 have g:¬Cg p (A*B) 0:=λe=>a (by have:=(e.symm.trans f).at 0;rw[PS.lD,iH]at this;exact this.symm)
 rcases G6 l with t|⟨d,_,h2,i⟩
 .exact aJ (by have:=t.DD B;rwa[PS.dw]at this) g
 .rcases G6 s with u|⟨e,_,v,x⟩
  .exact aJ (by have:=u.Kt A;rwa[PS.g8]at this) g
  .have k:=Bm b i x h2 v;rw[f.at (d+e)]at k;by_cases z:d=0
   .subst z;exact i
   .exact aJ (aez (p:V) (d+e) Y) k
def aeP(b:E V)(p d:V)(i:G)(f:E V):∀a,i+a<=Z f->Cg p (ps<|wo b p d i a f) (ps f-PS.K d*PS.X i*ps (c a b))
 |0,_=>by rw[wo,KF,PS.g8,PS.eY,PS.neg_zero,PS.fq];exact Cg.refl _ _
 |a+1,l=>by
  have g:=aeP b p d i f a Y;have e:ps f-PS.K d*PS.X i*ps (c (a+1) b)=(ps f-PS.K d*PS.X i*ps (c a b))+PS.K (-(d*I b a 0))*PS.X (i+a):=by
   rw[KE,PS.fE,PS.eY,PS.qO,PS.eY,<-PS.jR];congr 1;have k:PS.K d*PS.X i*(PS.K (I b a 0)*PS.X a)=PS.K (d*I b a 0)*PS.X (i+a):=by rw[PS.Bj,PS.DB];ac_rfl
   rw[k,PS.neg_eq,<-PS.c9,<-PS.Bj];congr 2;omega
  rw[wo,KD _ (by rw[Px];omega),e];refine g.add<|Cg.aeL ?_ _;rw[zi,nT,<-zi,show∀x:V,x+(p-d)*I b a 0-x= -(d*I b a 0)+p*I b a 0 by intro x;rw[J9];omega,Pg]
structure DvI(a b:E V)(p:V)(m n k:G)(x:E V×E V):Prop where
 cg:Cg p (ps a) (ps x.1*ps b+ps x.2)
 dl:Dl p (n+(m-k)) (ps x.2)
 z:∀d,d<m-k->x.1.getD d 0=0
def aeQ{p:V}{a b:E V}{v:V}{n m:G}(A:Z b=n+1)(s:Z a=n+m)(t:I b n 0*v%p=1%p):∀k,k<=m->DvI a b p m n k (iG a b p v m n k)
 |0,_=>by
  refine⟨?_,?_,λd u=>?_⟩
  .rw[iG,PL,PS.dw,PS.im];exact Cg.refl _ _
  .rw[iG,A4,<-s];exact me p a
  .rw[iG,aO,nc];split<;>rfl
 |k+1,N=>by
  have f:=aeQ A s t k Y;have P:=Py a b p v m n k;obtain⟨i,Q⟩:∃i,m=i+(k+1):=⟨m-(k+1),Y⟩;have B:m-(k+1)=i:=Y;rw[iG,B];generalize hx:iG a b p v m n k=x at*;generalize hc:I x.2 (i+n) 0*v%p=c;have g:=aeP b p c i x.2 (Z b) Y;rw[ik]at g;have C:I x.1 i 0=0:=f.z i Y;have D:ps (x.1.set i c)=ps x.1+PS.K c*PS.X i:=by rw[KD c Y,C,Dp]
  refine⟨?_,?_,λd u=>?_⟩
  .simp only;rw[D];have l:ps x.1*ps b+ps x.2=(ps x.1+PS.K c*PS.X i)*ps b+(ps x.2-PS.K c*PS.X i*ps b):=by rw[PS.gh,PS.eY];have:ps x.1*ps b+PS.K c*PS.X i*ps b+(ps x.2+ -(PS.K c*PS.X i*ps b))=ps x.1*ps b+ps x.2+(PS.K c*PS.X i*ps b+ -(PS.K c*PS.X i*ps b)):=fF;rw[this,PS.kT,PS.fq]
   exact(f.cg.trans<|Cg.of_eq l).trans<|g.symm.aex _
  .simp only;refine Dl.cg (λd u=>?_) g.symm;rw[PS.nS,PS.c9,PS.dL,PS.kU];by_cases e:d=n+i
   .subst e;rw[q Y,(Y:n+i-i=n),cM,cM,<-hc,IK i n];generalize I x.2 (n+i) 0=y;rw[zi,sb,nT,<-sb,jP,fo v,sb,t,<-sb,oy,Int.sub_self,iH]
   .have l:=f.dl d Y;have H:=me p b (d-i) Y;rw[q Y,zi,l,sb,H,iy,iH];rfl
  .simp only;rw[we _ _ _ _ Y];split
   .omega
   .exact f.z d Y
def G7{p}(a:eo p)(b:p<=2147483648){x:V}(d:0<=x)(i:x<p)(k:x≠0):x*((jD (ah x) (ah ((p:G):V)):G):V)%(p:V)=1:=by
 obtain⟨y,rfl⟩:=Dy d;have l:=a.1;rw[cx,cx,aeE y p Y Y];have f:¬p∣y:=λg=>by have:=uG Y g;omega
 have m:=a.inv f;rw[<-fP];omega
def aqI{p}{a}{n}(f:rp p a)(g:Dl p n (ps a)):ps (c n a)=ps a:=PS.ext λi=>by
 rw[cM,cM,KC];split
 .rfl
 .have b:=g i Y;have d:=f i;rw[cM,ix d.1 d.2]at b;exact b.symm
def nh{p}(t:eo p)(f:p<=2147483648){a b}(u:rp p a)(x:bJ p b)(k:b≠[]):
  Cg p (ps a) (ps (aV a b p).1*ps b+ps (aV a b p).2)/\rp p (aV a b p).1/\rp p (aV a b p).2/\(aV a b p).2.length<=Z b-1/\(bJ p a->bJ p (aV a b p).2)/\(aV a b p).1.length=Z a-(Z b-1):=by
 have K:=t.1
 have d:(0:V)<(p:V):=Y
 obtain⟨n,l⟩:∃n,Z b=n+1:=⟨Z b-1,by have:=cR.2 k;omega⟩
 rw[aV,l,eD]
 by_cases h:Z a<=n
 .rw[q h];refine⟨?_,(tx d).1,u,h,λC=>C,?_⟩
  .rw[DH,PS.dw,PS.im];exact Cg.refl _ _
  .show 0=_;omega
 .rw[j h];obtain⟨m,z⟩:∃m,Z a=n+m:=⟨Z a-n,Y⟩;rw[z,Kk];have g:=x.1 n;have s:I b n 0≠0:=by have:=x.top l;exact λe=>this G8
  have D:=G7 t f g.1 g.2 s;generalize ((jD (ah<|I b n 0) (ah ((p:G):V)):G):V)=v at*;have A:=aeQ (p:=p) (v:=v) l z (by rw[D,ix o Y]) m<|aN _;have H:=Py a b p v m n m;have i:=Wa b v m n d u m;have B:=A.dl;rw[jA,jZ]at B;refine⟨?_,i.1,aeJ d<|Wn d i.2 n,?_,λ_=>mh d<|Wn d i.2 n,H.1⟩
  .simp only;rw[sd,aqI i.2 B];exact A.cg
  .simp only;have:=qP<|(iG a b p v m n m).2.take n;rw[hZ]at this;omega
def qQ(p:V):G->E V->E V->E V
 |0,f,_=>f
 |k+1,f,g=>if g=[]then f else qQ p k g (aV f g p).2
def mF(p:V)(a:E V):E V:=if a=[]then[]else cX a [((jD (ah<|I a (Z a-1) 0) (ah p):G):V)] p
def gV(p:V)(f g:E V):E V:=mF p<|qQ p (Z g+1) f g
def bC(p:V)(A:PS):Prop:=∃n,Dl p n A
def bC.add{p}{A B}(a:bC p A)(k:bC p B):bC p (A+B):=by let ⟨n,a⟩:=a;let ⟨m,k⟩:=k;exact⟨max n m,(a.le Y).add<|k.le Y⟩
def bC.neg{p}{A}(a:bC p A):bC p (-A):=by let ⟨n,a⟩:=a;exact⟨n,a.neg⟩
def bC.sub{p}{A B}(a:bC p A)(k:bC p B):bC p (A-B):=by rw[PS.eY];exact a.add k.neg
def bC.mul{p}{A B}(a:bC p A)(k:bC p B):bC p (A*B):=by let ⟨n,a⟩:=a;let ⟨m,k⟩:=k;exact⟨n+m,a.mul' k⟩
def bC.ps p a:bC p (ps a):=⟨_,me p a⟩
def bC.K p a:bC p (PS.K a):=⟨_,We p a⟩
def bC.zero p:bC p 0:=⟨0,aqv p 0⟩
def bC.one p:bC p 1:=⟨1,aez p⟩
def zj(p:V)(A B:PS):Prop:=∃U a,bC p U/\bC p a/\Cg p (U*A+a*B) 1
def zj.step{p}{A B Q a}(d:zj p A B)(hQ:bC p Q)(f:Cg p A (Q*B+a)):zj p B a:=by
 let ⟨U,V,b,h2,g⟩:=d;refine⟨U*Q+V,U,(b.mul hQ).add h2,b,?_⟩;have:(U*Q+V)*B+U*a=U*(Q*B+a)+V*B:=by simp only[PS.fE,PS.gh];ac_rfl
 rw[this];exact((f.symm.Kt U).GX _).trans g
def zj.aqJ{p}{A B Q a}(b:zj p B a)(hQ:bC p Q)(d:Cg p A (Q*B+a)):zj p A B:=by
 let ⟨U,V,f,h2,g⟩:=b;refine⟨V,U-V*Q,h2,f.sub<|h2.mul hQ,?_⟩;have i:V*(Q*B+a)+(U-V*Q)*B=U*B+V*a:=by rw[PS.fE,PS.eY,PS.gh,PS.neg_mul];have:V*(Q*B)+V*a+(U*B+ -(V*Q*B))=(U*B+V*a)+(V*Q*B+ -(V*Q*B)):=fF;rw[this,PS.kT,PS.fq]
 exact((d.Kt V).GX _).trans<|(Cg.of_eq i).trans g
def Wo{p:G}(l:eo p)(a:p<=2147483648):∀(k:G)(f g:E V),bJ p f->bJ p g->Z g<k->bJ p (qQ p k f g)/\(zj p (ps f) (ps g)↔Z (qQ p k f g)=1)/\Z (qQ p k f g)<=max (Z f) (Z g)
 |0,_,_,_,_,s=>by omega
 |k+1,f,g,d,hg,s=>by
  rw[qQ];have D:=l.1;split
  .rename_i e;subst e;refine⟨d,⟨λb=>?_,λz=>?_⟩,Y⟩
   .let ⟨U,C,t,H,b⟩:=b;rw[DH,PS.g8,PS.fq,PS.c8]at b;let ⟨m,t⟩:=t;have v:=d.len<|aqG l (me p f) t b;by_cases e:Z f=0
    .exfalso;have:=gA e;subst this;rw[DH,PS.dw]at b;have:=b.at 0;rw[PS.lD,iH]at this;have u:(1:V)%(p:V)=1:=ix o Y;have x:(0:V)=1%(p:V):=this;omega
    .omega
   .have v:=d.top (n:=0) Y;have u:=d.1 0;have x:I f 0 0≠0:=λe=>v G8
    have A:=G7 l a u.1 u.2 x;refine⟨PS.K ((jD (I f 0 0).toNat (ah ((p:G):V)):G):V),0,bC.K _ _,bC.zero _,?_⟩;rw[PS.dw,PS.fq];have B:ps f=PS.K (I f 0 0):=PS.ext λi=>by
     unfold PS.K;split
     .rename_i e;subst e;rfl
     .exact fQ f Y
    rw[B,<-PS.Bj,PS.Kq,fo];exact Cg.K (by rw[A,ix o Y])
  .rename_i e;let ⟨d1,d2,d3,d4,d5,d6⟩:=nh l a d.1 hg e;have z:=cR.2 e;let ⟨i1,i2,i3⟩:=Wo l a k g (aV f g p).2 hg (d5 d) Y;refine⟨i1,⟨λb=>i2.1<|b.step (bC.ps _ _) d1,λs=>(i2.2 s).aqJ (bC.ps _ _) d1⟩,Y⟩
def Wp{p}(m:eo p)(d:p<=2147483648){a}(s:bJ p a)(t:a≠[]):bJ p (mF p a)/\Z (mF p a)=Z a/\I (mF p a) (Z a-1) 0=1/\Cg p (ps<|mF p a) (ps a*PS.K ((jD (ah<|I a (Z a-1) 0) (ah ((p:G):V)):G):V))/\Cg p (ps a) (ps (mF p a)*PS.K (I a (Z a-1) 0)):=by
 have H:=m.1;obtain⟨n,u⟩:∃n,Z a=n+1:=⟨Z a-1,by have:=cR.2 t;omega⟩;have x:=s.1 n;have g:I a n 0≠0:=λe=>s.top u G8
 have z:=G7 m d x.1 x.2 g;rw[mF,j t,u,eD];generalize ((jD (ah<|I a n 0) (ah ((p:G):V)):G):V)=v at*;have k:ps [v]=PS.K v:=PS.ext λi=>by
  cases i with
  |zero=>rfl
  |succ i=>rfl
 have f:=G5 a [v] p;rw[k]at f;have A:=oB (Y:(0:V)<p) a [v];have b:(ps<|cX a [v] p) n%(p:V)=1:=by rw[f.at n,PS.c8,PS.dL,fo,cM];exact z
 have C:n<Z (cX a [v] p):=by
  by_cases e:n<Z (cX a [v] p)
  .exact e
  .rw[cM,fQ _ Y]at b;simp at b
 have l:=xM a [v] p;have D:Z (cX a [v] p)=n+1:=by simp only[iK,ug]at l;omega
 refine⟨A,D,?_,f,?_⟩
 .have B:=A.1 n;rw[cM,ix B.1 B.2]at b;exact b
 .refine Cg.symm<|(f.DD _).trans ?_;rw[PS.c9,<-PS.Bj,fo v];have:Cg p (ps a*PS.K (I a n 0*v)) (ps a*PS.K 1):=(Cg.K<|by rw[z,ix o Y]).Kt _;rw[<-PS.Kq,PS.fv]at this;exact this
def aqK{p}(b:eo p)(a:p<=2147483648){f g}(d:bJ p f)(i:bJ p g):Z (gV p f g)=1↔zj p (ps f) (ps g):=by
 let ⟨k,h2,l⟩:=Wo b a (Z g+1) f g d i<|dO _;rw[h2,gV];by_cases e:qQ p (Z g+1) f g=[]
 .rw[e,mF,q J]
 .rw[(Wp b a k e).2.1]
def aqL k l:ps (bt k 0++l)=PS.X k*ps l:=PS.ext λi=>by
 rw[PS.kU,cM,cM,aO,aqM,gQ];by_cases h:i<k
 .rw[q h,j Y,nc,q h];rfl
 .rw[j h,q Y,<-aO]
def aqN{p}(a:0<p) k{l}(b:rp p l):rp p (bt k 0++l):=λi=>by
 rw[aO,aqM,gQ];split
 .rw[nc];split<;>exact⟨iD _,a⟩
 .have:=b<|i-k;rwa[aO]at this
def aeR x:ps [x]=PS.K x:=PS.ext λi=>by
 cases i with
 |zero=>rfl
 |succ i=>rfl
def G9{p x}(a:0<=x)(b:x<p):rp p [x]:=λi=>by
 cases i with
 |zero=>exact⟨a,b⟩
 |succ i=>exact⟨iD _,(Y:(0:V)<p)⟩
structure KG(p:V)(a b:E V)(M:G)(x:E V×E V):Prop where
 c:bJ p x.1
 l:x.1.length<=a.length
 ql:x.2.length=M
 qr:rp p x.2
 cg:Cg p (ps a) (ps x.2*ps b+ps x.1)
 z:∀d,d+b.length<=x.1.length->x.2.getD d 0=0
def KG.next{p}(hp:eo p)(t:p<=2147483648){a b}{u}{d g}(i:KG p a b u (d,g))(hb:bJ p b)(H:b≠[])(hl:Z b<=Z d)(hM:Z a-Z b<u)
 {f}(N:f=I d (Z d-1) 0*((jD (ah<|I b (Z b-1) 0) (ah ((p:G):V)):G):V)%(p:V)):
  KG p a b u (aU<|gU d (bt (Z d-Z b) 0++cX [f] b p) p,g.set (Z d-Z b) f)/\Z (aU<|gU d (bt (Z d-Z b) 0++cX [f] b p) p)<Z d:=by
 have U:=hp.1
 have m:(0:V)<(p:V):=Y
 have F:=cR.2 H
 obtain⟨n,P⟩:∃n,Z b=n+1:=⟨Z b-1,Y⟩
 obtain⟨k,o⟩:∃k,Z d=k+(n+1):=⟨Z d-(n+1),Y⟩
 rw[o,P,eD,(Y:k+(n+1)-1=n+k)]at N
 rw[o,P,eD]
 have x:=hb.1 n
 have Q:I b n 0≠0:=λe=>hb.top P G8
 have J:=G7 hp t x.1 x.2 Q
 generalize ((jD (ah<|I b n 0) (ah ((p:G):V)):G):V)=v at*
 have A:0<=f/\f<p:=by rw[N];exact⟨jq _ Y,jr _ m⟩
 generalize L:bt k 0++cX [f] b p=S
 have T:Cg p (ps S) (PS.K f*PS.X k*ps b):=by rw[<-L,aqL];have s:=G5 [f] b p;rw[aeR]at s;have W:=s.Kt<|PS.X k;have e:PS.X k*(PS.K f*ps b)=PS.K f*PS.X k*ps b:=fF;rwa[e]at W
 have B:Cg p (ps<|aU<|gU d S p) (ps d-PS.K f*PS.X k*ps b):=(aeO d S p).trans<|(Cg.refl _ _).sub T
 have C:bJ p (aU<|gU d S p):=mh m<|DG m d S
 have w:Z (aU<|gU d S p)<=n+k:=by
  refine C.len<|Dl.cg (λj E=>?_) B.symm;rw[PS.nS,PS.c9,PS.dL,PS.kU];by_cases e:j=n+k
  .subst e;rw[q Y,(Y:n+k-k=n),cM,cM,N];generalize I d (n+k) 0=y;rw[zi,sb,nT,<-sb,jP,fo v,sb,J,oy,nT,Int.sub_self,iH]
  .have s:=me p d j (Y:Z d<=j);have W:=me p b (j-k) Y;rw[q Y,zi,s,sb,W,iy,iH];rfl
 have D:k<Z g:=by have O:Z d<=Z a:=i.l;have h6:Z g=u:=i.ql;omega
 have c:I g k 0=0:=i.z k (Y:k+Z b<=Z d)
 refine⟨⟨C,?_,?_,Pv i.qr _ A.1 A.2,?_,λj E=>?_⟩,Y⟩
 .have O:Z d<=Z a:=i.l;show Z (aU<|gU d S p)<=Z a;omega
 .show(g.set k f).length=u;rw[oQ];exact i.ql
 .simp only;rw[KD f D,c,Dp];have R:ps g*ps b+ps d=(ps g+PS.K f*PS.X k)*ps b+(ps d-PS.K f*PS.X k*ps b):=by rw[PS.gh,PS.eY];have:ps g*ps b+PS.K f*PS.X k*ps b+(ps d+ -(PS.K f*PS.X k*ps b))=ps g*ps b+ps d+(PS.K f*PS.X k*ps b+ -(PS.K f*PS.X k*ps b)):=fF;rw[this,PS.kT,PS.fq]
  have s:Cg p (ps a) (ps g*ps b+ps d):=i.cg;exact(s.trans<|Cg.of_eq R).trans<|B.symm.aex _
 .simp only at E⊢;rw[we _ _ _ _ D];split
  .omega
  .exact i.z j (Y:j+Z b<=Z d)
def Bn p(hp:eo p)(z:p<=2147483648) a b(la:Z a<=500)(lb:Z b<=500)(H:bJ p a)(N:bJ p b)(B:b≠[]):
  aq r 207 [S au a,S au b,cU p] (.a [.S au (aU (aV a b p).1),.S au (aV a b p).2]):=by
 refine aS Tryz.func207 ?_
 have h2:=hp.1
 have d:(0:V)<(p:V):=Y
 have hpz:(p:V)≠0:=Y
 have hl0:=cR.2 B
 have Q:=zh a p Y d Y<|λi=>(H.1 i).1
 rw[KA H.1,xL H.2]at Q
 refine rr J<|bL J J Q J<|w ?_
 obtain⟨s,hM⟩:∃s:G,max ((Z a:V)-(Z b:V)+1) 0=(s:V):=⟨ah<|max ((Z a:V)-(Z b:V)+1) 0,Y⟩
 refine rm au s J J J J J J (nJ .u64) (by rw[q J];split<;>omega) ?_ ?_<|O J ?_
 .show _*8<=_;omega
 .show _*1<=_;omega
 have a2:ah ((Z b:V)-1)=Z b-1:=Y
 have R:=N.1<|Z b-1
 have U:I b (Z b-1) 0≠0:=λe=>N.top (n:=Z b-1) Y G8
 have T:=Wm (I b (Z b-1) 0) p R U Y Y
 have C:aq r 248 [cU (I b (ah<|(Z b:V)-1) 0),cU p] (.t [(false,[.I .u64 (jD (ah<|I b (Z b-1) 0) (ah ((p:G):V)):G)]),(false,[.I .i64 0])]):=by rw[a2];exact T
 refine w<|rc J J C<|O J (hp:=aH) ?_
 generalize hv:((jD (ah<|I b (Z b-1) 0) (ah ((p:G):V)):G):V)=v
 have hvb:0<=v/\v<p:=by have:=V7 (ah<|I b (Z b-1) 0) (p-2) p Y;rw[<-hv,jD,cx];omega
 have xG:KG p a b s (a,bt s 0):=by
  refine⟨H,aN _,gQ,V8 d s,?_,λj _=>?_⟩
  .show Cg p (ps a) (ps (bt s 0)*ps b+ps a);rw[PL,PS.dw,PS.im];exact Cg.refl _ _
  .show I (bt s (0:V)) j 0=0;rw[aO,nc];split<;>rfl
 refine h<|aA<|bx (α:=E V×E V) (λx=>⟨[(1,S au b),(2,cU p),(6,.c<|.P 0 0),(7,S au x.1),(8,.c<|.X 2007000),(9,cU v)],[(0,.box 201 0 [.V (.slice none 0 0),.V<|.slice none 0 0]),(2007000,.vec 150 au x.2)],4,[]⟩) (KG p a b s) (λx=>Z x.1) (a,bt s 0) xG (wk (bP J) ⟨bE J J,bR J,M⟩) ?_
 rintro⟨g,u⟩ K
 have hc:bJ p g:=K.c
 have Ui:Z g<=Z a:=K.l
 have Ph:Z u=s:=K.ql
 refine h<|rr J<|F J (λA=>?_)<|λA=>?_
 .have A:Z b<=Z g:=by have A:(Z g:V)>=(Z b:V):=aX A;omega
  generalize hf:I g (Z g-1) 0*v%(p:V)=f;let ⟨W,o⟩:=K.next hp z N B A Y (f:=f) (by rw[hv];exact hf.symm);have L:0<=f/\f<p:=by rw[<-hf];exact⟨jq _ Y,jr _ d⟩
  have hg:=hc.1<|Z g-1;have a3:ah ((Z g:V)-1)=Z g-1:=Y;obtain⟨k,hk⟩:∃k,Z g=k+Z b:=⟨Z g-Z b,Y⟩;have ek:(Z g:V)-(Z b:V)=(k:V):=Y;rw[(Y:Z g-Z b=k)]at W o;refine aG<|aA<|rr J<|rr J (hp:=aH) ?_;refine fg (st':=⟨[(1,S au b),(2,cU p),(6,.c<|.P 0 0),(7,S au g),(8,.c<|.X 2007000),(9,cU v),(11,y k),(12,cU f)],[(0,.box 201 0 [.V (.slice none 0 0),.V<|.slice none 0 0]),(2007000,.vec 150 au u)],8,[]⟩) (wk ⟨sR J,sR J,sR J,sR J,sR J,sR J,sE J ?_,sE J ?_,M⟩<|ny J) ?_
  .exact jC ek
  .refine bY ?_;rw[a3,<-hf];exact aeq _ v p hg hvb Y
  refine rr J (hp:=aH)<|w ?_;refine rm au k J J J J J J (nJ .u64) J ?_ ?_ ?_
  .show _*8<=_;omega
  .show _*1<=_;omega
  have Ob:=wu [f] b p ax Y d Y (G9 L.1 L.2) N.1;have hpl:=xM [f] b p;simp only[iK,ug]at hpl;refine rl au [_] J J (rc J J Ob<|ra J J J J J J J J J ?_ ?_<|O J ?_)
  .show(_+_+(_+_)/4+192)*8<=_;rw[gQ];omega
  .show(_+_)*1<=_;rw[gQ];omega
  refine dm 9007000 J J J ?_;have JR:=KB g (bt k 0++cX [f] b p) p Y (by rw[iL,gQ];omega) d Y hc.1<|aqN d k (oB d _ _).1;refine cL<|rc J J JR<|O J<|fT<|a6 (aU<|gU g (bt k 0++cX [f] b p) p,u.set k f) W o<|wk (bP J) ⟨bR J,bE J ?_,M⟩;refine bl (aC.vec 150 au) ?_;rw[cx]
 .have A:Z g<Z b:=by have A:¬(Z g:V)>=(Z b:V):=bh A;omega
  have D:rp p u:=K.qr;have hcg:Cg p (ps a) (ps u*ps b+ps g):=K.cg;let ⟨d1,d2,d3,d4,d5,d6⟩:=nh hp z H.1 N B;obtain⟨n,hn⟩:∃n,Z b=n+1:=⟨Z b-1,Y⟩;let ⟨e1,e2⟩:=aqF hp (m:=max (Z u) (aV a b p).1.length) (n:=n) (hn▸me p b) (N.top hn) ((me p u).le Y) ((me p (aV a b p).1).le Y) ((me p g).le Y) ((me p (aV a b p).2).le Y)<|hcg.symm.trans d1;have f2:g=(aV a b p).2:=PJ hc (d5 H) e2;have f1:aU u=aU (aV a b p).1:=PJ (mh d D) (mh d d2) (by rw[sd,sd];exact e1);have ht:=zh u p Y d Y<|λi=>(D i).1;rw[KA D,f1]at ht;refine bD<|aR<|dm 2007000 J J J<|bL J J ht J<|cd J ?_;rw[f2];rfl
def uH p(g:eo p)(d:p<=2147483648) a b(i:Z a<=500)(k:Z b<=500)(l:bJ p a)(m:bJ p b)(f:b≠[]):
  aq r 200 [S au a,S au b,cU p] (S au (aV a b p).2):=by
 refine aS Tryz.func200 ?_
 exact e J<|bL J J (Bn p g d a b i k l m f) J<|di J
def aeS p(z:eo p)(f:p<=2147483648) a(D:Z a<=500)(m:bJ p a):
  aq r 201 [S au a,cU p] (S au<|mF p a):=by
 refine aS Tryz.func201 ?_
 have C:=z.1
 have g:(0:V)<(p:V):=Y
 refine rr J<|h<|rr J<|F J (λd=>?_)<|λd=>aG ?_
 .have d:(Z a:V)=0:=eS d;have s:a=[]:=gA Y;refine rr J<|bX<|da<|iZ cp J ?_;rw[mF,q s];exact bq.nil au
 .have d:(Z a:V)≠0:=pa d;have s:a≠[]:=λe=>d vd
  have B:ah ((Z a:V)-1)=Z a-1:=Y;have u:=m.1<|Z a-1;have x:I a (Z a-1) 0≠0:=λe=>m.top (n:=Z a-1) Y G8
  have i:=Wm (I a (Z a-1) 0) p u x Y Y;have b:aq r 248 [cU (I a (ah<|(Z a:V)-1) 0),cU p] (.t [(false,[.I .u64 (jD (ah<|I a (Z a-1) 0) (ah ((p:G):V)):G)]),(false,[.I .i64 0])]):=by rw[B];exact i
  refine w<|rc J J b (hp:=aH)<|O J ?_;have A:=Wp z f m s;generalize hv:((jD (ah<|I a (Z a-1) 0) (ah ((p:G):V)):G):V)=v at*;have k:0<=v/\v<p:=by have:=V7 (ah<|I a (Z a-1) 0) (p-2) p Y;rw[<-hv,jD,cx];omega
  have l:=wu [v] a p ax Y g Y (G9 k.1 k.2) m.1;have e:cX [v] a p=mF p a:=by refine PJ (oB g _ _) A.1<|(G5 [v] a p).trans ?_;rw[aeR,PS.c8];exact A.2.2.2.1.symm
  rw[e]at l;exact w<|rl au [_] J J (rc J J l<|O J<|di J)
def G' p(t:eo p)(d:p<=2147483648) a b(z:Z a<=500)(A:Z b<=500)(B:bJ p a)(D:bJ p b):
  aq r 171 [S au a,S au b,cU p] (S au<|gV p a b):=by
 refine aS Tryz.func171 ?_
 refine e J<|h<|aA<|bx (α:=G×E V×E V) (λx=>⟨[(0,S au x.2.1),(1,S au x.2.2),(2,cU p)],[],1,[]⟩) (λx=>qQ p x.1 x.2.1 x.2.2=qQ p (Z b+1) a b/\Z x.2.2<x.1/\bJ p x.2.1/\bJ p x.2.2/\Z x.2.1<=500/\Z x.2.2<=500) (λx=>Z x.2.2) (Z b+1,a,b) ⟨J,dO _,B,D,z,A⟩ aY ?_
 rintro⟨k,f,g⟩ ⟨l,h2,n,s,u,v⟩
 simp only at l h2 n s u v
 cases k with
 |zero=>omega
 |succ k=>
 rw[qQ]at l
 refine h<|e J<|F J (λi=>?_)<|λi=>?_
 .have m:g≠[]:=by have i:(Z g:V)>0:=aX i;intro C;rw[C]at i;simp at i
  rw[j m]at l;let ⟨d1,d2,d3,d4,d5,d6⟩:=nh t d n.1 s m;have H:=cR.2 m;exact aG<|aA<|bL J J (uH p t d f g u v n s m) J<|e J<|rt J<|fT<|a6 (k,g,(aV f g p).2) ⟨l,(Y:(aV f g p).2.length<k),s,d5 n,v,(Y:(aV f g p).2.length<=500)⟩ (Y:(aV f g p).2.length<Z g) aY
 .have m:g=[]:=by have i:¬(Z g:V)>0:=bh i;exact gA Y
  rw[q m]at l;refine bD<|aR<|bL J J (aeS p t d f u n) J<|cd J ?_;rw[gV,<-l]
def aK(n:G)(z:V):Prop:=aD z<4294967296^n
def aK.sm{n}{z}(a:aK n z)(b:n<=1099511627776):Sm z:=by
 refine bZ (Dj (k:=n) ?_) b;have:((aD z:G):V)<((4294967296^n:G):V):=by have a:aD z<4294967296^n:=a;omega
 rwa[wj]at this
def aK.le{m n}{z}(a:aK m z)(k:m<=n):aK n z:=fY a<|eU o k
def aK.mul{m n}{a b}(d:aK m a)(k:aK n b):aK (m+n) (a*b):=by unfold aK at*;rw[pX,kv];exact Ps d k
def aK.add{n}{a b}(d:aK n a)(k:aK n b):aK (n+1) (a+b):=by unfold aK at*;have:=Wq a b;rw[gK];omega
def aK.neg{n}{a}(b:aK n a):aK n (-a):=by unfold aK at*;rwa[Int.natAbs_neg]
def aK.sub{n}{a b}(d:aK n a)(k:aK n b):aK (n+1) (a-b):=by rw[V1];exact d.add k.neg
def aK.zero n:aK n 0:=by unfold aK;exact ko o
def aK.emod{n}{a m}(b:0<m)(d:aK n m):aK n (a%m):=by have f:=jq a (Y:m≠0);have g:=jr a b;unfold aK at*;omega
def aK.one{a}(b:aD a<4294967296):aK 1 a:=by unfold aK;rwa[Nat.pow_one]
def aK.pow{n:G}{a:V}(b:aK n a):∀k,aK (n*k+1) (a^k)
 |0=>by unfold aK;simp
 |k+1=>by rw[gG];exact((aK.pow b k).mul b).le (by rw[Nat.mul_succ];omega)
def aeT a b u v(g:∀i,aK u (I a i 0))(l:∀i,aK v (I b i 0)) n:∀k,k<=4294967296->aK (u+v+1) (lC (λi=>I a i 0) (λi=>I b i 0) n k):=by
 have d:∀k,aD (lC (λi=>I a i 0) (λi=>I b i 0) n k)<=k*4294967296^(u+v):=by
  intro k;induction k with
  |zero=>simp[lC]
  |succ k p=>
   have h:=(g k).mul<|l<|n-k
   unfold aK at h
   have m:=Wq (lC (λi=>I a i 0) (λi=>I b i 0) n k)<|I a k 0*I b (n-k) 0
   rw[fZ,hY]
   simp only[lC]
   omega
 intro k t;by_cases s:k=4294967296
 .subst s;unfold aK;have f:0<4294967296^(u+v):=ko o;have:∀k,aD (lC (λi=>I a i 0) (λi=>I b i 0) n k)<4294967296^(u+v)\/aD (lC (λi=>I a i 0) (λi=>I b i 0) n k)<k*4294967296^(u+v):=by
   intro k;induction k with
   |zero=>left;simp[lC];exact f
   |succ k p=>
    right
    have h:=(g k).mul<|l<|n-k
    unfold aK at h
    have m:=Wq (lC (λi=>I a i 0) (λi=>I b i 0) n k)<|I a k 0*I b (n-k) 0
    have x:=d k
    rw[fZ,hY]
    simp only[lC]
    omega
  rcases this 4294967296 with h|h
  .exact fY h<|eU o Y
  .rwa[gK,ic]
 .have h:=d k;unfold aK;have f:0<4294967296^(u+v):=ko o;have m:k*4294967296^(u+v)<4294967296*4294967296^(u+v):=V3 Y f;rw[gK,ic<|4294967296^(u+v)];omega
def aeU a b u v(D:Z a<=1000)(H:Z b<=1000)(t:u+v<=100000)(d:∀i,aK u (I a i 0))(g:∀i,aK v (I b i 0)):aq r 212 [S .z a,S .z b] (S .z<|aU<|mE a b):=by
 refine aS Tryz.func212 ?_;refine e J<|w<|ij .z [] J J (O J<|bA<|e J ?_);generalize hA:(λi=>I a i 0)=A;generalize l:(λi=>I b i 0)=B;refine aA<|bx (α:=G) (λn=>⟨[(0,S .z a),(1,S .z b),(5,.c<|.X 1000000),(6,y n)],[(1000000,.vec 42 .z<|(cy n).map<|conv A B)],3,[]⟩) (λn=>n<=Z a+Z b-1) (λn=>Z a+Z b-n) 0 (bm _) aY ?_;intro n m;refine bA<|e J ?_;refine F J (λh=>?_)<|λh=>?_
 .have h:n+1<Z a+Z b:=by have h:(n:V)+1<Z a+Z b:=eQ;omega
  refine aG<|bA<|aA<|bL J J (jO 0 o o) J<|bA<|e J ?_;refine aA<|bx (α:=G) (λk=>⟨[(0,S .z a),(1,S .z b),(5,.c<|.X 1000000),(6,y n),(7,.c<|.P 4001000 0),(8,y k)],[(4001000,.box 42 0<|av .z<|lC A B n k),(1000000,.vec 42 .z<|(cy n).map<|conv A B)],6,[]⟩) (λk=>k<=n+1) (λk=>n+1-k) 0 (bm _) (wk (bP J) ⟨bE J J,bR J,M⟩) ?_;intro k p;refine bA<|e J ?_;refine F J (λh2=>?_)<|λh2=>?_
  .have h2:k<=n:=by have h2:(k:V)<=n:=rK;omega
   have s:=aeT a b u v d g n k Y;rw[hA,l]at s;refine aG<|bA<|aA<|cL ?_;refine rc J J (J7 a k) ?_;refine rc J J (f:=256) (r:=aZ<|I b (n-k) 0) (by have:=J7 b<|n-k;rw[(Y:((n-k:G):V)=(n:V)-(k:V))]at this;exact this) ?_;refine rc J J (mb (I a k 0) (I b (n-k) 0) ((d k).sm Y)<|(g<|n-k).sm Y) ?_;refine rc J J (yZ (lC A B n k) (I a k 0*I b (n-k) 0) (s.sm Y)<|((d k).mul<|g<|n-k).sm Y)<|O J ?_;refine bU<|rt J<|a6 (k+1) Y (Y:n+1-(k+1)<n+1-k)<|wk ⟨sR J,sR J,sR J,sR J,sR J,sE J J,M⟩ ⟨bE J ?_,bR J,M⟩;have x:lC A B n (k+1)=lC A B n k+I a k 0*I b (n-k) 0:=by simp only[lC,<-hA,<-l]
   rw[x];rfl
  .have h2:¬k<=n:=by have h2:¬(k:V)<=n:=rK;omega
   have p:k=n+1:=Y;subst p;refine bD<|aR ?_;refine cL<|rl .z [conv A B n] J J (ra J J J J J J J J J ?_ ?_<|O J ?_)
   .show(_+1+(_+1)/4+192)*32<=_;simp only[c7,qR];omega
   .show(_+1)*2<=_;simp only[c7,qR];omega
   refine bU<|rt J<|a6 (n+1) Y (Y:Z a+Z b-(n+1)<Z a+Z b-n)<|Wk.trans (wk (st':=⟨[(0,S .z a),(1,S .z b),(5,.c<|.X 7003000),(6,y ((n+1:G):V))],[(7003000,.vec 42 .z<|(cy<|n+1).map<|conv A B)],9,[]⟩) ⟨sR J,sR J,sR J,sE J ?_,M⟩ ⟨bE J ?_,M⟩)<|Wk.trans (iw 1000000 7003000 J J J) aY
   .rfl
   .rw[Ag,fL];rfl
 .have h:¬n+1<Z a+Z b:=by have h:¬(n:V)+1<Z a+Z b:=eQ;omega
  have m:n=Z a+Z b-1:=Y;refine bD<|aR<|dm 1000000 J J J<|bL J J (OW _) J<|cd J ?_;unfold mE;rw[hA,l,<-m]
def aeV a(p:G)(d:2<=p)(g:p<=2147483648)(f:Sm a):aq r 202 [aZ a,cU p] (cU<|a%p):=by refine aS Tryz.func202 ?_;have b:=jq a (Y:(p:V)≠0);have i:=jr a (Y:(0:V)<p);refine e J<|w<|rc J J (jO p Y Y) (hp:=aH)<|rc J J (GQ a p Y f<|Sm.of Y)<|O J ?_;refine bL J J (apV (a%p) b Y) J ?_;refine e J<|cd J<|bY ?_;exact be _ b Y
def PM p a:md p (md p a)=md p a:=by unfold md;rw[N3];exact Wr λx _=>nT x p
def aeW a(p:G)(s:Z a<=1000)(d:2<=p)(l:p<=2147483648)(m:∀i,Sm (I a i 0)):aq r 172 [S .z a,cU p] (S au<|aU<|md p a):=by
 refine aS Tryz.func172 ?_;have n:=zg p a;have f:=DF (Y:(0:V)<(p:V)) a;have k:=zh (md p a) p Y Y Y<|λi=>(f i).1;rw[PM]at k;refine e J<|w<|ij au [] J J (O J<|h<|e J ?_);refine aA<|bx (α:=G) (λi=>⟨[(0,S .z a),(1,cU p),(5,.c<|.X 1000000),(6,y i)],[(1000000,.vec 150 au<|(md p a).take i)],3,[]⟩) (λi=>i<=Z a) (λi=>Z a-i) 0 (bm _) aY ?_;intro i t;have u:Z ((md p a).take i)=i:=b6;refine h<|e J<|F J (λb=>?_)<|λb=>?_
 .have b:i<Z a:=by have b:(i:V)<(Z a:V):=aX b;omega
  have g:aq r 202 [.a (av .z<|I a (ah<|(i:V)) 0),cU p] (cU<|I a i 0%p):=by rw[cx];exact aeV (I a i 0) p d l<|m i
  refine aG<|h<|aA<|cL<|rc J J g (hp:=aH) ?_;refine rl au [_] J J (ra J J J J J J J J J ?_ ?_<|O J ?_)
  .show(_+1+(_+1)/4+192)*8<=_;omega
  .show(_+1)*1<=_;omega
  refine bU<|rt J<|a6 (i+1) b r6<|Wk.trans (wk (st':=⟨[(0,S .z a),(1,cU p),(5,.c<|.X 4008000),(6,y ((i+1:G):V))],[(4008000,.vec 150 au<|(md p a).take<|i+1)],8,[]⟩) (bP J) ⟨bE J ?_,M⟩)<|Wk.trans (iw 1000000 4008000 J J J) aY;refine bl (aC.vec 150 au) ?_;rw[tv _ i Y,Kz]
 .have b:i=Z a:=by have b:¬(i:V)<(Z a:V):=bh b;omega
  subst b;rw[jy Y];exact bD<|aR<|dm 1000000 J J J<|bL J J k J<|di J
def aeX(a:E V){X:G}(b:∀i,aD (I a i 0)<=X):∀i,nf a i<=i*X
 |0=>by simp[nf]
 |i+1=>by have:=aeX a b i;have:=b i;rw[nf,fZ];omega
def aeY a{b}(d:∀i,aK b (I a i 0)){i}(f:i<=13):aK (b+1) ((nf a i:G):V):=by unfold aK at*;have g:=aeX a (λi=>Di<|d i) i;have k:=eB (4294967296^b) f;have l:=ko (n:=b) (o:0<4294967296);rw[pe,gK];omega
def sq(f:G->U):G->U
 |0=>0
 |k+1=>sq f k+f k
def wy{f g:G->U}:∀{k:G},(∀i,i<k->f i=g i)->sq f k=sq g k
 |0,_=>rfl
 |k+1,a=>by rw[sq,sq,wy<|λi b=>a i Y,a k Y]
def PN{f:G->U}{k}(a:∀i,i<k->f i=0):sq f k=0:=by
 induction k with
 |zero=>rfl
 |succ k b=>rw[sq,b<|λi d=>a i Y,a k Y,oC]
def Ws(f g:G->U):∀k,sq (λi=>f i+g i) k=sq f k+sq g k
 |0=>(oC 0).symm
 |k+1=>by simp only[sq,Ws f g k];grind
def PO(a:U)(f:G->U):∀k,sq (λi=>a*f i) k=a*sq f k
 |0=>by simp only[sq];grind
 |k+1=>by simp only[sq,PO a f k];grind
def aqR a(f:G->U) k:sq (λi=>f i*a) k=sq f k*a:=by rw[zk,<-PO];exact wy<|λi _=>zk _ _
def aeZ(f:G->U):∀k,sq f (k+1)=f 0+sq (λi=>f<|i+1) k
 |0=>by simp only[sq];grind
 |k+1=>by rw[sq,aeZ f k,sq];grind
def ae0(f:G->U):∀k,sq f k=sq (λi=>f<|k-1-i) k
 |0=>rfl
 |k+1=>by rw[sq,ae0 f k,aeZ<|λi=>f<|k+1-1-i];have:sq (λi=>f<|k+1-1-(i+1)) k=sq (λi=>f<|k-1-i) k:=wy (λi _=>by congr 1;omega);rw[this,(Y:k+1-1-0=k)];grind
def ae1(b:G->G->U):∀n,sq (λi=>sq (λa=>b i a)<|i+1) n=sq (λa=>sq (λk=>b (a+k) a)<|n-a) n
 |0=>rfl
 |n+1=>by
  rw[sq,ae1 b n];have d:sq (λa=>sq (λk=>b (a+k) a)<|n+1-a) n=sq (λa=>sq (λk=>b (a+k) a) (n-a)+b n a) n:=by refine wy<|λa f=>?_;rw[(Y:n+1-a=(n-a)+1),sq,(Y:a+(n-a)=n)]
  rw[show sq (λa=>sq (λk=>b (a+k) a)<|n+1-a) (n+1)=sq (λa=>sq (λk=>b (a+k) a)<|n+1-a) n+sq (λk=>b (n+k) n) (n+1-n)from J,d,Ws];rw[(Y:n+1-n=1),show sq (λa=>b n a) (n+1)=sq (λa=>b n a) n+b n n from J,show sq (λk=>b (n+k) n) 1=0+b (n+0) n from J,jZ];grind
def PR{f:G->U}{a:G}:∀{n:G},a<n->(∀i,i<n->i≠a->f i=0)->sq f n=f a
 |0,d,_=>by omega
 |n+1,d,b=>by
  rw[sq];by_cases g:a=n
  .subst g;rw[PN (λi k=>b i Y Y),tz]
  .rw[PR (n:=n) Y (λi k=>b i Y),b n Y Y,oC]
def cvq(A B:G->U)(n:G):U:=sq (λi=>A i*B (n-i))<|n+1
structure Rx where
 v:G->U
 fin:∃n,∀i,n<=i->v i=0
namespace Rx
instance:CoeFun Rx (λ_=>G->U):=⟨λA=>A.v⟩
def ext{A B:Rx}(a:∀i,A i=B i):A=B:=by cases A;cases B;have e:=funext a;simp only at e;subst e;rfl
def ae3{A B:G->U}{m n}(a:∀i,m<=i->A i=0)(b:∀i,n<=i->B i=0):∀i,m+n<=i+1->cvq A B i=0:=λi d=>PN λj f=>by
 by_cases e:m<=j
 .rw[a j e,ni]
 .rw[b (i-j) Y,dU]
instance:Add Rx:=⟨λA B=>⟨λi=>A i+B i,by obtain⟨m,a⟩:=A.2;obtain⟨n,b⟩:=B.2;exact⟨m+n,λi d=>by show A.v i+B.v i=0;rw[a i Y,b i Y,oC]⟩⟩⟩
instance:Mul Rx:=⟨λA B=>⟨cvq A.v B.v,by obtain⟨m,a⟩:=A.2;obtain⟨n,b⟩:=B.2;exact⟨m+n,λi d=>ae3 a b i Y⟩⟩⟩
instance:Neg Rx:=⟨λA=>⟨λi=> -A i,by obtain⟨m,a⟩:=A.2;exact⟨m,λi b=>by show-A.v i=0;rw[a i b,Rat.neg_zero]⟩⟩⟩
def K(a:U):Rx:=⟨λi=>if i=0 then a else 0,1,λi b=>j Y⟩
instance:_root_.Sub Rx:=⟨λx y=>x+ -y⟩
instance:OfNat Rx 0:=⟨⟨λ_=>0,0,λ_ _=>rfl⟩⟩
instance:OfNat Rx 1:=⟨K 1⟩
def dP(A B:Rx) i:(A+B) i=A i+B i:=rfl
def Ko(A:Rx) i:(-A) i= -A i:=rfl
def nS(A B:Rx) i:(A-B) i=A i-B i:=(Wt _ _).symm
def lD i:(0:Rx) i=0:=rfl
def fV(A B:Rx) n:(A*B) n=sq (λi=>A i*B (n-i)) (n+1):=rfl
def kz a i:K a i=if i=0 then a else 0:=rfl
def eF b A i:(K b*A) i=b*A i:=by rw[fV,PR (a:=0) Y<|λf _ d=>by rw[kz,j d,ni]];rfl
def js(x a:Rx):x+a=a+x:=ext λi=>Rat.add_comm _ _
def jR(x a z:Rx):x+a+z=x+(a+z):=ext λi=>Rat.add_assoc _ _ _
def c8(A B:Rx):A*B=B*A:=by
 refine ext λn=>?_
 rw[fV,fV,ae0];refine wy<|λi a=>?_;rw[zk,(Y:n-(n+1-1-i)=i)];rfl
def c9(A B C:Rx):A*B*C=A*(B*C):=by
 refine ext λn=>?_
 rw[fV,fV];have a:sq (λi=>(A*B) i*C (n-i)) (n+1)=sq (λi=>sq (λj=>A j*B (i-j)*C (n-i))<|i+1) (n+1):=wy (λi _=>by rw[fV,aqR]);rw[a,ae1<|λi j=>A j*B (i-j)*C (n-i)];refine wy<|λj b=>?_;rw[fV,<-PO,(Y:n+1-j=n-j+1)];refine wy<|λk d=>?_;rw[mG,(Y:j+k-j=k),(Y:n-(j+k)=n-j-k)]
def fE(A B C:Rx):A*(B+C)=A*B+A*C:=by
 refine ext λn=>?_
 rw[dP,fV,fV,fV,<-Ws];exact wy (λi _=>by rw[dP,KH])
def gh(x a z:Rx):(x+a)*z=x*z+a*z:=by rw[c8,fE,c8 z x,c8 z a]
def im(x:Rx):0+x=x:=ext λi=>tz _
def fq(x:Rx):x+0=x:=by rw[js,im]
def cY(x:Rx):1*x=x:=ext λi=>(eF 1 x i).trans<|ph _
def fv(x:Rx):x*1=x:=by rw[c8,cY]
def dw(x:Rx):0*x=0:=ext λn=>by rw[fV];exact PN λi _=>by rw[lD,ni]
def g8(x:Rx):x*0=0:=by rw[c8,dw]
def kT(x:Rx):x+ -x=0:=ext λi=>aqS _
def qO(x:Rx): -x+x=0:=by rw[js,kT]
def eY(x a:Rx):x-a=x+ -a:=rfl
instance:Std.Associative (α:=Rx) (·+·):=⟨jR⟩
instance:Std.Commutative (α:=Rx) (·+·):=⟨js⟩
instance:Std.Associative (α:=Rx) (·*·):=⟨c9⟩
instance:Std.Commutative (α:=Rx) (·*·):=⟨c8⟩
def DI{x a z:Rx}(b:x+a=x+z):a=z:=by have:=bl (-x+·) b;simpa only[<-jR,qO,im]using this
def lE(x a:Rx):x-a+a=x:=by rw[eY,jR,qO,fq]
def zm(x a:Rx):x+a-a=x:=by rw[eY,jR,kT,fq]
def KI{x a z:Rx}(b:x+a=z):x=z-a:=by rw[<-b,zm]
def sub_eq{x a z:Rx}(b:x=z+a):x-a=z:=by rw[b,zm]
def sub_self(x:Rx):x-x=0:=kT x
def sub_zero(x:Rx):x-0=x:=sub_eq (fq x).symm
def Bo{x a:Rx}(b:x-a=0):x=a:=by rw[<-lE x a,b,im]
def qT(x a z:Rx):(x-a)*z=x*z-a*z:=KI (by rw[<-gh,lE])
def mul_sub(x a z:Rx):x*(a-z)=x*a-x*z:=by rw[c8,qT,c8 a,c8 z]
def neg_mul(x a:Rx): -x*a= -(x*a):=DI (x:=x*a) (by rw[<-gh,kT,kT,dw])
def neg_neg(x:Rx): - -x=x:=DI (x:= -x) (by rw[kT,qO])
def neg_sub(x a:Rx): -(x-a)=a-x:=DI (x:=x-a) (by rw[kT,eY,eY];have:x+ -a+(a+ -x)=(x+ -x)+(-a+a):=fF;rw[this,kT,qO,fq])
def KJ(x a z:Rx):(x-a)+(a-z)=x-z:=by rw[eY,eY,eY];have:x+ -a+(a+ -z)=x+ -z+(-a+a):=fF;rw[this,qO,fq]
def PT(x b z a:Rx):(x+b)-(z+a)=(x-z)+(b-a):=sub_eq (by have:x-z+(b-a)+(z+a)=(x-z+z)+(b-a+a):=fF;rw[this,lE,lE])
instance:Dvd (Rx):=⟨λa b=>∃w,b=w*a⟩
def oD(a:Rx):a∣a:=⟨1,(cY a).symm⟩
def uI(a:Rx):a∣0:=⟨0,(dw a).symm⟩
def fG{a b d:Rx}(f:a∣b)(k:b∣d):a∣d:=by obtain⟨w,rfl⟩:=f;obtain⟨v,rfl⟩:=k;exact⟨v*w,(c9 v w a).symm⟩
def jd(a b:Rx):a∣b*a:=⟨b,J⟩
def nU(a b:Rx):a∣a*b:=⟨b,c8 a b⟩
def eW{a b}(f:a∣b)(d:Rx):a∣d*b:=fG f<|jd b d
def nj{a b}(f:a∣b)(d:Rx):a∣b*d:=fG f<|nU b d
def iI{a b d:Rx}(f:a∣b)(k:a∣d):a∣b+d:=by obtain⟨w,rfl⟩:=f;obtain⟨v,rfl⟩:=k;exact⟨w+v,(gh w v a).symm⟩
def dvd_neg{a b:Rx}(d:a∣b):a∣-b:=by obtain⟨w,rfl⟩:=d;exact⟨-w,(neg_mul w a).symm⟩
def dvd_sub{a b d:Rx}(f:a∣b)(k:a∣d):a∣b-d:=iI f<|dvd_neg k
def zn{a b d:Rx}(f:a∣b+d)(k:a∣b):a∣d:=by have:=dvd_sub f k;rwa[js b d,zm]at this
def ae4{a b d:Rx}(f:a∣b-d)(k:a∣d):a∣b:=by have:=iI f k;rwa[lE]at this
def oE{a b d:Rx}(f:a∣b-d):a∣d-b:=by rw[<-neg_sub];exact dvd_neg f
def mH{a b f d:Rx}(g:a∣b-f)(k:a∣f-d):a∣b-d:=by rw[<-KJ b f d];exact iI g k
def Ha{a b f d g:Rx}(i:a∣b-f)(k:a∣d-g):a∣(b+d)-(f+g):=by rw[PT];exact iI i k
def nk{a b f d g:Rx}(i:a∣b-f)(k:a∣d-g):a∣b*d-f*g:=by
 have:b*d-f*g=(b-f)*d+f*(d-g):=by rw[qT,mul_sub,KJ]
 rw[this];exact iI (nj i d)<|eW k f
def kA(a b:Rx):a∣b-b:=by rw[sub_self];exact uI a
def pk(a:Rx):G->Rx
 |0=>1
 |n+1=>pk a n*a
def se a:pk a 1=a:=cY a
def Bp(a:Rx)(m:G):∀n,pk a (m+n)=pk a m*pk a n
 |0=>(fv _).symm
 |n+1=>by rw[<-sJ,pk,pk,Bp a m n,c9]
def wz(a:Rx)(m:G):∀n,pk a (m*n)=pk (pk a m) n
 |0=>rfl
 |n+1=>by rw[Nat.mul_succ,Bp,pk,wz a m n]
def wA(a b:Rx):∀n,pk (a*b) n=pk a n*pk b n
 |0=>(cY 1).symm
 |n+1=>by rw[pk,pk,pk,wA a b n];ac_rfl
def DJ:∀n,pk (1:Rx) n=1
 |0=>rfl
 |n+1=>by rw[pk,DJ n,cY]
def X(k:G):Rx:=⟨λi=>if i=k then 1 else 0,k+1,λi a=>j Y⟩
def oF k i:X k i=if i=k then 1 else 0:=rfl
def kU k A i:(X k*A) i=if k<=i then A (i-k)else 0:=by
 rw[fV];by_cases h:k<=i
 .rw[q h,PR (a:=k) Y (λd _ b=>by rw[oF,j b,ni]),oF,q J,ph]
 .rw[j h];exact PN (λd b=>by rw[oF,j Y,ni])
def Wu:X 0=1:=rfl
def DB a k:X (a+k)=X a*X k:=ext λi=>by
 rw[kU,oF];by_cases h:a<=i
 .rw[q h,oF];by_cases h2:i=a+k
  .rw[q h2,q Y]
  .rw[j h2,j Y]
 .rw[j h,j Y]
def wq a b:K (a+b)=K a+K b:=ext λi=>by rw[dP,kz,kz,kz];split<;>grind
def dL a b:K (a*b)=K a*K b:=ext λi=>by rw[eF,kz,kz];split<;>grind
def kV:K 0=0:=ext λi=>by rw[kz,lD];split<;>rfl
def jE:K 1=1:=rfl
def Bq a:K (-a)= -K a:=DI (x:=K a) (by rw[<-wq,aqS,kV,kT])
def Wv a b:K (a-b)=K a-K b:=by rw[Wt,wq,Bq,eY]
def Ww{a b}(d:K a=K b):a=b:=bl (λA:Rx=>A 0) d
def tC{c}(a:c≠0):K c⁻¹ *K c=1:=by rw[<-dL,nV c a,jE]
def lx(a:E U):Rx:=⟨λi=>I a i 0,Z a,λi b=>by rw[aO,jB b];rfl⟩
def eG a i:lx a i=I a i 0:=rfl
def mI:lx []=0:=ext λi=>rfl
def KK a:lx [a]=K a:=ext λi=>by
 cases i with
 |zero=>rfl
 |succ i=>rfl
def zo b a:lx (b::a)=K b+X 1*lx a:=ext λi=>by
 rw[dP,kU];cases i with
 |zero=>rw[j Y];show b=K b 0+0;rw[kz,q J,oC]
 |succ i=>rw[q Y];show I a i 0=K b (i+1)+I a i 0;rw[kz,j Y,tz]
def bM(a:E U):Prop:=a=[]\/I a (Z a-1) 0≠0
def wC:bM []:= .inl J
def gk(a:E U){i}(b:Z a<=i):I a i 0=0:=by rw[aO,jB b];rfl
def bM.top{a}(b:bM a){n}(d:Z a=n+1):I a n 0≠0:=by
 rcases b with b|b
 .subst b;simp at d
 .rwa[d,eD]at b
def aqT{a b:E U}(d:Z a=Z b)(f:∀i,I a i 0=I b i 0):a=b:=by refine vz d<|λi g k=>?_;have:=f i;rwa[aO,aO,cT g,cT k]at this
def sf{a b}(f:bM a)(g:bM b)(k:lx a=lx b):a=b:=by
 have d:∀i,I a i 0=I b i 0:=λi=>bl (λA:Rx=>A i) k
 refine aqT ?_ d;rcases Sl (Z a) (Z b)with e|e|e
 .exact aJ ((d<|Z b-1).symm.trans<|gk a Y)<|g.top Y
 .exact e
 .exact aJ ((d<|Z a-1).trans<|gk b Y)<|f.top Y
def Wx(A:G->U):∀n,(∀i,n<=i->A i=0)->∃a:E U,bM a/\Z a<=n/\∀i,I a i 0=A i
 |0,b=>⟨[],wC,aN _,λi=>(b i<|bm _).symm⟩
 |n+1,b=>by
  by_cases d:A n=0
  .let ⟨a,g,h2,k⟩:=Wx A n (λi m=>by
    by_cases l:i=n
    .rw[l,d]
    .exact b i Y)
   exact⟨a,g,Y,k⟩
  .have f:∀i,I ((cy<|n+1).map A) i 0=A i:=λi=>by
    rw[aO,jn];by_cases d:i<n+1
    .rw[lp d];rfl
    .rw[jB b6];exact(b i Y).symm
   refine⟨(cy<|n+1).map A,.inr ?_,ax,f⟩;rw[f];simpa using d
def jS A:∃a,bM a/\lx a=A:=by let ⟨n,b⟩:=A.2;let ⟨a,d,_,f⟩:=Wx A.v n b;exact⟨a,d,ext f⟩
open Classical in
noncomputable def sz(A:Rx):G:=Z<|Classical.choose<|jS A
def eJ{a}(d:bM a):sz (lx a)=Z a:=by have b:=xN<|jS<|lx a;rw[sz,sf b.1 d b.2]
def pj{n}{A}(b:∀i,n<=i->A i=0):sz A<=n:=by let ⟨a,d,h2,f⟩:=Wx A.v n b;rw[<-(ext f:lx a=A),eJ d];exact h2
def jT{A}{i}(b:sz A<=i):A i=0:=by obtain⟨a,d,rfl⟩:=jS A;rw[eJ d]at b;exact gk a b
def KL{A}{n}(b:sz A=n+1):A n≠0:=by obtain⟨a,d,rfl⟩:=jS A;rw[eJ d]at b;exact d.top b
def ae5{A}{n}(a:A n≠0):n<sz A:=PU λe=>a<|jT e
def PV a:sz (lx a)<=Z a:=pj λ_ b=>gk a b
def je:sz (0:Rx)=0:=Nat.le_zero.1<|pj λ_ _=>rfl
def Hb a:sz (K a)<=1:=pj λi b=>by rw[kz,j Y]
def Hc{A}(a:sz A=0):A=0:=ext λi=>jT Y
def fe{A}(a:A≠0):0<sz A:=by
 rcases r8 (sz A)with e|e
 .exact aJ (Hc e) a
 .exact e
def xO A B:sz (A+B)<=max (sz A) (sz B):=pj λi a=>by rw[dP,jT (A:=A) Y,jT (A:=B) Y,oC]
def Wy A:sz (-A)<=sz A:=pj λi a=>by rw[Ko,jT a];rfl
def Hd A B:sz (A-B)<=max (sz A) (sz B):=by have a:=xO A<| -B;have b:=Wy B;rw[eY];omega
def Bm{A B:Rx}{m n:G}(b:∀i,m<i->A i=0)(d:∀i,n<i->B i=0):(A*B) (m+n)=A m*B n:=by
 rw[fV,PR (a:=m) Y<|λj f g=>?_]
 .rw[(Y:m+n-m=n)]
 .by_cases e:m<j
  .rw[b j e,ni]
  .rw[d (m+n-j) Y,dU]
def pY:(1:Rx)≠0:=λe=>by
 have:(1:Rx) 0=(0:Rx) 0:=by rw[e]
 exact aJ this o
def dV{A B}(b:A≠0)(d:B≠0):sz (A*B)+1=sz A+sz B:=by
 have p:=fe b;have s:=fe d;obtain⟨m,f⟩:∃m,sz A=m+1:=⟨sz A-1,Y⟩;obtain⟨n,g⟩:∃n,sz B=n+1:=⟨sz B-1,Y⟩;have k:(A*B) (m+n)≠0:=by
  rw[Bm (λi a=>jT Y) (λi a=>jT Y)];intro e;rcases zp.1 e with e|e
  .exact KL f e
  .exact KL g e
 have t:=ae5 k;have u:sz (A*B)<=m+n+1:=pj λi a=>ae3 (A:=A.v) (B:=B.v) (m:=m+1) (n:=n+1) (λj l=>jT (A:=A) Y) (λj l=>jT (A:=B) Y) i Y
 omega
def tD{a}(b:a≠0):K a≠0:=λe=>b<|Ww<|e.trans kV.symm
def oA{A B:Rx}(a:A≠0)(b:B≠0):A*B≠0:=λe=>by have h:=dV a b;rw[e,je]at h;have d:=fe a;have f:=fe b;omega
def zq{A B C:Rx}(a:A≠0)(b:B*A=C*A):B=C:=by
 refine Bo ?_;refine eR λd=>?_
 exact oA d a (by rw[qT,b,sub_self])
def pn:sz (1:Rx)=1:=by have a:=Hb 1;have b:=fe pY;rw[jE]at a;omega
def He{A}(f:sz A=1):∃b:U,b≠0/\A=K b:=by
 obtain⟨a,d,rfl⟩:=jS A;rw[eJ d]at f;match a,f,d with
 |[b],_,d=>exact⟨b,d.top (n:=0) J,KK b⟩
def xP{A}(a:sz A=1):∃B:Rx,B*A=1:=by obtain⟨c,b,rfl⟩:=He a;exact⟨_,tC b⟩
def zr{A B}(a:B*A=1):sz A=1:=by
 have b:A≠0:=λe=>pY (by rw[<-a,e,g8])
 have d:B≠0:=λe=>pY (by rw[<-a,e,dw])
 have f:=dV d b;rw[a,pn]at f;have g:=fe b;have i:=fe d;omega
def dvd_one{A}(a:A∣1):sz A=1:=by let ⟨w,hw⟩:=a;exact zr hw.symm
def kX{A B}(d:A∣B)(a:B≠0):sz A<=sz B:=by
 obtain⟨w,rfl⟩:=d;have b:w≠0:=λe=>a KM
 have f:A≠0:=λe=>a (by rw[e,g8])
 have g:=dV b f;have pw:=fe b;omega
def uJ{A B}(a:A∣B)(b:sz B<sz A):B=0:=
 eR λd=>by have:=kX a d;omega
def ae6{B:Rx}(b:B≠0):∀(n:G)(A:Rx),sz A<n->∃Q a,A=Q*B+a/\sz a<sz B
 |0,_,d=>by omega
 |n+1,A,d=>by
  by_cases f:sz A<sz B
  .exact⟨0,A,by rw[dw,im],f⟩
  .have t:=fe b;obtain⟨k,g⟩:∃k,sz B=k+1:=⟨sz B-1,Y⟩;obtain⟨m,u⟩:∃m,sz A=m+k+1:=⟨sz A-k-1,Y⟩;have l:sz (A-K (A (m+k)*(B k)⁻¹)*(X m*B))<n:=by
    have:sz (A-K (A (m+k)*(B k)⁻¹)*(X m*B))<=m+k:=pj λi v=>by
     rw[nS,eF,kU,q (Y:m<=i)];by_cases p:i=m+k
     .rw[p,(Y:m+k-m=k),mG,nV _<|KL g,lF];grind
     .rw[jT (A:=A) (i:=i) Y,jT (A:=B) (i:=i-m) Y];grind
    omega
   let ⟨Q,a,h2,s⟩:=ae6 b n _ l;refine⟨K (A (m+k)*(B k)⁻¹)*X m+Q,a,?_,s⟩;rw[gh,jR,<-h2,c9,js,lE]
def PW A{B}(b:B≠0):∃Q a,A=Q*B+a/\sz a<sz B:=ae6 b _ A<|dO _
def DK:∀(n:G)(A B:Rx),sz B<n->∃D b a,D∣A/\D∣B/\D=b*A+a*B
 |0,_,_,k=>by omega
 |n+1,A,B,k=>by
  by_cases f:B=0
  .subst f;exact⟨A,1,0,oD A,uI A,by rw[cY,g8,fq]⟩
  .let ⟨Q,d,g,h2⟩:=PW A f;let ⟨D,b,a,i,l,m⟩:=DK n B d Y;refine⟨D,a,b-a*Q,?_,i,?_⟩
   .rw[g];exact iI (eW i Q) l
   .rw[m,g,fE,qT];have:a*(Q*B)+a*d+(b*B-a*Q*B)=(b*B-a*Q*B+a*Q*B)+a*d:=fF;rw[this,lE]
def Co(A B:Rx):Prop:=∃U V,U*A+V*B=1
def Co.symm{A B}(a:Co A B):Co B A:=by let ⟨U,V,a⟩:=a;exact⟨V,U,by rw[js];exact a⟩
def Co.dvd{A B C}(a:Co A B)(k:A∣B*C):A∣C:=by
 let ⟨U,V,a⟩:=a;have:C=C*U*A+V*(B*C):=by have b:C*(U*A)+C*(V*B)=C*U*A+V*(B*C):=fF;rw[<-b,<-fE,a,fv]
 rw[this];exact iI (jd A _)<|eW k V
def bw(Q:Rx):Prop:=2<=sz Q/\∀A B,Q=A*B->sz A=1\/sz B=1
def bw.ne{Q}(a:bw Q):Q≠0:=λe=>by have:=a.1;rw[e,je]at this;omega
def bw.or{Q}(b:bw Q) A:Q∣A\/Co Q A:=by
 let ⟨D,U,V,d,h2,f⟩:=DK _ Q A<|dO _;let ⟨w,hw⟩:=d;rcases b.2 _ _ hw with e|e
 .let ⟨B,a⟩:=xP e;left;refine fG ⟨B,?_⟩ h2;rw[hw,<-c9,a,cY]
 .let ⟨B,a⟩:=xP e;right;refine⟨B*U,B*V,?_⟩;rw[<-a,f,fE,c9,c9]
def bw.zs{Q}(a:bw Q):¬Q∣1:=λe=>by have:=dvd_one e;have:=a.1;omega
def bw.nW{Q}(a:bw Q){A B}(k:Q∣A*B):Q∣A\/Q∣B:=by
 rcases a.or A with e|e
 .exact .inl e
 .exact .inr<|e.dvd k
def uK:∀(n:G)(A:Rx),sz A<n->2<=sz A->∃Q,bw Q/\Q∣A
 |0,_,k,_=>by omega
 |n+1,A,k,h2=>by
  by_cases b:bw A
  .exact⟨A,b,oD A⟩
  .have:∃B C,A=B*C/\¬(sz B=1\/sz C=1):=eR λl=>b ⟨h2,λB C e=>eR λd=>l ⟨B,C,e,d⟩⟩
   let ⟨B,C,e,d⟩:=this;have f:A≠0:=λe=>by rw[e,je]at h2;omega
   have g:B≠0:=λa=>f (by rw[e,a,dw])
   have i:C≠0:=λa=>f (by rw[e,a,g8])
   have m:=dV g i;rw[<-e]at m;have s:=fe g;have t:=fe i;let ⟨Q,hQ,p⟩:=uK n B Y Y;exact⟨Q,hQ,by rw[e];exact nj p C⟩
def Hf{A B}(d:A≠0)(f:∀Q,bw Q->Q∣A->Q∣B->False):Co A B:=by
 let ⟨D,U,V,a,h2,g⟩:=DK _ A B<|dO _;have i:D≠0:=λe=>by let ⟨w,hw⟩:=a;rw[e,g8]at hw;exact d hw
 have l:=fe i;by_cases e:sz D=1
 .let ⟨C,k⟩:=xP e;refine⟨C*U,C*V,?_⟩;rw[<-k,g,fE,c9,c9]
 .let ⟨Q,hQ,b⟩:=uK _ D (dO _) Y;exact(f Q hQ (fG b a)<|fG b h2).elim
end Rx
namespace Rx
def zt{A B C D:Rx}(a:A∣B)(k:C∣D):A*C∣B*D:=by obtain⟨w,rfl⟩:=a;obtain⟨v,rfl⟩:=k;exact⟨w*v,fF⟩
def wD{a}(b:a≠0):sz (K a)=1:=zr<|tC b
def aqU{A B}{a}(b:a≠0)(d:A∣K a*B):A∣B:=by
 have e:B=K a⁻¹ *(K a*B):=by rw[<-c9,tC b,cY]
 rw[e];exact eW d _
def bG(A:Rx):Rx:=⟨λi=>((i+1:G):U)*A (i+1),by let ⟨n,h⟩:=A.2;exact⟨n,λi a=>by rw[h (i+1) Y,dU]⟩⟩
def si A i:bG A i=((i+1:G):U)*A (i+1):=rfl
def KN x a:bG (x+a)=bG x+bG a:=ext λi=>by rw[si,dP,dP,KH];rfl
def Hg a:bG (K a)=0:=ext λi=>by rw[si,kz,j Y,dU];rfl
def Wz:bG 0=0:=by rw[<-kV,Hg,kV]
def aqV:bG 1=0:=Hg 1
def Hh a x:bG (K a*x)=K a*bG x:=ext λi=>by rw[si,eF,eF,si];grind
def KO x:bG (X 1*x)=x+X 1*bG x:=ext λi=>by
 rw[si,kU,dP,kU,q Y,eD];cases i with
 |zero=>rw[j Y,oC];exact ph _
 |succ i=>
  rw[q Y,eD,si,ae7 (i+1) 1]
  grind
def KP(B:Rx):∀a:E U,bG (lx a*B)=bG (lx a)*B+lx a*bG B
 |[]=>by rw[mI,dw,Wz,dw,dw,im]
 |d::a=>by have b:=KP B a;rw[zo,gh,KN,Hh,c9,KO,b,KN,Hg,im,KO];simp only[gh,fE];ac_rfl
def xQ A B:bG (A*B)=bG A*B+A*bG B:=by obtain⟨a,_,rfl⟩:=jS A;exact KP B a
def KQ(Q:Rx):∀a,bG (pk Q<|a+1)=pk Q a*(K ((a+1:G):U)*bG Q)
 |0=>by rw[se];show bG Q=1*(K 1*bG Q);rw[jE,cY,cY]
 |a+1=>by rw[show pk Q (a+1+1)=pk Q (a+1)*Q from J,xQ,KQ Q a,ae7 (a+1) 1,wq,gh,fE];rw[show(K ((1:G):U):Rx)=1 from J,cY,show pk Q (a+1)=pk Q a*Q from J];ac_rfl
def aqW{Q}(f:2<=sz Q):bG Q≠0:=λe=>by
 obtain⟨n,b⟩:∃n,sz Q=n+1+1:=⟨sz Q-2,Y⟩;have d:=KL b;have a:bG Q n=(0:Rx) n:=by rw[e]
 rw[si,lD]at a;rcases zp.1 a with a|a
 .have:n+1=0:=by exact_mod_cast a
  omega
 .exact d a
def PX{Q}:sz (bG Q)<=sz Q-1:=pj λi a=>by rw[si,jT Y,dU]
def bw.KR{Q}(a:bw Q):¬Q∣bG Q:=λb=>by have d:=a.1;have f:=PX (Q:=Q);exact aqW d<|uJ b Y
def Mo(A:Rx):Prop:=A (sz A-1)=1
def Mo.ne{A}(a:Mo A):A≠0:=λe=>by subst e;have b:(0:U)=1:=a;exact aJ b o
def Mo.at{A}(a:Mo A){n}(b:sz A=n+1):A n=1:=by have:=a;rwa[Mo,b,eD]at this
def ae8{A B}{m n}(b:sz A=m+1)(d:sz B=n+1):(A*B) (m+n)=A m*B n:=Bm (λi a=>jT Y)<|λi a=>jT Y
def Hi{A}(a:A≠0):∃n,sz A=n+1:=⟨sz A-1,by have:=fe a;omega⟩
def Mo.mul{A B}(a:Mo A)(k:Mo B):Mo (A*B):=by let ⟨m,hm⟩:=Hi a.ne;let ⟨n,b⟩:=Hi k.ne;have d:=dV a.ne k.ne;rw[Mo,(Y:sz (A*B)-1=m+n),ae8 hm b,a.at hm,k.at b,ph]
def Mo.zu{A B}(a:Mo (A*B))(k:Mo B):Mo A:=by
 have b:A≠0:=λe=>a.ne KM
 let ⟨m,hm⟩:=Hi b;let ⟨n,d⟩:=Hi k.ne;have g:=dV b k.ne;have f:=a.at (n:=m+n) Y;rw[ae8 hm d,k.at d,lF]at f;rw[Mo,hm];exact f
def ae9:Mo 1:=by have:sz (1:Rx)=1:=pn;rw[Mo,this];rfl
def Mo.pk{A:Rx}(a:Mo A):∀n,Mo (pk A n)
 |0=>ae9
 |n+1=>(Mo.pk a n).mul a
def Mo.unit{A}(b:Mo A)(a:sz A=1):A=1:=by obtain⟨c,f,rfl⟩:=He a;have d:=b.at a;rw[show c=1 from d];rfl
def Mo.eq{A B}(a:Mo A)(k:Mo B)(b:A∣B)(f:B∣A):A=B:=by have i:=kX b k.ne;have l:=kX f a.ne;obtain⟨w,rfl⟩:=b;have d:Mo w:=k.zu a;have m:=dV d.ne a.ne;have g:w=1:=d.unit Y;rw[g,cY]
def ae'{A}(b:A≠0):∃d:U,d≠0/\Mo (K d*A):=by
 let ⟨n,g⟩:=Hi b;have f:=KL g;have a:(A n)⁻¹ ≠0:=λe=>by have:=nV _ f;rw[e,ni]at this;exact aJ this o
 refine⟨(A n)⁻¹,a,?_⟩;have i:=dV (tD a) b;rw[wD a]at i;rw[Mo,(Y:sz (K (A n)⁻¹ *A)-1=n),eF,nV _ f]
def bw.smul{Q}(h:bw Q){b}(d:b≠0):bw (K b*Q):=by
 have g:=dV (tD d) h.ne;rw[wD d]at g;refine⟨DE,λA B e=>?_⟩;have i:Q=(K b⁻¹ *A)*B:=by rw[c9,<-e,<-c9,tC d,cY]
 rcases h.2 _ _ i with f|f
 .left;have a:b⁻¹ ≠0:=λe=>by have:=nV _ d;rw[e,ni]at this;exact aJ this o
  have k:A≠0:=λl=>by rw[l,g8,je]at f;omega
  have:=dV (tD a) k;rw[wD a]at this;omega
 .exact .inr f
def bw.assoc{Q a}(b:bw Q)(k:bw a)(d:Q∣a):a∣Q:=by
 let ⟨w,hw⟩:=d;rcases k.2 _ _ hw with e|e
 .let ⟨C,f⟩:=xP e;exact⟨C,by rw[hw,<-c9,f,cY]⟩
 .have:=b.1;omega
def bw.eq{Q a}(d:bw Q)(k:bw a)(f:Mo Q)(g:Mo a)(b:Q∣a):Q=a:=f.eq g b<|d.assoc k b
def mult{Q:Rx}(hQ:bw Q):∀(n:G)(a:Rx),sz a<n->a≠0->∃e b,a=pk Q e*b/\¬Q∣b
 |0,_,b,_=>by omega
 |n+1,a,b,k=>by
  by_cases d:Q∣a
  .obtain⟨f,rfl⟩:=d;have i:f≠0:=λe=>k KM
   have m:=dV i hQ.ne;have p:=hQ.1;obtain⟨e,g,rfl,l⟩:=mult hQ n f Y i;exact⟨e+1,g,by rw[pk];ac_rfl,l⟩
  .exact⟨0,a,(cY a).symm,d⟩
def bw.pk{Q A:Rx}(a:bw Q):∀{n:G},Q∣pk A n->0<n/\Q∣A
 |0,b=>aJ b a.zs
 |n+1,b=>by
  rcases a.nW b with d|d
  .exact⟨Y,(bw.pk a d).2⟩
  .exact⟨Y,d⟩
structure FL(L:E (Rx×G)):Prop where
 gI:∀x∈L,bw x.1
 mo:∀x∈L,Mo x.1
 pos:∀x∈L,1<=x.2
 uL:L.Pairwise (λx a=>x.1≠a.1)
def FL.tail{x}{b}(a:FL (x::b)):FL b:=⟨λy hy=>a.gI y qD,λy hy=>a.mo y qD,λy hy=>a.pos y qD,(kI.1 a.uL).2⟩
def FL.WA:∀{d:E (Rx×G)},d.Pairwise (λx g=>x.1≠g.1)->∀{x z:Rx×G},x∈d->z∈d->x≠z->x.1≠z.1
 |g::d,m,x,z,hx,i,ew=>by
  let ⟨k,h2⟩:=kI.1 m;rcases b9.1 hx with l|b
  .rcases b9.1 i with f|a
   .exact aJ (l.trans f.symm) ew
   .rw[l];exact k z a
  .rcases b9.1 i with f|a
   .rw[f];exact(k x b).symm
   .exact FL.WA h2 b a ew
def pF(a:G->G):E (Rx×G)->Rx
 |[]=>1
 |x::b=>pk x.1 (a x.2)*pF a b
def DL(b d:G->G):∀a,pF (λm=>b m+d m) a=pF b a*pF d a
 |[]=>(cY 1).symm
 |x::a=>by rw[pF,pF,pF,DL b d a,Bp];ac_rfl
def zv{b d:G->G}:∀{a:E (Rx×G)},(∀x∈a,b x.2=d x.2)->pF b a=pF d a
 |[],_=>rfl
 |x::a,f=>by rw[pF,pF,f x ax,zv<|λg hy=>f g qD]
def xR{d:G->G}:∀{a:E (Rx×G)},(∀x∈a,Mo x.1)->Mo (pF d a)
 |[],_=>ae9
 |x::a,b=>((b x ax).pk _).mul<|xR λf hy=>b f qD
def PY{b:G->G}:∀{a:E (Rx×G)},(∀x∈a,b x.2=0)->pF b a=1
 |[],_=>rfl
 |x::a,d=>by rw[pF,d x ax,PY<|λf hy=>d f qD];exact cY 1
def KS{c:G->G}:∀{a:E (Rx×G)}{x:Rx×G},x∈a->0<c x.2->x.1∣pF c a
 |g::a,x,b,hc=>by
  rw[pF];rcases b9.1 b with rfl|b
  .obtain⟨d,f⟩:∃d,c x.2=d+1:=⟨c x.2-1,Y⟩;rw[f,pk];exact nj (jd _ _) _
  .exact eW (KS b hc) _
def Br{f:G->G}{Q:Rx}(hQ:bw Q):∀{a:E (Rx×G)},Q∣pF f a->∃x∈a,0<f x.2/\Q∣x.1
 |[],b=>aJ b hQ.zs
 |g::a,b=>by
  rcases hQ.nW b with d|d
  .exact⟨g,ax,hQ.pk d⟩
  .let ⟨x,h1,h2⟩:=Br hQ d;exact⟨x,zw,h2⟩
def FL.aqX{x}{b}(a:FL (x::b)){d:G->G}:¬x.1∣pF d b:=λf=>by let ⟨y,h1,h2,g⟩:=Br (a.gI x ax) f;exact(kI.1 a.uL).1 y h1<|(a.gI x ax).eq (a.gI y zw) (a.mo x ax) (a.mo y zw) g
def FL.KR{g:G->G}(l:∀m,g m<=1):∀{i:E (Rx×G)},FL i->∀{x:Rx×G},x∈i->g x.2=1->¬x.1∣bG (pF g i)
 |d::i,a,x,hx,n,f=>by
  have k:=a.gI d ax;rcases b9.1 hx with rfl|b
  .rw[pF,n,se,xQ]at f;rcases k.nW (zn ((js _ _).symm▸f)<|nU _ _)with e|e
   .exact k.KR e
   .exact a.aqX e
  .have p:=FL.KR l a.tail b n;have s:=a.gI x hx;by_cases t:g d.2=0
   .rw[pF,t]at f;exact p (by rwa[show pk d.1 0=1 from J,cY]at f)
   .have u:g d.2=1:=by have:=l d.2;omega
    rw[pF,u,se,xQ]at f;rcases s.nW (zn f<|eW (KS b Y) _)with e|e
    .exact(kI.1 a.uL).1 x b (s.eq k (a.mo x hx) (a.mo d ax) e).symm
    .exact p e
def afa:∀(n:G)(b:Rx),sz b<n->Mo b->∃m,FL m/\pF id m=b
 |0,_,B,_=>by omega
 |n+1,b,B,k=>by
  have H:=fe k.ne;by_cases e:sz b=1
  .exact⟨[],⟨ax,ax,ax,.nil⟩,(k.unit e).symm⟩
  .let ⟨Q,hQ,C⟩:=uK _ b (dO _) Y;let ⟨c,hc,hm⟩:=ae' hQ.ne;have p:=hQ.smul hc;have s:K c*Q∣b:=fG (hQ.assoc p<|jd _ _) C;generalize K c*Q=q at*;let ⟨e,g,l,u⟩:=mult p _ b (dO _) k.ne;have D:1<=e:=by
    rcases r8 e with d|d
    .subst d;rw[show pk q 0=1 from J,cY]at l;exact aJ (l▸s) u
    .exact d
   have v:Mo g:=by rw[l,c8]at k;exact k.zu<|hm.pk e
   have N:sz g<sz b:=by have z:=dV (hm.pk e).ne v.ne;rw[<-l]at z;obtain⟨f,rfl⟩:∃f,e=f+1:=⟨e-1,Y⟩;have i:=dV (hm.pk f).ne hm.ne;have t:=fe (hm.pk f).ne;have P:=p.1;rw[show pk q (f+1)=pk q f*q from J]at z;omega
   let ⟨m,i,t⟩:=afa n g Y v;refine⟨(q,e)::m,⟨?_,?_,?_,kI.2 ⟨λy A d=>?_,i.uL⟩⟩,?_⟩
   .intro x a;rcases b9.1 a with rfl|a
    .exact p
    .exact i.gI x a
   .intro x a;rcases b9.1 a with rfl|a
    .exact hm
    .exact i.mo x a
   .intro x a;rcases b9.1 a with rfl|a
    .exact D
    .exact i.pos x a
   .refine u ?_;rw[<-t];have d:q=y.1:=d;rw[d];exact KS A<|i.pos y A
   .rw[pF,t];exact l.symm
structure KT(D A B:Rx):Prop where
 mo:Mo D
 l:D∣A
 r:D∣B
 ex:∃a V,D=a*A+V*B
def kW(n:G):G->G:=λm=>if n<=m then 1 else 0
def kP(n:G):G->G:=λm=>if m=n then 1 else 0
def kG:G->G:=λm=>m-1
def afb n:∀m,kW n m<=1:=λm=>by unfold kW;split<;>omega
def KU n:∀m,kP n m<=1:=λm=>by unfold kP;split<;>omega
def PZ{n m}:kW n m=1↔n<=m:=by unfold kW;split<;>omega
def WB{n m}:kP n m=1↔m=n:=by unfold kP;split<;>omega
def WC n a:pF (kW n) a=pF (kP n) a*pF (kW<|n+1) a:=by rw[<-DL];exact zv λx _=>by unfold kW kP;split<;>split<;>split<;>omega
def WD{a}(b:FL a):pF id a=pF (kW 1) a*pF kG a:=by rw[<-DL];exact zv λx d=>by have:=b.pos x d;show x.2=kW 1 x.2+kG x.2;unfold kW kG;split<;>omega
def Yp(a:E (Rx×G))(n:G)(b:Rx):Prop:=∀x∈a,n<=x.2->x.1∣b-K ((x.2:U)-(n:U)+1)*bG (pF (kW n) a)
def afc:∀{b:E (Rx×G)},FL b->∃d,bG (pF id b)=d*pF kG b/\∀x∈b,x.1∣d-K (x.2:U)*bG (pF (kW 1) b)
 |[],_=>⟨0,by rw[dw];exact aqV,λx hx=>by simp at hx⟩
 | (a,m)::b,f=>by
  let ⟨d,k,h2⟩:=afc f.tail;have t:1<=m:=f.pos (a,m) ax;obtain⟨e,rfl⟩:∃e,m=e+1:=⟨m-1,Y⟩;have l:pF (kW 1) ((a,e+1)::b)=a*pF (kW 1) b:=by rw[pF,PZ.2 Y,se]
  have n:pF kG ((a,e+1)::b)=pk a e*pF kG b:=rfl;have p:pF id ((a,e+1)::b)=pk a e*a*pF id b:=rfl;refine⟨K ((e+1:G):U)*bG a*pF (kW 1) b+a*d,?_,?_⟩
  .rw[p,n,xQ,k,show pk a e*a=pk a (e+1)from J,KQ,WD f.tail,show pk a (e+1)=pk a e*a from J,gh];ac_rfl
  .intro x hx;rw[l,xQ];rcases b9.1 hx with rfl|hx
   .refine⟨d-K ((e+1:G):U)*bG (pF (kW 1) b),?_⟩;show K ((e+1:G):U)*bG a*pF (kW 1) b+a*d-K ((e+1:G):U)*(bG a*pF (kW 1) b+a*bG (pF (kW 1) b))=_;rw[qT];refine sub_eq ?_;rw[fE];have g:d*a-K ((e+1:G):U)*bG (pF (kW 1) b)*a+(K ((e+1:G):U)*(bG a*pF (kW 1) b)+K ((e+1:G):U)*(a*bG (pF (kW 1) b)))=(d*a-K ((e+1:G):U)*bG (pF (kW 1) b)*a+K ((e+1:G):U)*bG (pF (kW 1) b)*a)+K ((e+1:G):U)*(bG a*pF (kW 1) b):=fF;rw[g,lE];ac_rfl
   .have s:=h2 x hx;have i:x.1∣pF (kW 1) b:=KS hx (by rw[PZ.2 (f.pos x k7)];omega);rw[fE,PT];refine iI (dvd_sub (eW i _)<|eW (eW i _) _) ?_;have g:a*d-K (x.2:U)*(a*bG (pF (kW 1) b))=a*(d-K (x.2:U)*bG (pF (kW 1) b)):=by rw[mul_sub];congr 1;ac_rfl
    rw[g];exact eW s a
def xS{m:G}(a:m≠0):(m:U)≠0:=λe=>a (by exact_mod_cast e)
def aqY{a}(b:FL a){D}(l:KT D (pF id a) (bG<|pF id a)):D=pF kG a/\∃f,bG (pF id a)=f*D/\Yp a 1 f:=by
 let ⟨f,g,h2⟩:=afc b;have hE:=WD b;have i:Co (pF (kW 1) a) f:=Hf (xR b.mo).ne λQ hQ q1 m=>by let ⟨x,d,v,n⟩:=Br hQ q1;have p:=fG (hQ.assoc (b.gI x d) n) m;have s:=ae4 (oE<|h2 x d) p;exact FL.KR (afb 1) b d (PZ.2<|b.pos x d)<|aqU (xS<|by have:=b.pos x d;omega) s
 let ⟨t,u,k⟩:=i;let ⟨d1,d2,d3,z,V,d4⟩:=l;have e:D=pF kG a:=by
  refine d1.eq (xR b.mo) ?_ ?_
  .have:pF kG a=t*pF id a+u*bG (pF id a):=by rw[hE,<-hE,g,<-c9,hE,<-c9,<-gh,k,cY]
   rw[this];exact iI (eW d2 _)<|eW d3 _
  .rw[d4,g];refine iI (eW ?_ _)<|eW (jd _ _) _;rw[hE];exact jd _ _
 refine⟨e,f,by rw[e];exact g,λx d _=>?_⟩;rw[show(x.2:U)-((1:G):U)+1=(x.2:U)by show(x.2:U)-1+1=_;grind];exact h2 x d
end Rx
def bK:G->G
 |0=>1
 |n+1=>(n+1)*bK n
def KV:∀n,0<bK n
 |0=>Nat.one_pos
 |n+1=>Be (Nat.succ_pos n)<|KV n
def wE:∀i a,ch (i+a) i*(bK i*bK a)=bK (i+a)
 |0,a=>by rw[fc,tu,bK,hY,hY]
 |i+1,0=>by rw[jZ,Kw,show bK 0=1 from J,qG,hY]
 |i+1,a+1=>by
  have b:=wE i<|a+1;have d:=wE (i+1) a;rw[(Y:i+1+(a+1)=(i+(a+1))+1),ch,show bK (i+(a+1)+1)=(i+(a+1)+1)*bK (i+(a+1))from J,fZ];rw[(Y:i+(a+1)=i+1+a)]at b⊢;have f:ch (i+1+a) i*(bK (i+1)*bK (a+1))=(i+1)*bK (i+1+a):=by rw[<-b,bK];ac_rfl
  have g:ch (i+1+a) (i+1)*(bK (i+1)*bK (a+1))=(a+1)*bK (i+1+a):=by rw[<-d,show bK (a+1)=(a+1)*bK a from J];ac_rfl
  rw[f,g,<-fZ,(Y:i+1+(a+1)=i+1+a+1)]
def sN(f:G->G):G->G
 |0=>0
 |k+1=>sN f k+f k
def afd{f g:G->G}:∀{k:G},(∀i,i<k->f i=g i)->sN f k=sN g k
 |0,_=>rfl
 |k+1,a=>by rw[sN,sN,afd<|λi b=>a i Y,a k Y]
def afe(f g:G->G):∀k,sN (λi=>f i+g i) k=sN f k+sN g k
 |0=>rfl
 |k+1=>by simp only[sN,afe f g k];omega
def P0(f:G->G):∀k,sN f (k+1)=f 0+sN (λi=>f<|i+1) k
 |0=>by simp[sN]
 |k+1=>by rw[sN,P0 f k,sN];omega
def WE(f:G):∀a k,ch (a+f) k=sN (λt=>ch a t*ch f (k-t)) (k+1)
 |0,k=>by
  rw[P0,tu,hY,fc,A4];have:sN (λi=>ch 0 (i+1)*ch f (k-(i+1))) k=0:=by
   have e:∀b,sN (λi=>ch 0 (i+1)*ch f (k-(i+1))) b=0:=λb=>by
    induction b with
    |zero=>rfl
    |succ n d=>rw[sN,d,Bk 0 (n+1) Y,pM]
   exact e k
  rw[this];rfl
 |a+1,0=>by rw[tu,sN,sN,tu,tu]
 |a+1,k+1=>by
  rw[(Y:a+1+f=a+f+1),ch,WE f a k,WE f a<|k+1,P0<|λt=>ch (a+1) t*ch f (k+1-t),P0<|λt=>ch a t*ch f (k+1-t)];have e:sN (λi=>ch (a+1) (i+1)*ch f (k+1-(i+1))) (k+1)=sN (λi=>ch a i*ch f (k-i)) (k+1)+sN (λi=>ch a (i+1)*ch f (k+1-(i+1))) (k+1):=by
   rw[<-afe];refine afd λi _=>?_
   rw[ch,fZ,(Y:k+1-(i+1)=k-i)]
  rw[e,tu,tu];omega
def zy{f:G->V}{a:G}:∀{n:G},a<n->(∀i,i<n->i≠a->f i=0)->sm f n=f a
 |0,d,_=>by omega
 |n+1,d,b=>by
  rw[sm];by_cases g:a=n
  .subst g;rw[sa (λi k=>b i Y Y),Dz]
  .rw[zy (n:=n) Y (λi k=>b i Y),b n Y Y,tf]
def aff(f:G->G):∀k,((sN f k:G):V)=sm (λi=>((f i:G):V)) k
 |0=>rfl
 |k+1=>by rw[sN,sm,y5,aff f k]
def uM(a:G->G->V)(m:G):∀n,sm (λi=>sm (λb=>a i b) m) n=sm (λb=>sm (λi=>a i b) n) m
 |0=>(sa λ_ _=>rfl).symm
 |n+1=>by rw[sm,uM a m n,<-PB];rfl
def P1{f:G->V}:∀{n:G},(∀i,i<n->0<=f i)->0<=sm f n
 |0,_=>iD _
 |n+1,a=>by
  have b:=P1 (f:=f) (n:=n) λi d=>a i Y
  have g:=a n Y;rw[sm];omega
def KW{f g:G->V}:∀{n:G},(∀i,i<n->f i<=g i)->sm f n<=sm g n
 |0,_=>iD _
 |n+1,a=>by
  have b:=KW (f:=f) (g:=g) (n:=n) λi d=>a i Y
  have k:=a n Y;rw[sm,sm];omega
def P2{f:G->V}{a n}(d:a<n)(g:∀i,i<n->0<=f i):f a<=sm f n:=by
 have e:sm (λi=>if i=a then f a else 0) n=f a:=(zy d λi _ b=>j b).trans<|q J;rw[<-e];refine KW λi b=>?_
 split
 .rename_i e;subst e;exact iD _
 .exact g i b
def s2(k l:G)(b:G->G->V):V:=sm (λa=>sm (λe=>b a e)<|l+1)<|k+1
def wF{k l}{d f:G->G->V}(g:∀a b,a<=k->b<=l->d a b=f a b):s2 k l d=s2 k l f:=g7 λa i=>g7 λb m=>g a b Y Y
def xT k l b(d:G->G->V):s2 k l (λa f=>b*d a f)=b*s2 k l d:=by unfold s2;rw[<-Bi];exact g7 λa _=>Bi _ _ _
def WG k l b(d:G->G->V):s2 k l (λa f=>d a f*b)=s2 k l d*b:=by rw[fo,<-xT];exact wF λ_ _ _ _=>fo _ _
def P3 k l d f(g:G->G->G->G->V):s2 k l (λa b=>s2 d f<|λt s=>g a b t s)=s2 d f (λt s=>s2 k l<|λa b=>g a b t s):=by
 unfold s2;have i:∀a,sm (λb=>sm (λt=>sm (λs=>g a b t s)<|f+1)<|d+1) (l+1)=sm (λt=>sm (λs=>sm (λb=>g a b t s)<|l+1)<|f+1) (d+1):=λa=>by rw[uM];exact g7 λt _=>uM _ _ _
 rw[g7 λa _=>i a,uM];exact g7 λt _=>uM _ _ _
def aqZ{k l}{d f:G->G->V}(g:∀a b,a<=k->b<=l->d a b<=f a b):s2 k l d<=s2 k l f:=KW λa i=>KW λb m=>g a b Y Y
def aq0{k l}{b:G->G->V}{a e}(g:a<=k)(p:e<=l)(d:∀a e,a<=k->e<=l->0<=b a e):b a e<=s2 k l b:=by refine uN (P2 (f:=λe=>b a e) (a:=e) (n:=l+1) Y λi m=>d a i g Y) ?_;exact P2 (f:=λa=>sm (λe=>b a e)<|l+1) (a:=a) (n:=k+1) Y λi m=>P1 λj s=>d i j Y Y
def aq1{k l}{m:G->G->V}{a g}(s:a<=k)(u:g<=l)(p:∀i b,i<=k->b<=l->¬(i=a/\b=g)->m i b=0):s2 k l m=m a g:=by unfold s2;rw[zy (a:=a) Y λi v d=>sa λb t=>p i b Y Y λn=>d n.1];exact zy (f:=λg=>m a g) (a:=g) Y λb t d=>p a b s Y λn=>d n.2
def eta(t s a b:G):V:=if t<=a/\s<=b/\a-t=b-s then((ch a t*ch b s*bK (a-t):G):V)else 0
def afg{k l a e a' f}(ha:a<=k)(he:e<=l)(d:a'<=k)(hf:f<=l):(if a+f=a'+e then((bK (a+f):G):V)else 0)=s2 k l (λt s=>((bK t*bK s:G):V)*(eta t s a e*eta t s a' f)):=by
 by_cases h:a+f=a'+e
 .rw[q h,h,<-wE a' e,<-h,WE f a a',fP,aff];have A:sm (λt=>((ch a t*ch f (a'-t):G):V)) (a'+1)=sm (λt=>((ch a t*ch f (a'-t):G):V)*(if t<=a' then 1 else 0)) (k+1):=by
   have B:∀n,a'<=n->sm (λt=>((ch a t*ch f (a'-t):G):V)*(if t<=a' then 1 else 0)) (n+1)=sm (λt=>((ch a t*ch f (a'-t):G):V)) (a'+1):=λn o=>by
    induction n with
    |zero=>
     have:a'=0:=Y
     subst this
     exact g7 λi C=>by rw[q Y,oy]
    |succ n D=>
     by_cases H:a'<=n
     .rw[sm,D H,j Y,iy,tf]
     .have:a'=n+1:=by omega
      subst this;exact g7 λi C=>by rw[q Y,oy]
   exact(B k d).symm
  rw[A,<-Wb];unfold s2;refine g7 λt K=>?_
  by_cases g:t<=a'/\t<=a/\a-t<=e
  .let ⟨g,h2,N⟩:=g;rw[q g,oy];rw[zy (a:=e-(a-t)) Y λs p P=>?_]
   .have b:t<=a/\e-(a-t)<=e/\a-t=e-(e-(a-t)):=by omega
    have Q:t<=a'/\e-(a-t)<=f/\a'-t=f-(e-(a-t)):=Y;dsimp only;rw[eta,q b,eta,q Q];have T:=wE t<|a-t;have u:=wE (e-(a-t))<|a-t;have v:=wE t<|a'-t;have x:=wE (e-(a-t))<|a'-t;have z:=wE (a'-t)<|e-(a-t);rw[(Y:t+(a-t)=a)]at T;rw[(Y:e-(a-t)+(a-t)=e)]at u;rw[(Y:t+(a'-t)=a')]at v;rw[(Y:e-(a-t)+(a'-t)=f)]at x;rw[(Y:a'-t+(e-(a-t))=f)]at z;have m:ch a t*ch f (a'-t)*(bK a'*bK e)=bK t*bK (e-(a-t))*(ch a t*ch e (e-(a-t))*bK (a-t)*(ch a' t*ch f (e-(a-t))*bK (a'-t))):=by rw[<-v,<-u];have W:ch f (a'-t)*(bK (a'-t)*bK (e-(a-t)))=ch f (e-(a-t))*(bK (e-(a-t))*bK (a'-t)):=z.trans x.symm;have X:ch a t*ch f (a'-t)*(ch a' t*(bK t*bK (a'-t))*(ch e (e-(a-t))*(bK (e-(a-t))*bK (a-t))))=ch a t*ch a' t*bK t*ch e (e-(a-t))*bK (a-t)*(ch f (a'-t)*(bK (a'-t)*bK (e-(a-t)))):=fF;rw[X,W];ac_rfl
    rw[<-fP,<-fP,<-fP,m]
   .have:¬(t<=a/\s<=e/\a-t=e-s):=by omega
    dsimp only;rw[eta,j this,ox,iy]
  .have c:((ch a t*ch f (a'-t):G):V)*(if t<=a' then 1 else 0)=0:=by
    by_cases h2:t<=a'
    .by_cases N:t<=a
     .rw[Bk f (a'-t) Y,Nat.mul_zero];simp
     .rw[Bk a t Y,pM];simp
    .rw[j h2,iy]
   rw[c,ox];refine(sa λs p=>?_).symm;by_cases b:t<=a/\s<=e/\a-t=e-s
   .have:¬(t<=a'/\s<=f/\a'-t=f-s):=by omega
    dsimp only;rw[show eta t s a' f=0 by rw[eta,if_neg this],KX,KX]
   .dsimp only;rw[eta,if_neg b,Int.zero_mul,KX]
 .rw[j h];unfold s2;refine(sa λt K=>sa λs p=>?_).symm;by_cases b:t<=a/\s<=e/\a-t=e-s
  .have:¬(t<=a'/\s<=f/\a'-t=f-s):=by omega
   dsimp only;rw[show eta t s a' f=0 by rw[eta,if_neg this],KX,KX]
  .dsimp only;rw[eta,if_neg b,Int.zero_mul,KX]
def afh t s:eta t s t s=1:=by rw[eta,q Y,Kw,Kw,jA];rfl
def DM(x:V):0<=x*x:=by
 rcases Int.le_total 0 x with h|h
 .exact ku h h
 .have:=ku (a:= -x) (b:= -x) Y Y;rwa[Int.neg_mul_neg]at this
def aq2 k l(g:G->G->V):
  s2 k l (λt s=>((bK t*bK s:G):V)*((bK (k-t)*bK (l-s):G):V)*(g t s*g t s))<=
  s2 k l (λa b=>s2 k l<|λd f=>g a b*g d f*((if a+f=d+b then((bK (a+f):G):V)else 0)*(if(k-a)+(l-f)=(k-d)+(l-b)then((bK ((k-a)+(l-f)):G):V)else 0))):=by
 have v:s2 k l (λa b=>s2 k l<|λd f=>g a b*g d f*((if a+f=d+b then((bK (a+f):G):V)else 0)*(if(k-a)+(l-f)=(k-d)+(l-b)then((bK ((k-a)+(l-f)):G):V)else 0)))=
   s2 k l (λt s=>s2 k l<|λm n=>((bK t*bK s:G):V)*((bK m*bK n:G):V)*(s2 k l (λa b=>g a b*(eta t s a b*eta m n (k-a) (l-b)))*s2 k l (λa b=>g a b*(eta t s a b*eta m n (k-a) (l-b))))):=by
  have x:∀a b,a<=k->b<=l->s2 k l (λd f=>g a b*g d f*((if a+f=d+b then((bK (a+f):G):V)else 0)*(if(k-a)+(l-f)=(k-d)+(l-b)then((bK ((k-a)+(l-f)):G):V)else 0)))=s2 k l (λt s=>s2 k l<|λm n=>((bK t*bK s:G):V)*((bK m*bK n:G):V)*(g a b*(eta t s a b*eta m n (k-a) (l-b))*s2 k l (λa b=>g a b*(eta t s a b*eta m n (k-a) (l-b))))):=by
   intro a b z A;have B:∀d f,d<=k->f<=l->g a b*g d f*((if a+f=d+b then((bK (a+f):G):V)else 0)*(if(k-a)+(l-f)=(k-d)+(l-b)then((bK ((k-a)+(l-f)):G):V)else 0))=s2 k l (λt s=>s2 k l<|λm n=>((bK t*bK s:G):V)*((bK m*bK n:G):V)*(g a b*(eta t s a b*eta m n (k-a) (l-b))*(g d f*(eta t s d f*eta m n (k-d) (l-f))))):=by
    intro d f u C;rw[afg z A u C,afg (k:=k) (l:=l) (a:=k-a) (e:=l-b) (a':=k-d) (f:=l-f) Y Y Y Y,<-WG,<-xT];refine wF λt s _ _=>?_
    rw[<-xT,<-xT];refine wF λm n _ _=>?_
    ac_rfl
   rw[wF B,P3];refine wF λt s _ _=>?_
   rw[P3];refine wF λm n _ _=>?_
   rw[<-xT,<-xT]
  rw[wF x,P3]
  refine wF λt s _ _=>?_
  rw[P3]
  refine wF λm n _ _=>?_
  rw[xT,WG]
 rw[v]
 refine aqZ λt s D H=>?_
 refine uN (afi ?_)<|aq0 (k:=k) (l:=l) (a:=k-t) (e:=l-s) Y Y λm n _ _=>ku (ku (sj _)<|sj _)<|DM _
 have K:s2 k l (λa b=>g a b*(eta t s a b*eta (k-t) (l-s) (k-a) (l-b)))=g t s:=by
  rw[aq1 D H λi p P Q N=>?_]
  .rw[afh,afh,oy,oy]
  .by_cases c1:t<=i/\s<=p/\i-t=p-s
   .have:¬(k-t<=k-i/\l-s<=l-p/\k-i-(k-t)=l-p-(l-s)):=by omega
    rw[show eta (k-t) (l-s) (k-i) (l-p)=0 by rw[eta,j this],iy,iy]
   .rw[eta,j c1,ox,iy]
 rw[K]
def Bw(n:G)(A:G->V):V:=sm (λi=>((bK i*bK (n-i):G):V)*(A i*A i))<|n+1
def aq3{A B:PS}{k l i}(p:∀b,k<b->A b=0)(s:∀b,l<b->B b=0):(A*B) i=s2 k l (λa f=>if a+f=i then A a*B f else 0):=by
 rw[PS.fV];unfold s2;have t:∀a,a<=i->A a*B (i-a)=sm (λf=>if a+f=i then A a*B f else 0) (l+1):=λa g=>by
  by_cases e:i-a<=l
  .rw[zy (a:=i-a) Y λf _ u=>j Y,q Y]
  .rw[s (i-a) Y,iy];exact(sa λf K=>j Y).symm
 rw[g7 λa g=>t a Y];have m:∀n,(∀a,n<=a->sm (λf=>if a+f=i then A a*B f else 0) (l+1)=0)->∀d,sm (λa=>sm (λf=>if a+f=i then A a*B f else 0)<|l+1) (n+d)=sm (λa=>sm (λf=>if a+f=i then A a*B f else 0)<|l+1) n:=λn v d=>by
  induction d with
  |zero=>rfl
  |succ d x=>rw[<-sJ,sm,x,v _ Y,tf]
 have z:∀a,i+1<=a->sm (λf=>if a+f=i then A a*B f else 0) (l+1)=0:=λa g=>sa λf _=>j Y
 have C:∀a,k+1<=a->sm (λf=>if a+f=i then A a*B f else 0) (l+1)=0:=λa g=>sa λf _=>by rw[p a Y,ox,ite_self]
 have D:=m _ z<|k+1;have H:=m _ C<|i+1;rw[<-D,<-H];congr 1;omega
def aq4{A B:PS}{k l}(v:∀d,k<d->A d=0)(x:∀d,l<d->B d=0):Bw k A*Bw l B<=Bw (k+l) (A*B):=by
 have u:=aq2 k l<|λa e=>A a*B e;have z:s2 k l (λt s=>((bK t*bK s:G):V)*((bK (k-t)*bK (l-s):G):V)*(A t*B s*(A t*B s)))=Bw k A*Bw l B:=by
  unfold Bw s2;rw[<-Wb];refine g7 λt _=>?_
  rw[<-Bi];refine g7 λs _=>?_
  simp only[fP];ac_rfl
 rw[z]at u;refine uN u<|afi ?_;have C:Bw (k+l) (A*B)=s2 k l (λa f=>s2 k l<|λb e=>A a*B f*(A b*B e)*(if a+f=b+e then((bK (a+f)*bK (k+l-(a+f)):G):V)else 0)):=by
  unfold Bw;have D:∀i,i<k+l+1->((bK i*bK (k+l-i):G):V)*((A*B) i*(A*B) i)=s2 k l (λa f=>s2 k l<|λb e=>A a*B f*(A b*B e)*(if a+f=i then(if b+e=i then((bK i*bK (k+l-i):G):V)else 0)else 0)):=λi _=>by
   rw[aq3 v x,<-WG,<-xT];refine wF λa f _ _=>?_
   rw[<-xT,<-xT];refine wF λb e _ _=>?_
   by_cases c1:a+f=i
   .by_cases m:b+e=i
    .rw[q c1,q c1,q m,q m,fo]
    .rw[j m,j m,ite_self];simp only[iy]
   .rw[j c1,j c1,ox,iy,iy]
  rw[g7 D];unfold s2;rw[uM];refine g7 λa H=>?_
  rw[uM];refine g7 λf K=>?_
  rw[uM];refine g7 λb n=>?_
  rw[uM];refine g7 λe N=>?_
  rw[Bi];congr 1;rw[zy (a:=a+f) Y λi _ p=>j λh=>p h.symm,q J];by_cases c:a+f=b+e
  .rw[q c.symm,q c]
  .rw[j λh=>c h.symm,j c]
 rw[C];unfold s2;refine g7 λa H=>?_
 have P:∀(g:G->G->G->V),sm (λe=>sm (λb=>sm (λf=>g e b f)<|l+1)<|k+1) (l+1)=sm (λf=>sm (λb=>sm (λe=>g e b f)<|l+1)<|k+1) (l+1):=λg=>by
  rw[uM];have Q:sm (λb=>sm (λe=>sm (λf=>g e b f)<|l+1)<|l+1) (k+1)=sm (λb=>sm (λf=>sm (λe=>g e b f)<|l+1)<|l+1) (k+1):=g7 λb _=>uM _ _ _
  rw[Q,uM]
 rw[P];refine g7 λf K=>g7 λb n=>g7 λe N=>?_
 by_cases c:a+f=b+e
 .dsimp only;rw[q c,q Y,q c,<-fP,(Y:k-a+(l-f)=k+l-(a+f))];ac_rfl
 .dsimp only;rw[j c,j c,ox,iy,iy]
def afj{P:G->Prop}:∀n,P n->∃m,P m/\∀k,k<m->¬P k:=by
 intro n;induction n using Nat.strongRecOn with
 |ind n a=>
  intro h
  by_cases e:∃k,k<n/\P k
  .let ⟨k,b,h2⟩:=e;exact a k b h2
  .exact⟨n,h,λk d f=>e ⟨k,d,f⟩⟩
def aq5{k}(g:2<=k):∃b,eo b/\b∣k:=by
 let ⟨m,⟨i,h2⟩,l⟩:=afj (P:=λd=>2<=d/\d∣k) k ⟨g,Nat.dvd_refl k⟩;refine⟨m,⟨i,λd f n p=>?_⟩,h2⟩;have a:d<m:=by have:d*2<=d*d:=ja d f;omega
 exact l d a ⟨f,Hj (KY p) h2⟩
def afk(f:G->V):∀k,((sm f k:V):U)=sq (λi=>(f i:U)) k
 |0=>rfl
 |k+1=>by rw[sm,sq,KZ,afk f k]
namespace Rx
def dt(A:Rx):Prop:=∀i,A i=((A i).num:U)
def nu(A:Rx):PS:=λi=>(A i).num
def dt.of{A}(a:∀i,∃z:V,A i=(z:U)):dt A:=λi=>by let ⟨z,b⟩:=a i;rw[b];rfl
def dt.at{A}(a:dt A) i:A i=((nu A i:V):U):=a i
def dt.mul'{A B}(a:dt A)(b:dt B) i:(A*B) i=(((nu A*nu B) i:V):U):=by rw[PS.fV,afk,fV];exact wy λj _=>by rw[a.at,b.at,fW]
def dt.mul{A B}(a:dt A)(b:dt B):dt (A*B):=dt.of λi=>⟨_,a.mul' b i⟩
def DN{A B}(a:dt A)(b:dt B):nu (A*B)=nu A*nu B:=PS.ext λi=>by show((A*B) i).num=_;rw[a.mul' b i];rfl
def dt.K(z:V):dt (K (z:U)):=dt.of λi=>by
 rw[kz];split
 .exact⟨z,J⟩
 .exact⟨0,J⟩
def afl(z:V):nu (Rx.K (z:U))=PS.K z:=PS.ext λi=>by show((Rx.K (z:U)) i).num=PS.K z i;rw[kz,PS.K];split<;>rfl
def Bs{A}{i}(a:sz A<=i):nu A i=0:=by show(A i).num=0;rw[jT a];rfl
def dt.sub{A B}(a:dt A)(b:dt B):dt (A-B):=dt.of λi=>⟨nu A i-nu B i,by rw[nS,a.at,b.at,K0]⟩
def P4 a:((a.den:G):U)*a=(a.num:U):=by
 have h:=po a;rw[P5,tE,pq]at h;have d:=nV _<|xS<|WH.1 a.den_pos;have b:((a.den:G):U)*a=((a.den:G):U)*((a.num:U)*((a.den:G):U)⁻¹):=by rw[h]
 rw[b];grind
def aq6 A:∃D:G,0<D/\dt (K ((D:G):U)*A):=by
 have a:∀n,∃D:G,0<D/\∀i,i<n->∃z:V,(D:U)*A i=(z:U):=by
  intro n;induction n with
  |zero=>exact⟨1,o,λi h=>aJ h Y⟩
  |succ n d=>
   let ⟨D,b,h2⟩:=d
   refine⟨D*(A n).den,Be b (A n).den_pos,λi k=>?_⟩
   by_cases e:i=n
   .subst e;refine⟨(D:V)*(A i).num,?_⟩;rw[fW,xU,mG,P4];rfl
   .let ⟨z,f⟩:=h2 i Y;refine⟨z*((A n).den:V),?_⟩;rw[fW,<-f,xU,pq];grind
 let ⟨n,g⟩:=A.fin;let ⟨D,b,h2⟩:=a n;refine⟨D,b,dt.of λi=>?_⟩;rw[eF];by_cases e:i<n
 .exact h2 i e
 .exact⟨0,by rw[g i Y,dU];rfl⟩
structure Dn(A:Rx)(m:G):Prop where
 pos:0<m
 int:dt (K ((m:G):U)*A)
 dvd:∀d:G,dt (K ((d:G):U)*A)->m∣d
def K1 A:∃m,Dn A m:=by
 let ⟨D,f,h2⟩:=aq6 A;let ⟨m,⟨a,b⟩,g⟩:=afj (P:=λd=>0<d/\dt (K ((d:G):U)*A)) D ⟨f,h2⟩;refine⟨m,a,b,λd i=>?_⟩;refine KY<|eR λk=>?_;refine g (d%m) (gJ _ a) ⟨Y,?_⟩;have e:K ((d%m:G):U)*A=K ((d:G):U)*A-K (((d/m:G):V):U)*(K ((m:G):U)*A):=by
  have l:((d:G):U)=((d/m:G):U)*((m:G):U)+((d%m:G):U):=by rw[<-xU,<-ae7,ic,sU]
  rw[<-c9,<-dL,<-qT,<-Wv,l,pq];congr 2;grind
 rw[e];exact i.sub<|(dt.K _).mul b
def Dn.afm{A}(g:Mo A){m}(b:Dn A m){a}(s:eo a):¬∀i,nu (K ((m:G):U)*A) i%(a:V)=0:=λl=>by
 have t:=s.1;let ⟨n,u⟩:=Hi g.ne;have v:nu (K ((m:G):U)*A) n=(m:V):=by show((K ((m:G):U)*A) n).num=_;rw[eF,g.at u,lF];rfl
 have z:a∣m:=zf.1<|v▸GY (l n);let ⟨k,B⟩:=z;have d:0<k:=by
  have:=b.pos;rcases r8 k with e|e
  .subst e;omega
  .exact e
 have C:dt (K ((k:G):U)*A):=dt.of λi=>by let ⟨w,hw⟩:=GY<|l i;refine⟨w,?_⟩;have p:=b.int.at i;rw[hw,eF,B,xU,fW,pq]at p;rw[eF];have D:=nV _<|xS (Y:a≠0);have f:=bl (λx=>((a:G):U)⁻¹ *x) p;rw[<-mG,<-mG,<-mG,D]at f;rw[ph,ph]at f;exact f
 have:=uG d<|b.dvd k C;have:2*k<=a*k:=eB k t;omega
def afn{P f}(hP:Mo P)(hE:Mo f){a b s}(l:Dn P a)(m:Dn f b)(t:Dn (P*f) s):s=a*b:=by
 have x:dt (K ((a:G):U)*P*(K ((b:G):U)*f)):=l.int.mul m.int;have u:K ((a:G):U)*P*(K ((b:G):U)*f)=K ((a*b:G):U)*(P*f):=by rw[xU,dL];ac_rfl
 let ⟨k,z⟩:=t.dvd (a*b)<|u▸x;by_cases n:k=1
 .subst n;omega
 have B:=Be l.pos m.pos;have C:0<k:=by
  rcases r8 k with e|e
  .subst e;omega
  .exact e
 let ⟨q,hq,p⟩:=aq5 (k:=k) Y;have D:∀i,(nu (K ((a:G):U)*P)*nu (K ((b:G):U)*f)) i%(q:V)=0:=λi=>by have g:=l.int.mul' m.int i;rw[u,z,xU,dL,c8 (K _)<|K _,c9,eF,t.int.at i,<-pq,<-fW]at g;rw[<-xV.1 g];exact DC<|K2 (zf.2 p)<|Int.dvd_mul_right _ _
 have v:∀A:Rx,Dl (q:V) (sz A) (nu A):=λA i H=>by rw[Bs H,iH]
 rcases G6 (v<|K ((a:G):U)*P)with g|⟨d,_,d1,d2⟩
 .exact aJ (λi=>by have:=g.at i;rwa[PS.lD,iH]at this)<|l.afm hP hq
 rcases G6 (v<|K ((b:G):U)*f)with g|⟨e,_,f1,f2⟩
 .exact aJ (λi=>by have:=g.at i;rwa[PS.lD,iH]at this)<|m.afm hE hq
 exact aJ (D<|d+e)<|Go.El.Bm hq d2 f2 d1 f1
def oU(n:G)(A:PS):V:=sm (λi=>(aD (A i):V))<|n+1
def afo(f:G->V):∀n,(∀i,0<=f i)->sm (λi=>f i*f i) n<=sm f n*sm f n
 |0,_=>by simp[sm]
 |n+1,a=>by
  have d:=afo f n a;have b:=P1 (f:=f) (n:=n) λi _=>a i
  have g:=ku b<|a n;rw[sm,sm,o0,pU,pU,fo (f n)<|sm f n];omega
def aq7 n(A:PS):Bw n A<=((bK n:G):V)*(oU n A*oU n A):=by
 unfold Bw oU;have b:=afo (λi=>(aD (A i):V)) (n+1)<|λ_=>sj _;refine uN ?_<|l6 b<|sj _;rw[<-Bi];refine KW λi k=>?_
 have d:bK i*bK (n-i)<=bK n:=by
  have a:=wE i<|n-i;rw[(Y:i+(n-i)=n)]at a;have f:0<ch n i:=by
   rcases r8 (ch n i)with e|e
   .rw[e,pM]at a;have:=KV n;omega
   .exact e
  rw[<-a];exact PH _ f
 have g:(aD (A i):V)*(aD (A i):V)=A i*A i:=by rw[<-fP,aq8]
 rw[g];exact iE (P6.2 d)<|DM _
def afp n:∀k,ch n k<=2^n:=by
 induction n with
 |zero=>
  intro k
  cases k with
  |zero=>exact aN _
  |succ k=>exact bm _
 |succ n a=>
  intro k
  have b:=ko (n:=n) (o:0<2)
  rw[gK]
  cases k with
  |zero=>rw[tu];omega
  |succ k=>
   have:=a k
   have:=a<|k+1
   rw[ch];omega
def aq9{x b}(d:0<=b)(g:x*x<=b*b):(aD x:V)<=b:=by
 refine eR λi=>?_
 have k:((aD x:V))*aD x=x*x:=by rw[<-fP,aq8]
 have f:b<aD x:=Y;have l:b*b<(aD x:V)*aD x:=by have m:=l6 (a:=b) (Y:b<=(aD x:V)) d;have n:=Kd f (Y:(0:V)<aD x);omega
 omega
def afq{A B}{k l}(p:∀b,k<b->A b=0)(z:∀b,l<b->B b=0)(s:B l≠0) i:(aD (A i):V)<=2^(k+l)*oU (k+l) (A*B):=by
 have d:0<=oU (k+l) (A*B):=P1 λ_ _=>sj _
 have g:(0:V)<=2^(k+l):=Int.le_of_lt<|ow o;by_cases C:k<i
 .rw[p i C];exact ku g d
 refine aq9 (ku g d) ?_;have D:=uN (aq4 p z)<|aq7 (k+l)<|A*B;have t:((bK l:G):V)<=Bw l B:=by
  have:=P2 (f:=λi=>((bK i*bK (l-i):G):V)*(B i*B i)) (a:=l) (n:=l+1) Y λi _=>ku (sj _)<|DM _
  refine uN ?_ this;rw[jA,show bK 0=1 from J,qG];have m:1<=B l*B l:=by have u:=DM<|B l;have v:B l*B l≠0:=zz s s;omega
  have:=l6 m<|sj<|bK l;rwa[oy]at this
 have m:((bK i*bK (k-i):G):V)*(A i*A i)<=Bw k A:=P2 (f:=λi=>((bK i*bK (k-i):G):V)*(A i*A i)) (a:=i) (n:=k+1) Y λi _=>ku (sj _)<|DM _
 have u:((bK i*bK (k-i):G):V)*(A i*A i)*((bK l:G):V)<=((bK (k+l):G):V)*(oU (k+l) (A*B)*oU (k+l) (A*B)):=by refine uN ?_ D;refine uN (l6 t<|ku (sj _)<|DM _) ?_;exact iE m<|uN (sj _) t
 have v:bK (k+l)=bK i*bK (k-i)*bK l*(ch (k+l) k*ch k i):=by have H:=wE k l;have x:=wE i<|k-i;rw[(Y:i+(k-i)=k)]at x;rw[<-H,<-x];ac_rfl
 have K:ch (k+l) k*ch k i<=2^(k+l)*2^(k+l):=jQ (afp _ _)<|bZ (afp _ _)<|eU o Y;have N:0<bK i*bK (k-i)*bK l:=Be (Be (KV _)<|KV _)<|KV _;generalize oU (k+l) (A*B)=S at*;have P:((bK i*bK (k-i)*bK l:G):V)*(A i*A i)<=((bK i*bK (k-i)*bK l:G):V)*((2^(k+l)*2^(k+l))*(S*S)):=by
  have Q:((bK i*bK (k-i)*bK l:G):V)*(A i*A i)=((bK i*bK (k-i):G):V)*(A i*A i)*((bK l:G):V):=by rw[fP];ac_rfl
  rw[Q];refine uN u ?_;rw[v,fP,jP];refine l6 ?_<|sj _;refine iE ?_<|DM S;have:=P6.2 K;rw[fP (2^(k+l)),wj]at this;exact this
 have T:=Int.le_of_mul_le_mul_left P<|Int.natCast_pos.2 N;refine uN T<|afi ?_;ac_rfl
end Rx
def tF:E G:=[1073741827,1073741831,1073741833,1073741839,1073741843,1073741857,1073741891,1073741909,1073741939,1073741953,1073741969,1073741971,
 1073741987,1073741993,1073742037,1073742053,1073742073,1073742077,1073742091,1073742113,1073742169,1073742203,1073742209,1073742223,
 1073742233,1073742259,1073742277,1073742289,1073742343,1073742353,1073742361,1073742391,1073742403,1073742463,1073742493,1073742517,
 1073742583,1073742623,1073742653,1073742667,1073742671,1073742673,1073742707,1073742713,1073742721,1073742731,1073742767,1073742773,
 1073742811,1073742851,1073742853,1073742881,1073742889,1073742913,1073742931,1073742937,1073742959,1073742983,1073743007,1073743037,
 1073743049,1073743051,1073743079,1073743091,1073743093,1073743123,1073743129,1073743141,1073743159,1073743163,1073743189,1073743199,
 1073743207,1073743243,1073743291,1073743303,1073743313,1073743327,1073743331,1073743337,1073743381,1073743387,1073743393,1073743397,
 1073743403,1073743417,1073743421,1073743427,1073743457,1073743459,1073743469,1073743501,1073743507,1073743513,1073743543,1073743577,
 1073743591,1073743633,1073743739,1073743757,1073743831,1073743861,1073743871]
def K3:G->G->G
 |0,l=>l+1
 |d+1,l=>K3 d (2*l)*K3 d (2*l+1)
def WI:∀(d l x:G),x<2^d->2^d*l+x+1∣K3 d l
 |0,l,x,h=>by have:x=0:=eQ;subst this;rw[pW,hY,jZ];exact Nat.dvd_refl _
 |d+1,l,x,h=>by
  rw[gK]at h⊢;by_cases e:x<2^d
  .have:=WI d (2*l) x e;rw[(fF:2^d*(2*l)=2^d*2*l)]at this;exact Nat.dvd_mul_right_of_dvd this _
  .have:=WI d (2*l+1) (x-2^d) Y;rw[show 2^d*(2*l+1)+(x-2^d)=2^d*2*l+x by rw[Bl,(fF:2^d*(2*l)=2^d*2*l)];omega]at this;exact aq' this _
def tG(l:E G):G:=l.foldr (·*·) 1
def ara{l}{x}(a:x∈l):x∣tG l:=by
 induction l with
 |nil=>cases a
 |cons y l b=>
  rcases b9.1 a with rfl|a
  .exact Nat.dvd_mul_right _ _
  .exact aq' (b a) _
def arb:Nat.gcd (tG tF) (K3 15 0)=1:=e9
def arc:(tF.all λp=>Nat.blt 1073741824 p&&Nat.blt p 1073743872)=true:=e9
def afr{p}(a:p∈tF):1073741824<p/\p<1073743872:=by have:=nw.1 arc p a;rw[cG]at this;exact⟨cQ this.1,cQ this.2⟩
def ard{p}(a:p∈tF):eo p:=by
 let ⟨l,h2⟩:=afr a;refine⟨Y,λd m f g=>?_⟩;have n:d<=32768:=by
  by_cases e:d<=32768
  .exact e
  .have:=jQ (Y:32769<=d) (Y:32769<=d);omega
 have i:d∣K3 15 0:=by have:=WI 15 0 (d-1) (Y:d-1<32768);rwa[Nat.mul_zero,fc,(Y:d-1+1=d)]at this
 have k:d∣tG tF:=Hj (KY g)<|ara a;have b:=Nat.dvd_gcd k i;rw[arb]at b;have:=uG o b;omega
end Go.El
