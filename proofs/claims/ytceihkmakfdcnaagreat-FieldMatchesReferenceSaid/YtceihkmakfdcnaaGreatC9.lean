/- Own work; no condition. -/
import Derived.Test.YtceihkmakfdcnaaGreatC8
import Derived.Test.YtceihkmakfdcnaaGreatC7
set_option linter.all false
set_option maxHeartbeats 16000000
set_option maxRecDepth 100000
open Go.El renaming cS->e,rr->U,re->M,bI->h,cI->c,rb->R,jz->w,NB->F
open Go.Proofs.Tryz renaming prog->O
open Int renaming toNat->af,natAbs->aC,mul_zero->LH,le_of_eq->agz,natAbs_mul_self->asP
open List renaming getD->I,length->Z,take->r,range->bJ,replicate->bx,getElem?_append->asu
open Nat renaming dvd_mul_left_of_dvd->asR
open Rat renaming add_neg_cancel->asz,natCast_add->agn
open _root_ renaming Nat->G,Int->V,List->E,Rat->L
namespace Go.El
open Go Go.Proofs
def asl(a n p:G)(v:n<18446744073709551616)(d:0<p)(u:p<=4294967296):w O 284 [cU a,cU n,cU p] (cU<|wX a n p):=by
 refine aK Tryz.func284 ?_;have z:(p:V)≠0:=Y;refine U J<|U J (hp:=aH)<|U J (hp:=aH)<|h<|U J<|ay<|bq (α:=G×G×G×G) (λx=>⟨[(2,cU p),(7,cU x.2.1),(8,cU x.2.2.1),(9,cU x.2.2.2)],[],4,[]⟩) (λx=>tX x.1 x.2.1 x.2.2.1 x.2.2.2 p=wX a n p/\x.2.2.2<2^x.1/\x.2.1<p/\x.2.2.1<p/\x.2.2.2<18446744073709551616) (λx=>x.2.2.2) (64,1%p,a%p,n) ⟨J,v,gU _ d,gU _ d,v⟩ (wk ⟨sR J,sE J<|cj<|oq 1 p,sE J<|cj<|oq a p,sR J,j⟩ j) ?_
 .rintro⟨f,r,b,m⟩ ⟨g,hm,hr,k,i⟩;simp only at g hm hr k i;refine h (U J<|F J (λl=>?_)<|λl=>?_)
  .have l:(m:V)>0:=aV l;cases f with
   |zero=>rw[qx]at hm;omega
   |succ f=>
    have s:m/2<2^f:=by rw[fG]at hm;omega
    rw[tX,y Y]at g
    have A:(m:V).tmod 2=((m%2:G):V):=oq m 2
    refine aE<|h<|ay<|h<|U J (hp:=aH)<|F J (λt=>?_)<|λt=>?_
    .have t:(m:V).tmod 2=1:=dw t;rw[q Y]at g;exact rt J (hp:=aH) (aS<|rt J (hp:=aH)<|bP<|rt J (hp:=aH)<|a4 (f,r*b%p,b*b%p,m/2) ⟨g,s,gU _ d,gU _ d,Qh⟩ Qi<|wk ⟨sR J,sE J<|cj<|HK r b p hr k u,sE J<|cj<|HK b b p k k u,sE J<|cj<|Ef m i,j⟩ j)
    .have t:(m:V).tmod 2≠1:=pN t;rw[y Y]at g;exact aE (rt J (hp:=aH)<|bP<|rt J (hp:=aH)<|a4 (f,r,b*b%p,m/2) ⟨g,s,hr,gU _ d,Qh⟩ Qi<|wk ⟨sR J,sR J,sE J<|cj<|HK b b p k k u,sE J<|cj<|Ef m i,j⟩ j)
  .have l:¬(m:V)>0:=bc l;have:m=0:=Y;subst this;refine bs<|aS<|U J<|cv J ?_;rw[<-g];cases f with
   |zero=>rfl
   |succ f=>rw[tX,q J]
def Xl a p(d:0<=a/\a<p)(i:a≠0)(f:2<=p)(k:p<=2147483648):w O 248 [cU a,cU p] (.t [(false,[.I .u64 (jR (af a) (af p):G)]),(false,[.I .i64 0])]):=by
 obtain⟨a,rfl⟩:=Ed d.1;obtain⟨p,rfl⟩:=Ed (Y:0<=p);rw[cC,cC];refine aK Tryz.func248 ?_;have g:(p:V)≠0:=Y;refine U J<|h<|U J (hp:=aH)<|F J (λb=>?_)<|λb=>aE ?_
 .exfalso;have b:(a:V).tmod (p:V)=0:=dw b;rw[oq,rk Y]at b;omega
 .have e:w O 284 [cU a,.c (num .u64<|(p:V)-2).1,cU p] (cU<|wX a (p-2) p):=by rw[show(AV.c (num .u64<|(p:V)-2).1)=cU ((p-2:G):V)from cj<|(bf _ Y Y).trans Y];exact asl a (p-2) p Y Y Y
  exact bQ J J e J<|cN J
def Lj(a:E V)(i:G):w O 285 [e ar a,c i] (cU<|I a i 0):=by
 refine aK Tryz.func285 ?_;refine U J<|h<|U J<|F J (λb=>?_)<|λb=>aE ?_
 .have b:(i:V)<(Z a:V):=aV b;refine U J (hp:=aH)<|bX<|cY<|fK J<|cj ?_;rw[cC]
 .have b:¬(i:V)<(Z a:V):=bc b;refine U J<|cv J<|cj ?_;rw[aO,iw Y];rfl
def md(p:V)(a:E V):E V:=a.map (·%p)
def z5 p a:(md p a).length=Z a:=dj _
def getD_map{f:V->V}(b:f 0=0) a i:I (a.map f) i 0=f (I a i 0):=by
 rw[aO,ju,aO];cases a[i]? with
 |none=>exact b.symm
 |some x=>rfl
def Lk p a i:(md p a).getD i 0=I a i 0%p:=getD_map (iP p) a i
def Em{p}(b:0<p) a:rp p (md p a):=λi=>by rw[Lk];exact⟨jG _ Y,jH _ b⟩
def Ll{p}{a}(b:rp p a):md p a=a:=by refine v7 (z5 p a)<|λi f d=>?_;have:=b i;rw[aO,df d,tK]at this;simp[md,Di];exact iN this.1 this.2
def uc(a:E V) i(b:i<Z a):r (i+1) a=r i a++[I a i 0]:=by rw[vj,aO,df b];rfl
def z6(a:E V) p(s:Z a<=1000000)(l:0<p)(t:p<18446744073709551616)(m:∀i,0<=I a i 0):w O 203 [e ar a,cU p] (e ar<|aU<|md p a):=by
 refine aK Tryz.func203 ?_;have n:=z5 p a;refine U J<|R<|gV ar [] J J (M J<|h<|U J<|ay<|bq (α:=G) (λi=>⟨[(0,e ar a),(1,cU p),(5,.c<|.X 1000000),(6,c i)],[(1000000,.vec 150 ar<|(md p a).take i)],3,[]⟩) (λi=>i<=Z a) (λi=>Z a-i) 0 (bg _) aN ?_)
 .intro i u;refine h (U J<|F J (λb=>?_)<|λb=>?_)
  .have b:i<Z a:=by have b:(i:V)<(Z a:V):=aV b;omega
   have v:Z ((md p a).take i)=i:=cd;refine aE<|h<|ay<|cG<|rl ar [_] J J (hp:=aH) (ra J J J J J J J J J ?_ ?_<|M J ?_)
   .show(_+1+(_+1)/4+192)*8<=_;omega
   .show(_+1)*1<=_;omega
   refine bP<|rt J<|a4 (i+1) b ri<|Wk.trans (wk (st':=⟨[(0,e ar a),(1,cU p),(5,.c<|.X 4008000),(6,c ((i+1:G):V))],[(4008000,.vec 150 ar<|(md p a).take<|i+1)],8,[]⟩) (bK J) ⟨bE J<|bm (aA.vec 150 ar) ?_,fp⟩)<|Wk.trans (gZ 1000000 4008000 J J J) aN;rw[uc _ i Y,Lk,cC,k5<|m i]
  .have b:i=Z a:=by have b:¬(i:V)<(Z a:V):=bc b;omega
   subst b;refine bs<|aS<|dv 1000000 J J J ?_;generalize x:md p a=L at*;refine h<|ay<|bq (α:=G) (λk=>⟨[(5,e ar<|r k L)],[],10,[]⟩) (λk=>k<=Z L/\ij L k=ij L (Z L)) (λk=>k) (Z L) ⟨aL _,J⟩ (wk ⟨sE J ?_,fp⟩ fp) ?_
   .rw[jM (Y:Z L<=Z a),iG];rfl
   rintro k ⟨z,d⟩;have f:(r k L).length=k:=cd;refine h<|R<|rg 26 J J (λb=>?_)<|λb=>?_
   .have b:0<k:=by have b:(((r k L).length:G):V)>0:=aV b;rw[f]at b;omega
    obtain⟨j,rfl⟩:∃j,k=j+1:=⟨k-1,Y⟩;have g:af (((r (j+1) L).length:V)-1)=j:=by rw[f];omega
    have ev:(r (j+1) L).getD j 0=I L j 0:=by rw[aO,Jn Y,<-aO]
    refine M J (hp:=aH)<|F J (λh2=>?_)<|λh2=>?_
    .have h2:I L j 0=0:=by have h2:(r (j+1) L).getD (af<|((r (j+1) L).length:V)-1) 0=0:=dw h2;rwa[g,ev]at h2
     refine aE<|ay<|rt J (hp:=aH)<|fF<|a4 j ⟨Y,?_⟩ vk<|wk ⟨sE J ?_,fp⟩ fp
     .rw[<-d,ij,q h2]
     .rw[g];simp only[sr,List.take_take];rw[uY Y]
    .have h2:I L j 0≠0:=by have h2:(r (j+1) L).getD (af<|((r (j+1) L).length:V)-1) 0≠0:=pN h2;rwa[g,ev]at h2
     refine bs<|aS<|U J<|cv J ?_;unfold aU;rw[<-d,ij,y h2]
   .have b:k=0:=by have b:¬(((r k L).length:G):V)>0:=bc b;rw[f]at b;omega
    subst b;refine M J<|F J (λh2=>pO)<|λ_=>(bs<|aS<|U J<|cv J ?_);unfold aU;rw[<-d];rfl
def w5 a b p(D:Z a<=1000)(H:Z b<=1000)(f:0<p)(t:p<=2147483648)(u:rp p a)(v:rp p b):w O 249 [e ar a,e ar b,cU p] (e ar<|db a b p):=by
 refine aK Tryz.func249 ?_;have l:a=[]\/b=[]->e ar []=e ar (db a b p):=λd=>by rw[db,q d]
 refine U J<|h<|R<|rg 13 J J (λd=>?_)<|λd=>?_
 .have d:a=[]:=by simpa using d
  exact M J<|F J (λh2=>(U J<|bX<|cY<|iX cq J<|bu.trans (bu.nil ar)<|bu.of_eq<|l<|.inl d))<|λh2=>pO
 .have d:a≠[]:=by simpa using d
  refine M J<|F J (λh2=>?_)<|λh2=>?_
  .have h2:b=[]:=by simpa using h2
   exact U J<|bX<|cY<|iX cq J<|bu.trans (bu.nil ar)<|bu.of_eq<|l<|.inr h2
  .have h2:b≠[]:=by simpa using h2
   have K:=cF.2 d;have N:=cF.2 h2;refine aE<|R<|rm ar (Z a+Z b-1) J J J J J J (oe .u64) Y ?_ ?_ ?_
   .show _*8<=_;omega
   .show _*1<=_;omega
   refine M J<|h<|U J<|ay<|bq (α:=G) (λi=>⟨[(0,e ar a),(1,e ar b),(2,cU p),(7,.c<|.X 2006000),(8,c i)],[(2006000,.vec 150 ar<|ot a b p i)],4,[]⟩) (λi=>i<=Z a) (λi=>Z a-i) 0 (bg _) aN ?_;intro i P;have x:=K9 a b p i;refine h<|U J<|F J (λg=>?_)<|λg=>?_
   .have g:i<Z a:=by have g:(i:V)<(Z a:V):=aV g;omega
    refine aE<|h<|ay<|U J<|ay<|bq (α:=G) (λj=>⟨[(0,e ar a),(1,e ar b),(2,cU p),(7,.c<|.X 2006000),(8,c i),(9,c j)],[(2006000,.vec 150 ar<|tY a b p i j<|ot a b p i)],7,[]⟩) (λj=>j<=Z b) (λj=>Z b-j) 0 (bg _) aN ?_;intro j Q;have z:=K8 a b p i (ot a b p i) j;refine h<|U J<|F J (λk=>?_)<|λk=>?_
    .have k:j<Z b:=by have k:(j:V)<(Z b:V):=aV k;omega
     have m:af ((i:V)+(j:V))=i+j:=Y;refine aE<|h<|ay<|rt J (hp:=aH)<|bP<|rt J<|a4 (j+1) k W7<|wk (bK J) ⟨bE J<|bm (aA.vec 150 ar) ?_,fp⟩;rw[tY,m,<-afE _ _ _ p (Qk f (a:=a) (b:=b) i (La a b f i) j<|i+j) (u i) (v j) t];rfl
    .have k:j=Z b:=by have k:¬(j:V)<(Z b:V):=bc k;omega
     subst k;exact bs<|bP<|rt J<|a4 (i+1) g ri<|wk (bK J) ⟨bE J J,fp⟩
   .have g:i=Z a:=by have g:¬(i:V)<(Z a:V):=bc g;omega
    subst g;have n:=La a b f<|Z a;have s:=z6 (ot a b p<|Z a) p Y f Y<|λi=>(n i).1;rw[Ll n]at s;refine bs<|aS<|dv 2006000 J J J<|bQ J J s J<|cv J ?_;rw[db,y<|λC=>C.elim d h2]
def ik(a b:E V)(p:V):E V:=(bJ<|max (Z a)<|Z b).map λi=>(I a i 0+p-I b i 0)%p
def Qv a b p:Z (ik a b p)=max (Z a) (Z b):=by simp[ik]
def En{p}(d:0<p) a b:rp p (ik a b p):=λi=>by
 unfold ik;rw[aO,ju];by_cases h:i<max (Z a) (Z b)
 .rw[k7 h];exact⟨jG _ Y,jH _ d⟩
 .rw[iw cd];exact⟨iZ _,d⟩
def Lm a b p(B:Z a<=1000)(D:Z b<=1000)(l:0<p)(H:p<=2147483648)(t:rp p a)(u:rp p b):w O 252 [e ar a,e ar b,cU p] (e ar<|aU<|ik a b p):=by
 refine aK Tryz.func252 ?_;generalize hM:max (Z a) (Z b)=M;have z:M<=1000:=Y;let L:=(bJ M).map λi=>I a i 0+p-I b i 0
 have C:Z L=M:=by simp[L]
 have f:∀i,i<M->I L i 0=I a i 0+p-I b i 0:=λi v=>by simp only[L];rw[aO,ju,k7 v];rfl
 have m:md p L=ik a b p:=by simp only[L,md,ik,OT,hM];rfl
 have n:∀i,0<=I L i 0:=λi=>by
  by_cases d:i<M
  .rw[f i d];have A:=t i;have h2:=u i;omega
  .rw[aO,iw Y];exact iZ _
 clear_value L;refine U J<|R<|gV ar [] J J (re J<|h<|U J<|ay<|bq (α:=G) (λi=>⟨[(0,e ar a),(1,e ar b),(2,cU p),(7,.c<|.X 1000000),(8,c i)],[(1000000,.vec 150 ar<|r i L)],3,[]⟩) (λi=>i<=M) (λi=>M-i) 0 (bg _) aN ?_);intro i v;have K:(r i L).length=i:=cd;by_cases g:i<M
 .refine kp ⟨[(0,e ar a),(1,e ar b),(2,cU p),(7,.c<|.X 1000000),(8,c i)],[(1000000,.vec 150 ar<|r i L)],4,[]⟩ ?_ (λk=>R<|rg 14 J J (λd=>re J<|F J (λ_=>di<|eD k aN)<|λh2=>pO)<|λd=>re J<|F J (λ_=>di<|eD k aN)<|λh2=>?_)
  .have A:=t i;have h2:=u i;refine h<|ay<|cG<|rc J J (Lj a i)<|rc J J (Lj b i)<|rl ar [_] J J (ra J J J J J J J J J ?_ ?_<|re J ?_)
   .show(_+1+(_+1)/4+192)*8<=_;omega
   .show(_+1)*1<=_;omega
   refine bP<|rt J<|a4 (i+1) g zM<|Wk.trans (wk (st':=⟨[(0,e ar a),(1,e ar b),(2,cU p),(7,.c<|.X 4011000),(8,c ((i+1:G):V))],[(4011000,.vec 150 ar<|r (i+1) L)],8,[]⟩) (bK J) ⟨bE J<|bm (aA.vec 150 ar) ?_,j⟩)<|Wk.trans (gZ 1000000 4011000 J J J) aN;rw[uc _ i Y,f i g,bf (I a i 0+p) Y Y,bf _ Y Y]
  .exfalso;have d:¬(i:V)<(Z a:V):=bc d;have h2:¬(i:V)<(Z b:V):=bc h2;omega
 .have s:i=M:=by omega
  subst s;have x:=z6 L p Y l Y n;rw[m]at x;refine h<|R<|rg 14 J J (λd=>?_)<|λd=>?_
  .exfalso;have d:(i:V)<(Z a:V):=aV d;omega
  .refine re J (F J (λh2=>?_)<|λh2=>?_)
   .exfalso;have h2:(i:V)<(Z b:V):=aV h2;omega
   .rw[jM Y];exact bs<|aS<|dv 1000000 J J J<|bQ J J x J<|cN J
def bS(p:V)(a:E V):Prop:=rp p a/\can a
def afW(a:E V):∀n i,ij a n<=i->i<n->I a i 0=0
 |0,i,_,d=>by omega
 |n+1,i,b,h2=>by
  rw[ij]at b;split at b
  .rename_i d;by_cases f:i=n
   .rw[f];exact d
   .exact afW a n i b Y
  .omega
def Ln(a:E V) n i:(r n a).getD i 0=if i<n then I a i 0 else 0:=by
 rw[aO,Jm];split
 .rw[aO]
 .rfl
def gk(a:E V){i}(b:Z a<=i):I a i 0=0:=by rw[aO,iw b];rfl
def sW a:ps (aU a)=ps a:=PS.ext λi=>by
 rw[cT,cT,aU,Ln];split
 .rfl
 .rename_i h;by_cases e:i<Z a
  .exact(afW a (Z a) i Y e).symm
  .exact(gk a Y).symm
def Xm{p}(b:0<p){a}(d:rp p a) n:rp p (r n a):=λi=>by
 rw[Ln];split
 .exact d i
 .exact⟨iZ _,b⟩
def afX{p}(b:0<p){a}(d:rp p a):rp p (aU a):=Xm b d _
def mE{p}(b:0<p){a}(d:rp p a):bS p (aU a):=⟨afX b d,KQ a⟩
def ud{p}(a:0<p):bS p []:=⟨λi=>by simp;exact a,.inl J⟩
def rE a:Z (aU a)<=Z a:=by unfold aU;rw[iC];omega
def yl{a}(b:can a):aU a=a:=by
 have:ij a (Z a)=Z a:=by
  cases hl:Z a with
  |zero=>rfl
  |succ n=>
   rw[ij,y]
   rcases b with b|b
   .rw[b]at hl;cases hl
   .rw[hl]at b;exact b
 rw[aU,this,iG]
def bS.top{p}{a}(d:bS p a){n}(b:Z a=n+1):I a n 0%p≠0:=by
 rcases d.2 with e|e
 .rw[e]at b;cases b
 .rw[b,eL]at e;have:=d.1 n;rw[iN this.1 this.2];exact e
def bS.len{p}{a}(b:bS p a){n}(d:Dl p n (ps a)):Z a<=n:=by
 by_cases e:Z a<=n
 .exact e
 .obtain⟨m,f⟩:∃m,Z a=m+1:=⟨Z a-1,Y⟩;exact aF (d m Y)<|b.top f
def Qw{p}{a b}(f:bS p a)(g:bS p b)(d:Cg p (ps a) (ps b)):a=b:=by have t:=f.len<|(mD p b).cg d.symm;have u:=g.len<|(mD p a).cg d;refine v7 Y<|λi n s=>?_;have k:=d.at i;have l:=f.1 i;have m:=g.1 i;rw[cT,cT,iN l.1 l.2,iN m.1 m.2,aO,aO,df n,df s]at k;exact k
def afY p a:Cg p (ps<|md p a) (ps a):=Cg.of λi=>by rw[cT,cT,Lk,ou]
def Eo:ps []=0:=PS.ext λi=>by rw[cT,PS.mB];rfl
def Lo{a}{k}v(b:k<Z a):ps (a.set k v)=ps a+PS.K (v-I a k 0)*PS.X k:=PS.ext λi=>by
 rw[PS.ef,PS.eN,cT,cT,wQ _ _ _ _ b];unfold PS.X;split
 .rename_i e;first
   | (subst e;simp;omega)
   | (rw[e];simp;omega)
 next e=>rw[y (λb=>e b.symm)];omega
def Lp a i:ps (r (i+1) a)=ps (r i a)+PS.K (I a i 0)*PS.X i:=PS.ext λj=>by
 rw[PS.ef,PS.eN,cT,cT,Ln,Ln];unfold PS.X;by_cases h:j<i
 .rw[q h,q Y,y Y];omega
 .by_cases e:j=i
  .subst e;rw[q Y,y Y,q J];omega
  .rw[y Y,y Y,y e];omega
def Lq a:ps (r 0 a)=0:=by rw[HJ,Eo]
def Qx:ps [1]=1:=PS.ext λi=>by
 cases i with
 |zero=>rfl
 |succ i=>rfl
def Qy n:ps (bx n 0)=0:=PS.ext λi=>by rw[cT,PS.mB,aO,nG];split<;>rfl
def Cg.afZ{p a b}(d:a%p=b%p) A:Cg p (PS.K a*A) (PS.K b*A):=(Cg.K d).Ei A
def af0(a b:E V)(p:V)(i:G)(f:E V):∀d,i+d<=Z f->Cg p (ps<|tY a b p i d f) (ps f+PS.K (I a i 0)*PS.X i*ps (r d b))
 |0,_=>by rw[tY,Lq,PS.g6,PS.fA];exact Cg.refl _ _
 |d+1,k=>by
  rw[tY,Lo _ (by rw[K8];omega),Lp,PS.fN,<-PS.kq];refine (af0 a b p i f d Y).add ?_;have e:PS.K (I a i 0)*PS.X i*(PS.K (I b d 0)*PS.X d)=PS.K (I a i 0*I b d 0)*PS.X (i+d):=by rw[PS.BV,PS.Eg];ac_rfl
  rw[e];refine Cg.afZ ?_ _;rw[z7,ou,<-z7];congr 1;omega
def af1(a b:E V)(p:V):∀i,i<=Z a->Cg p (ps<|ot a b p i) (ps (r i a)*ps b)
 |0,_=>by rw[ot,Qy,Lq,PS.dy];exact Cg.refl _ _
 |i+1,g=>by have f:=af1 a b p i Y;have d:=af0 a b p i (ot a b p i) (Z b) (by rw[K9];omega);rw[iG]at d;rw[ot,Lp,PS.gQ];exact d.trans<|f.HL _
def HR a b p:Cg p (ps<|db a b p) (ps a*ps b):=by
 unfold db;split
 .rename_i h;rcases h with h|h
  .rw[h,Eo,PS.dy];exact Cg.refl _ _
  .rw[h,Eo,PS.g6];exact Cg.refl _ _
 .rw[sW];have:=af1 a b p (Z a)<|aL _;rwa[iG]at this
def oX{p}(d:0<p) a b:bS p (db a b p):=by
 unfold db;split
 .exact ud d
 .exact mE d<|La a b d _
def ym a b p:Z (db a b p)<=Z a+Z b-1:=by
 unfold db;split
 .exact bg _
 .have:=rE<|ot a b p<|Z a;rwa[K9]at this
def af2 a b p:Cg p (ps<|aU<|ik a b p) (ps a-ps b):=by
 rw[sW];refine Cg.of λi=>?_
 rw[PS.nK,cT,cT,cT,ik,aO,ju];by_cases h:i<max (Z a) (Z b)
 .rw[k7 h];show((I a i 0+p-I b i 0)%p)%p=_;rw[ou,(Y:I a i 0+p-I b i 0=I a i 0-I b i 0+p),Int.add_emod_right]
 .rw[iw cd,gk a Y,gk b Y];rfl
def HS{p:V}{A:PS}:∀{m:G},Dl p m A->Cg p A 0\/∃d,d<m/\A d%p≠0/\Dl p (d+1) A
 |0,a=> .inl<|ar' a
 |m+1,a=>by
  by_cases b:A m%p=0
  .rcases HS (m:=m) (A:=A) (p:=p) (λi l=>by
    by_cases g:i=m
    .rw[g];exact b
    .exact a i Y)with f|⟨d,f,h2,k⟩
   .exact .inl f
   .exact .inr ⟨d,Y,h2,k⟩
  .exact .inr ⟨m,Y,b,a⟩
def BX{p:G}(b:eO p){A B:PS}{d a:G}(f:Dl p (d+1) A)(hB:Dl p (a+1) B)(g:A d%p≠0)(i:B a%p≠0):(A*B) (d+a)%(p:V)≠0:=by rw[f.top hB];exact b.oW g i
def asm{p}(b:eO p){D B}{m n}(f:Dl p m D)(hB:Dl p (n+1) B)(g:B n%p≠0)(i:Dl p n (D*B)):Cg p D 0:=by
 rcases HS f with a|⟨d,a,h2,k⟩
 .exact a
 .exact aF (i (d+n) Y)<|BX b k hB h2 g
def asn{p}(s:eO p){Q a b d B}{m n}(hB:Dl p (n+1) B)(t:B n%p≠0)(hQ:Dl p m Q)(f:Dl p m b)(u:Dl p n a)(g:Dl p n d)(v:Cg p (Q*B+a) (b*B+d)):Cg p Q b/\Cg p a d:=by
 have e:Cg p ((Q-b)*B) (d-a):=by
  have x:(Q-b)*B=(Q*B+a)+ -(b*B+a):=by rw[PS.fB,PS.gQ,PS.neg_mul,PS.rB];have:Q*B+a+(-(b*B)+ -a)=Q*B+ -(b*B)+(a+ -a):=fC;rw[this,PS.k6,PS.fA]
  have z:d-a=(b*B+d)+ -(b*B+a):=by rw[PS.fB,PS.rB];have:b*B+d+(-(b*B)+ -a)=b*B+ -(b*B)+(d+ -a):=fC;rw[this,PS.k6,PS.iI]
  rw[x,z];exact v.HL _
 have l:=asm s (hQ.sub f) hB t<|(g.sub u).cg e.symm;have i:Cg p Q b:=by
  have:=l.HL b;have k:Q-b+b=Q:=by rw[PS.fB,PS.kq,PS.afK,PS.fA]
  rwa[k,PS.iI]at this
 refine⟨i,?_⟩;have A:Cg p (d-a) 0:=by have:=l.Ei B;rw[PS.dy]at this;exact e.symm.trans this
 have:=A.HL a;have k:d-a+a=d:=by rw[PS.fB,PS.kq,PS.afK,PS.fA]
 rw[k,PS.iI]at this;exact this.symm
def aso{p}(b:eO p){A B}{m n}(l:Dl p m A)(hB:Dl p n B)(f:Cg p (A*B) 1):Dl p 1 A:=by
 have a:¬(1:V)%(p:V)=0:=by have:=b.1;rw[iN S Y];decide
 have g:¬Cg p (A*B) 0:=λe=>a (by have:=(e.symm.trans f).at 0;rw[PS.mB,iP]at this;exact this.symm)
 rcases HS l with s|⟨d,_,h2,i⟩
 .exact aF (by have:=s.Ei B;rwa[PS.dy]at this) g
 .rcases HS hB with t|⟨e,_,u,v⟩
  .exact aF (by have:=t.Le A;rwa[PS.g6]at this) g
  .have k:=BX b i v h2 u;rw[f.at (d+e)]at k;by_cases x:d=0
   .subst x;exact i
   .exact aF (afN (p:V) (d+e) Y) k
def af3(b:E V)(p d:V)(i:G)(f:E V):∀a,i+a<=Z f->Cg p (ps<|wY b p d i a f) (ps f-PS.K d*PS.X i*ps (r a b))
 |0,_=>by rw[wY,Lq,PS.g6,PS.fB,PS.neg_zero,PS.fA];exact Cg.refl _ _
 |a+1,l=>by
  have e:ps f-PS.K d*PS.X i*ps (r (a+1) b)=(ps f-PS.K d*PS.X i*ps (r a b))+PS.K (-(d*I b a 0))*PS.X (i+a):=by
   rw[Lp,PS.fN,PS.fB,PS.rB,PS.fB,<-PS.kq];congr 1;have k:PS.K d*PS.X i*(PS.K (I b a 0)*PS.X a)=PS.K (d*I b a 0)*PS.X (i+a):=by rw[PS.BV,PS.Eg];ac_rfl
   rw[k,PS.neg_eq,<-PS.dc,<-PS.BV];congr 2;omega
  rw[wY,Lo _ (by rw[Ql];omega),e];refine (af3 b p d i f a Y).add<|Cg.afZ ?_ _;rw[z7,ou,<-z7,show∀x:V,x+(p-d)*I b a 0-x= -(d*I b a 0)+p*I b a 0 by intro x;rw[K0];omega,P7]
structure DvI(a b:E V)(p:V)(m n k:G)(x:E V×E V):Prop where
 cg:Cg p (ps a) (ps x.1*ps b+ps x.2)
 dl:Dl p (n+(m-k)) (ps x.2)
 z:∀d,d<m-k->x.1.getD d 0=0
def af4{p:V}{a b:E V}{v:V}{n m:G}(A:Z b=n+1)(s:Z a=n+m)(t:I b n 0*v%p=1%p):∀k,k<=m->DvI a b p m n k (jb a b p v m n k)
 |0,_=>by
  refine⟨?_,?_,λd u=>?_⟩
  .rw[jb,Qy,PS.dy,PS.iI];exact Cg.refl _ _
  .rw[jb,DY,<-s];exact mD p a
  .rw[jb,aO,nG];split<;>rfl
 |k+1,N=>by
  have f:=af4 A s t k Y;have P:=Qm a b p v m n k;obtain⟨i,Q⟩:∃i,m=i+(k+1):=⟨m-(k+1),Y⟩;have B:m-(k+1)=i:=Y;rw[jb,B];generalize hx:jb a b p v m n k=x at*;generalize hc:I x.2 (i+n) 0*v%p=c;have g:=af3 b p c i x.2 (Z b) Y;rw[iG]at g;have C:I x.1 i 0=0:=f.z i Y;have D:ps (x.1.set i c)=ps x.1+PS.K c*PS.X i:=by rw[Lo c Y,C,D2]
  refine⟨?_,?_,λd u=>?_⟩
  .simp only;rw[D];have l:ps x.1*ps b+ps x.2=(ps x.1+PS.K c*PS.X i)*ps b+(ps x.2-PS.K c*PS.X i*ps b):=by rw[PS.gQ,PS.fB];have:ps x.1*ps b+PS.K c*PS.X i*ps b+(ps x.2+ -(PS.K c*PS.X i*ps b))=ps x.1*ps b+ps x.2+(PS.K c*PS.X i*ps b+ -(PS.K c*PS.X i*ps b)):=fC;rw[this,PS.k6,PS.fA]
   exact(f.cg.trans<|Cg.of_eq l).trans<|g.symm.afL _
  .simp only;refine Dl.cg (λd u=>?_) g.symm;rw[PS.nK,PS.dc,PS.eN,PS.lD];by_cases e:d=n+i
   .subst e;rw[q Y,(Y:n+i-i=n),cT,cT,<-hc,JB i n];generalize I x.2 (n+i) 0=y;rw[z7,sV,ou,<-sV,ko,fL v,sV,t,<-sV,oV,Int.sub_self,iP]
   .rw[q Y,z7,f.dl d Y,sV,mD p b (d-i) Y,iO,iP];rfl
  .simp only;rw[wQ _ _ _ _ Y];split
   .omega
   .exact f.z d Y
def HT{p}(a:eO p)(b:p<=2147483648){x:V}(d:0<=x)(i:x<p)(k:x≠0):x*((jR (af x) (af ((p:G):V)):G):V)%(p:V)=1:=by
 obtain⟨y,rfl⟩:=Ed d;have l:=a.1;rw[cC,cC,afS y p Y Y];have f:¬p∣y:=λg=>by have:=wZ Y g;omega
 have m:=a.inv f;rw[<-gM];omega
def asq{p}{a}{n}(f:rp p a)(g:Dl p n (ps a)):ps (r n a)=ps a:=PS.ext λi=>by
 rw[cT,cT,Ln];split
 .rfl
 .have b:=g i Y;have d:=f i;rw[cT,iN d.1 d.2]at b;exact b.symm
def nL{p}(t:eO p)(f:p<=2147483648){a b}(u:rp p a)(x:bS p b)(k:b≠[]):
  Cg p (ps a) (ps (aW a b p).1*ps b+ps (aW a b p).2)/\rp p (aW a b p).1/\rp p (aW a b p).2/\(aW a b p).2.length<=Z b-1/\(bS p a->bS p (aW a b p).2)/\(aW a b p).1.length=Z a-(Z b-1):=by
 have K:=t.1
 have d:(0:V)<(p:V):=Y
 obtain⟨n,l⟩:∃n,Z b=n+1:=⟨Z b-1,kw<|cF.2 k⟩
 rw[aW,l,eL]
 by_cases h:Z a<=n
 .rw[q h];refine⟨?_,(ud d).1,u,h,λC=>C,?_⟩
  .rw[Eo,PS.dy,PS.iI];exact Cg.refl _ _
  .show 0=_;omega
 .rw[y h];obtain⟨m,z⟩:∃m,Z a=n+m:=⟨Z a-n,Y⟩;rw[z,Lb];have g:=x.1 n;have s:I b n 0≠0:=by have:=x.top l;exact λe=>this HU
  have D:=HT t f g.1 g.2 s;generalize ((jR (af<|I b n 0) (af ((p:G):V)):G):V)=v at*;have A:=af4 (p:=p) (v:=v) l z (by rw[D,iN S Y]) m<|aL _;have i:=W9 b v m n d u m;have B:=A.dl;rw[kg,jZ]at B;refine⟨?_,i.1,afX d<|Xm d i.2 n,?_,λ_=>mE d<|Xm d i.2 n,(Qm a b p v m n m).1⟩
  .simp only;rw[sW,asq i.2 B];exact A.cg
  .simp only;have:=rE<|(jb a b p v m n m).2.take n;rw[iC]at this;omega
def rF(p:V):G->E V->E V->E V
 |0,f,_=>f
 |k+1,f,g=>if g=[]then f else rF p k g (aW f g p).2
def m8(p:V)(a:E V):E V:=if a=[]then[]else db a [((jR (af<|I a (Z a-1) 0) (af p):G):V)] p
def il(p:V)(f g:E V):E V:=m8 p<|rF p (Z g+1) f g
def bC(p:V)(A:PS):Prop:=∃n,Dl p n A
def bC.add{p}{A B}(a:bC p A)(k:bC p B):bC p (A+B):=by let ⟨n,a⟩:=a;let ⟨m,k⟩:=k;exact⟨max n m,(a.le Y).add<|k.le Y⟩
def bC.neg{p}{A}(a:bC p A):bC p (-A):=by let ⟨n,a⟩:=a;exact⟨n,a.neg⟩
def bC.sub{p}{A B}(a:bC p A)(k:bC p B):bC p (A-B):=by rw[PS.fB];exact a.add k.neg
def bC.mul{p}{A B}(a:bC p A)(k:bC p B):bC p (A*B):=by let ⟨n,a⟩:=a;let ⟨m,k⟩:=k;exact⟨n+m,a.mul' k⟩
def bC.ps p a:bC p (ps a):=⟨_,mD p a⟩
def bC.K p a:bC p (PS.K a):=⟨_,Xd p a⟩
def bC.zero p:bC p 0:=⟨0,asb p 0⟩
def bC.one p:bC p 1:=⟨1,afN p⟩
def z8(p:V)(A B:PS):Prop:=∃U a,bC p U/\bC p a/\Cg p (U*A+a*B) 1
def z8.step{p}{A B Q a}(d:z8 p A B)(hQ:bC p Q)(f:Cg p A (Q*B+a)):z8 p B a:=by
 let ⟨U,V,b,h2,g⟩:=d;refine⟨U*Q+V,U,(b.mul hQ).add h2,b,?_⟩;have:(U*Q+V)*B+U*a=U*(Q*B+a)+V*B:=by simp[PS.fN,PS.gQ];ac_rfl
 rw[this];exact((f.symm.Le U).HL _).trans g
def z8.asr{p}{A B Q a}(b:z8 p B a)(hQ:bC p Q)(d:Cg p A (Q*B+a)):z8 p A B:=by
 let ⟨U,V,f,h2,g⟩:=b;refine⟨V,U-V*Q,h2,f.sub<|h2.mul hQ,?_⟩;have i:V*(Q*B+a)+(U-V*Q)*B=U*B+V*a:=by rw[PS.fN,PS.fB,PS.gQ,PS.neg_mul];have:V*(Q*B)+V*a+(U*B+ -(V*Q*B))=(U*B+V*a)+(V*Q*B+ -(V*Q*B)):=fC;rw[this,PS.k6,PS.fA]
 exact((d.Le V).HL _).trans<|(Cg.of_eq i).trans g
def Xn{p:G}(l:eO p)(a:p<=2147483648):∀(k:G)(f g:E V),bS p f->bS p g->Z g<k->bS p (rF p k f g)/\(z8 p (ps f) (ps g)↔Z (rF p k f g)=1)/\Z (rF p k f g)<=max (Z f) (Z g)
 |0,_,_,_,_,s=>by omega
 |k+1,f,g,d,hg,s=>by
  rw[rF];have D:=l.1;split
  .rename_i e;subst e;refine⟨d,⟨λb=>?_,λz=>?_⟩,Y⟩
   .let ⟨U,C,t,H,b⟩:=b;rw[Eo,PS.g6,PS.fA,PS.dk]at b;let ⟨m,t⟩:=t;have v:=d.len<|aso l (mD p f) t b;by_cases e:Z f=0
    .exfalso;have:=gx e;subst this;rw[Eo,PS.dy]at b;have:=b.at 0;rw[PS.mB,iP]at this;have u:(1:V)%(p:V)=1:=iN S Y;have x:(0:V)=1%(p:V):=this;omega
    .omega
   .have u:=d.1 0;have x:I f 0 0≠0:=λe=>(d.top (n:=0) Y) HU
    refine⟨PS.K ((jR (I f 0 0).toNat (af ((p:G):V)):G):V),0,bC.K _ _,bC.zero _,?_⟩;rw[PS.dy,PS.fA];have B:ps f=PS.K (I f 0 0):=PS.ext λi=>by
     unfold PS.K;split
     next e=>subst e;rfl
     .exact gk f Y
    rw[B,<-PS.BV,PS.Ld,fL];exact Cg.K (by rw[HT l a u.1 u.2 x,iN S Y])
  next e=>let ⟨d1,d2,d3,d4,d5,d6⟩:=nL l a d.1 hg e;have z:=cF.2 e;let ⟨i1,i2,i3⟩:=Xn l a k g (aW f g p).2 hg (d5 d) Y;refine⟨i1,⟨λb=>i2.1<|b.step (bC.ps _ _) d1,λs=>(i2.2 s).asr (bC.ps _ _) d1⟩,Y⟩
def Xo{p}(m:eO p)(d:p<=2147483648){a}(s:bS p a)(t:a≠[]):bS p (m8 p a)/\Z (m8 p a)=Z a/\I (m8 p a) (Z a-1) 0=1/\Cg p (ps<|m8 p a) (ps a*PS.K ((jR (af<|I a (Z a-1) 0) (af ((p:G):V)):G):V))/\Cg p (ps a) (ps (m8 p a)*PS.K (I a (Z a-1) 0)):=by
 have H:=m.1;obtain⟨n,u⟩:∃n,Z a=n+1:=⟨Z a-1,kw<|cF.2 t⟩;have x:=s.1 n;have g:I a n 0≠0:=λe=>s.top u HU
 have z:=HT m d x.1 x.2 g;rw[m8,y t,u,eL];generalize ((jR (af<|I a n 0) (af ((p:G):V)):G):V)=v at*;have k:ps [v]=PS.K v:=PS.ext λi=>by
  cases i with
  |zero=>rfl
  |succ i=>rfl
 have f:=HR a [v] p;rw[k]at f;have A:=oX (Y:(0:V)<p) a [v];have b:(ps<|db a [v] p) n%(p:V)=1:=by rw[f.at n,PS.dk,PS.eN,fL,cT];exact z
 have C:n<Z (db a [v] p):=by
  by_cases e:n<Z (db a [v] p)
  .exact e
  .rw[cT,gk _ Y]at b;simp at b
 have l:=ym a [v] p;have D:Z (db a [v] p)=n+1:=by simp[qT]at l;omega
 refine⟨A,D,?_,f,?_⟩
 .have B:=A.1 n;rw[cT,iN B.1 B.2]at b;exact b
 .refine Cg.symm<|(f.Ei _).trans ?_;rw[PS.dc,<-PS.BV,fL v];have:Cg p (ps a*PS.K (I a n 0*v)) (ps a*PS.K 1):=(Cg.K<|by rw[z,iN S Y]).Le _;rw[<-PS.Ld,PS.fO]at this;exact this
def ass{p}(b:eO p)(a:p<=2147483648){f g}(d:bS p f)(i:bS p g):Z (il p f g)=1↔z8 p (ps f) (ps g):=by
 let ⟨k,h2,l⟩:=Xn b a (Z g+1) f g d i<|dV _;rw[h2,il];by_cases e:rF p (Z g+1) f g=[]
 .rw[e,m8,q J]
 .rw[(Xo b a k e).2.1]
def ast k l:ps (bx k 0++l)=PS.X k*ps l:=PS.ext λi=>by
 rw[PS.lD,cT,cT,aO,asu,ig];by_cases h:i<k
 .rw[q h,y Y,nG,q h];rfl
 .rw[y h,q Y,<-aO]
def asv{p}(a:0<p) k{l}(b:rp p l):rp p (bx k 0++l):=λi=>by
 rw[aO,asu,ig];split
 .rw[nG];split<;>exact⟨iZ _,a⟩
 .have:=b<|i-k;rwa[aO]at this
def af5 x:ps [x]=PS.K x:=PS.ext λi=>by
 cases i with
 |zero=>rfl
 |succ i=>rfl
def HV{p x}(a:0<=x)(b:x<p):rp p [x]:=λi=>by
 cases i with
 |zero=>exact⟨a,b⟩
 |succ i=>exact⟨iZ _,(Y:(0:V)<p)⟩
structure Lr(p:V)(a b:E V)(M:G)(x:E V×E V):Prop where
 c:bS p x.1
 l:x.1.length<=a.length
 ql:x.2.length=M
 qr:rp p x.2
 cg:Cg p (ps a) (ps x.2*ps b+ps x.1)
 z:∀d,d+b.length<=x.1.length->x.2.getD d 0=0
def Lr.next{p}(hp:eO p)(t:p<=2147483648){a b}{u}{d g}(i:Lr p a b u (d,g))(hb:bS p b)(H:b≠[])(hl:Z b<=Z d)(hM:Z a-Z b<u)
 {f}(N:f=I d (Z d-1) 0*((jR (af<|I b (Z b-1) 0) (af ((p:G):V)):G):V)%(p:V)):
  Lr p a b u (aU<|ik d (bx (Z d-Z b) 0++db [f] b p) p,g.set (Z d-Z b) f)/\Z (aU<|ik d (bx (Z d-Z b) 0++db [f] b p) p)<Z d:=by
 have U:=hp.1
 have m:(0:V)<(p:V):=Y
 have F:=cF.2 H
 obtain⟨n,P⟩:∃n,Z b=n+1:=⟨Z b-1,Y⟩
 obtain⟨k,o⟩:∃k,Z d=k+(n+1):=⟨Z d-(n+1),Y⟩
 rw[o,P,eL,(Y:k+(n+1)-1=n+k)]at N
 rw[o,P,eL]
 have x:=hb.1 n
 have Q:I b n 0≠0:=λe=>hb.top P HU
 have J:=HT hp t x.1 x.2 Q
 generalize ((jR (af<|I b n 0) (af ((p:G):V)):G):V)=v at*
 have A:0<=f/\f<p:=by rw[N];exact⟨jG _ Y,jH _ m⟩
 generalize L:bx k 0++db [f] b p=S
 have T:Cg p (ps S) (PS.K f*PS.X k*ps b):=by rw[<-L,ast];have s:=HR [f] b p;rw[af5]at s;have W:=s.Le<|PS.X k;have e:PS.X k*(PS.K f*ps b)=PS.K f*PS.X k*ps b:=fC;rwa[e]at W
 have B:Cg p (ps<|aU<|ik d S p) (ps d-PS.K f*PS.X k*ps b):=(af2 d S p).trans<|(Cg.refl _ _).sub T
 have C:bS p (aU<|ik d S p):=mE m<|En m d S
 have w:Z (aU<|ik d S p)<=n+k:=by
  refine C.len<|Dl.cg (λj E=>?_) B.symm;rw[PS.nK,PS.dc,PS.eN,PS.lD];by_cases e:j=n+k
  .subst e;rw[q Y,(Y:n+k-k=n),cT,cT,N];generalize I d (n+k) 0=y;rw[z7,sV,ou,<-sV,ko,fL v,sV,J,oV,ou,Int.sub_self,iP]
  .rw[q Y,z7,mD p d j (Y:Z d<=j),sV,mD p b (j-k) Y,iO,iP];rfl
 have D:k<Z g:=by have O:Z d<=Z a:=i.l;have h6:Z g=u:=i.ql;omega
 have c:I g k 0=0:=i.z k (Y:k+Z b<=Z d)
 refine⟨⟨C,?_,?_,Qj i.qr _ A.1 A.2,?_,λj E=>?_⟩,Y⟩
 .have O:Z d<=Z a:=i.l;show Z (aU<|ik d S p)<=Z a;omega
 .show(g.set k f).length=u;rw[px];exact i.ql
 .simp only;rw[Lo f D,c,D2];have R:ps g*ps b+ps d=(ps g+PS.K f*PS.X k)*ps b+(ps d-PS.K f*PS.X k*ps b):=by rw[PS.gQ,PS.fB];have:ps g*ps b+PS.K f*PS.X k*ps b+(ps d+ -(PS.K f*PS.X k*ps b))=ps g*ps b+ps d+(PS.K f*PS.X k*ps b+ -(PS.K f*PS.X k*ps b)):=fC;rw[this,PS.k6,PS.fA]
  have s:Cg p (ps a) (ps g*ps b+ps d):=i.cg;exact(s.trans<|Cg.of_eq R).trans<|B.symm.afL _
 .simp only at E⊢;rw[wQ _ _ _ _ D];split
  .omega
  .exact i.z j (Y:j+Z b<=Z d)
def BY p(hp:eO p)(u:p<=2147483648) a b(la:Z a<=500)(lb:Z b<=500)(D:bS p a)(H:bS p b)(A:b≠[]):
  w O 207 [cS ar a,cS ar b,cU p] (.a [.S ar (aU (aW a b p).1),.S ar (aW a b p).2]):=by
 refine aK Tryz.func207 ?_
 have h2:=hp.1
 have d:(0:V)<(p:V):=Y
 have hpz:(p:V)≠0:=Y
 have hl0:=cF.2 A
 have N:=z6 a p Y d Y<|λi=>(D.1 i).1
 rw[Ll D.1,yl D.2]at N
 refine U J<|bQ J J N J<|R ?_
 obtain⟨g,hM⟩:∃g:G,max ((Z a:V)-(Z b:V)+1) 0=(g:V):=⟨af<|max ((Z a:V)-(Z b:V)+1) 0,Y⟩
 refine rm ar g J J J J J J (oe .u64) (by rw[q J];split<;>omega) ?_ ?_<|M J ?_
 .show _*8<=_;omega
 .show _*1<=_;omega
 have a2:af ((Z b:V)-1)=Z b-1:=Y
 have L:I b (Z b-1) 0≠0:=λe=>H.top (n:=Z b-1) Y HU
 have B:w O 248 [cU (I b (af<|(Z b:V)-1) 0),cU p] (.t [(false,[.I .u64 (jR (af<|I b (Z b-1) 0) (af ((p:G):V)):G)]),(false,[.I .i64 0])]):=by rw[a2];exact Xl (I b (Z b-1) 0) p (H.1<|Z b-1) L Y Y
 refine R<|rc J J B<|M J (hp:=aH) ?_
 generalize hv:((jR (af<|I b (Z b-1) 0) (af ((p:G):V)):G):V)=v
 have hvb:0<=v/\v<p:=by have:=W5 (af<|I b (Z b-1) 0) (p-2) p Y;rw[<-hv,jR,cC];omega
 have yc:Lr p a b g (a,bx g 0):=by
  refine⟨D,aL _,ig,W6 d g,?_,λgT _=>?_⟩
  .show Cg p (ps a) (ps (bx g 0)*ps b+ps a);rw[Qy,PS.dy,PS.iI];exact Cg.refl _ _
  .show I (bx g (0:V)) gT 0=0;rw[aO,nG];split<;>rfl
 refine h<|ay<|bq (α:=E V×E V) (λx=>⟨[(1,cS ar b),(2,cU p),(6,.c<|.P 0 0),(7,cS ar x.1),(8,.c<|.X 2007000),(9,cU v)],[(0,.box 201 0 [.V (.slice none 0 0),.V<|.slice none 0 0]),(2007000,.vec 150 ar x.2)],4,[]⟩) (Lr p a b g) (λx=>Z x.1) (a,bx g 0) yc (wk (bK J) ⟨bE J J,bR J,j⟩) ?_
 rintro⟨r,s⟩ K
 have hc:bS p r:=K.c
 have Kq:Z r<=Z a:=K.l
 have P8:Z s=g:=K.ql
 refine h<|U J<|F J (λz=>?_)<|λz=>?_
 .have z:Z b<=Z r:=by have z:(Z r:V)>=(Z b:V):=aV z;omega
  generalize hf:I r (Z r-1) 0*v%(p:V)=f;let ⟨T,W⟩:=K.next hp u H A z Y (f:=f) (by rw[hv];exact hf.symm);have o:0<=f/\f<p:=by rw[<-hf];exact⟨jG _ Y,jH _ d⟩
  have a3:af ((Z r:V)-1)=Z r-1:=Y;obtain⟨k,hk⟩:∃k,Z r=k+Z b:=⟨Z r-Z b,Y⟩;have ek:(Z r:V)-(Z b:V)=(k:V):=Y;rw[(Y:Z r-Z b=k)]at T W;refine aE<|ay<|U J<|U J (hp:=aH)<|fq (st':=⟨[(1,cS ar b),(2,cU p),(6,.c<|.P 0 0),(7,cS ar r),(8,.c<|.X 2007000),(9,cU v),(11,c k),(12,cU f)],[(0,.box 201 0 [.V (.slice none 0 0),.V<|.slice none 0 0]),(2007000,.vec 150 ar s)],8,[]⟩) (wk ⟨sR J,sR J,sR J,sR J,sR J,sR J,sE J ?_,sE J ?_,j⟩<|n5 J) ?_
  .exact jQ ek
  .refine cj ?_;rw[a3,<-hf];exact afF _ v p (hc.1<|Z r-1) hvb Y
  refine U J (hp:=aH)<|R<|rm ar k J J J J J J (oe .u64) J ?_ ?_ ?_
  .show _*8<=_;omega
  .show _*1<=_;omega
  have hpl:=ym [f] b p;simp[qT]at hpl;refine rl ar [_] J J (rc J J (w5 [f] b p au Y d Y (HV o.1 o.2) H.1)<|ra J J J J J J J J J ?_ ?_<|M J ?_)
  .show(_+_+(_+_)/4+192)*8<=_;rw[ig];omega
  .show(_+_)*1<=_;rw[ig];omega
  refine dv 9007000 J J J<|cG<|rc J J (Lm r (bx k 0++db [f] b p) p Y (by rw[iV,ig];omega) d Y hc.1<|asv d k (oX d _ _).1)<|M J<|fF<|a4 (aU<|ik r (bx k 0++db [f] b p) p,s.set k f) T W<|wk (bK J) ⟨bR J,bE J<|bm (aA.vec 150 ar) ?_,j⟩;rw[cC]
 .have z:Z r<Z b:=by have z:¬(Z r:V)>=(Z b:V):=bc z;omega
  have C:rp p s:=K.qr;have hcg:Cg p (ps a) (ps s*ps b+ps r):=K.cg;let ⟨d1,d2,d3,d4,d5,d6⟩:=nL hp u D.1 H A;obtain⟨n,hn⟩:∃n,Z b=n+1:=⟨Z b-1,Y⟩;let ⟨e1,e2⟩:=asn hp (m:=max (Z s) (aW a b p).1.length) (n:=n) (hn▸mD p b) (H.top hn) ((mD p s).le Y) ((mD p (aW a b p).1).le Y) ((mD p r).le Y) ((mD p (aW a b p).2).le Y)<|hcg.symm.trans d1;have f2:r=(aW a b p).2:=Qw hc (d5 D) e2;have f1:aU s=aU (aW a b p).1:=Qw (mE d C) (mE d d2) (by rw[sW,sW];exact e1);have ht:=z6 s p Y d Y<|λi=>(C i).1;rw[Ll C,f1]at ht;refine bs<|aS<|dv 2007000 J J J<|bQ J J ht J<|cv J ?_;rw[f2];rfl
def vq p(g:eO p)(d:p<=2147483648) a b(i:Z a<=500)(k:Z b<=500)(l:bS p a)(m:bS p b)(f:b≠[]):
  w O 200 [e ar a,e ar b,cU p] (e ar (aW a b p).2):=by
 refine aK Tryz.func200 ?_
 exact U J<|bQ J J (BY p g d a b i k l m f) J<|cN J
def af7 p(z:eO p)(f:p<=2147483648) a(D:Z a<=500)(m:bS p a):
  w O 201 [cS ar a,cU p] (cS ar<|m8 p a):=by
 refine aK Tryz.func201 ?_
 have C:=z.1
 have g:(0:V)<(p:V):=Y
 refine U J<|h<|U J<|F J (λd=>?_)<|λd=>aE ?_
 .have d:(Z a:V)=0:=dw d;have s:a=[]:=gx Y;refine U J<|bX<|cY<|iX cq J ?_;rw[m8,q s];exact bu.nil ar
 .have d:(Z a:V)≠0:=pN d;have s:a≠[]:=λe=>d vO
  have B:af ((Z a:V)-1)=Z a-1:=Y;have x:I a (Z a-1) 0≠0:=λe=>m.top (n:=Z a-1) Y HU
  have b:w O 248 [cU (I a (af<|(Z a:V)-1) 0),cU p] (.t [(false,[.I .u64 (jR (af<|I a (Z a-1) 0) (af ((p:G):V)):G)]),(false,[.I .i64 0])]):=by rw[B];exact Xl (I a (Z a-1) 0) p (m.1<|Z a-1) x Y Y
  refine R<|rc J J b (hp:=aH)<|M J ?_;have A:=Xo z f m s;generalize hv:((jR (af<|I a (Z a-1) 0) (af ((p:G):V)):G):V)=v at*;have k:0<=v/\v<p:=by have:=W5 (af<|I a (Z a-1) 0) (p-2) p Y;rw[<-hv,jR,cC];omega
  have l:=w5 [v] a p au Y g Y (HV k.1 k.2) m.1;have e:db [v] a p=m8 p a:=by refine Qw (oX g _ _) A.1<|(HR [v] a p).trans ?_;rw[af5,PS.dk];exact A.2.2.2.1.symm
  rw[e]at l;exact R<|rl ar [_] J J (rc J J l<|M J<|cN J)
def HW p(t:eO p)(d:p<=2147483648) a b(z:Z a<=500)(A:Z b<=500)(B:bS p a)(D:bS p b):
  w O 171 [e ar a,e ar b,cU p] (e ar<|il p a b):=by
 refine aK Tryz.func171 ?_
 refine U J<|h<|ay<|bq (α:=G×E V×E V) (λx=>⟨[(0,e ar x.2.1),(1,e ar x.2.2),(2,cU p)],[],1,[]⟩) (λx=>rF p x.1 x.2.1 x.2.2=rF p (Z b+1) a b/\Z x.2.2<x.1/\bS p x.2.1/\bS p x.2.2/\Z x.2.1<=500/\Z x.2.2<=500) (λx=>Z x.2.2) (Z b+1,a,b) ⟨J,dV _,B,D,z,A⟩ aN ?_
 rintro⟨k,f,g⟩ ⟨l,h2,n,s,u,v⟩
 simp only at l h2 n s u v
 cases k with
 |zero=>omega
 |succ k=>
 rw[rF]at l
 refine h<|U J<|F J (λi=>?_)<|λi=>?_
 .have m:g≠[]:=by have i:(Z g:V)>0:=aV i;intro C;rw[C]at i;simp at i
  rw[y m]at l;let ⟨d1,d2,d3,d4,d5,d6⟩:=nL t d n.1 s m;have H:=cF.2 m;exact aE<|ay<|bQ J J (vq p t d f g u v n s m) J<|U J<|rt J<|fF<|a4 (k,g,(aW f g p).2) ⟨l,(Y:(aW f g p).2.length<k),s,d5 n,v,(Y:(aW f g p).2.length<=500)⟩ (Y:(aW f g p).2.length<Z g) aN
 .have m:g=[]:=by have i:¬(Z g:V)>0:=bc i;exact gx Y
  rw[q m]at l;refine bs<|aS<|bQ J J (af7 p t d f u n) J<|cv J ?_;rw[il,<-l]
def aJ(n:G)(z:V):Prop:=aC z<4294967296^n
def aJ.sm{n}{z}(a:aJ n z)(b:n<=1099511627776):Sm z:=by
 refine br (DZ (k:=n) ?_) b;have:((aC z:G):V)<((4294967296^n:G):V):=by have a:aC z<4294967296^n:=a;omega
 rwa[wW]at this
def aJ.le{m n}{z}(a:aJ m z)(k:m<=n):aJ n z:=gK a<|dD S k
def aJ.mul{m n}{a b}(d:aJ m a)(k:aJ n b):aJ (m+n) (a*b):=by unfold aJ at*;rw[tZ,jm];exact Qg d k
def aJ.add{n}{a b}(d:aJ n a)(k:aJ n b):aJ (n+1) (a+b):=by unfold aJ at*;have:=Xq a b;rw[fG];omega
def aJ.neg{n}{a}(b:aJ n a):aJ n (-a):=by unfold aJ at*;rwa[Qa]
def aJ.sub{n}{a b}(d:aJ n a)(k:aJ n b):aJ (n+1) (a-b):=by rw[WV];exact d.add k.neg
def aJ.zero n:aJ n 0:=by unfold aJ;exact gG S
def aJ.emod{n}{a m}(b:0<m)(d:aJ n m):aJ n (a%m):=by have f:=jG a (Y:m≠0);have g:=jH a b;unfold aJ at*;omega
def aJ.one{a}(b:aC a<4294967296):aJ 1 a:=by unfold aJ;rwa[Nat.pow_one]
def aJ.pow{n:G}{a:V}(b:aJ n a):∀k,aJ (n*k+1) (a^k)
 |0=>by unfold aJ;simp
 |k+1=>by rw[gP];exact((aJ.pow b k).mul b).le (by rw[Nat.mul_succ];omega)
def af8 a b u v(g:∀i,aJ u (I a i 0))(l:∀i,aJ v (I b i 0)) n:∀k,k<=4294967296->aJ (u+v+1) (lR (λi=>I a i 0) (λi=>I b i 0) n k):=by
 have d:∀k,aC (lR (λi=>I a i 0) (λi=>I b i 0) n k)<=k*4294967296^(u+v):=by
  intro k;induction k with
  |zero=>simp[lR]
  |succ k p=>
   have h:=(g k).mul<|l<|n-k
   unfold aJ at h
   have m:=Xq (lR (λi=>I a i 0) (λi=>I b i 0) n k)<|I a k 0*I b (n-k) 0
   rw[gY,je]
   simp only[lR]
   omega
 intro k t;by_cases s:k=4294967296
 .subst s;unfold aJ;have f:0<4294967296^(u+v):=gG S;have:∀k,aC (lR (λi=>I a i 0) (λi=>I b i 0) n k)<4294967296^(u+v)\/aC (lR (λi=>I a i 0) (λi=>I b i 0) n k)<k*4294967296^(u+v):=by
   intro k;induction k with
   |zero=>left;simp[lR];exact f
   |succ k p=>
    right
    have h:=(g k).mul<|l<|n-k
    unfold aJ at h
    have m:=Xq (lR (λi=>I a i 0) (λi=>I b i 0) n k)<|I a k 0*I b (n-k) 0
    have x:=d k
    rw[gY,je]
    simp only[lR]
    omega
  rcases this 4294967296 with h|h
  .exact gK h<|dD S Y
  .rwa[fG,gA]
 .have h:=d k;unfold aJ;have f:0<4294967296^(u+v):=gG S;have m:k*4294967296^(u+v)<4294967296*4294967296^(u+v):=WY Y f;rw[fG,gA<|4294967296^(u+v)];omega
def af9 a b u v(x:Z a<=1000)(D:Z b<=1000)(s:u+v<=100000)(d:∀i,aJ u (I a i 0))(g:∀i,aJ v (I b i 0)):w O 212 [e .z a,e .z b] (e .z<|aU<|m7 a b):=by
 refine aK Tryz.func212 ?_;refine U J<|R<|gV .z [] J J (M J<|bI<|U J ?_);generalize hA:(λi=>I a i 0)=A;generalize hB:(λi=>I b i 0)=B;refine ay<|bq (α:=G) (λn=>⟨[(0,e .z a),(1,e .z b),(5,.c<|.X 1000000),(6,c n)],[(1000000,.vec 42 .z<|(bJ n).map<|conv A B)],3,[]⟩) (λn=>n<=Z a+Z b-1) (λn=>Z a+Z b-n) 0 (bg _) aN ?_;intro n l;refine bI<|U J<|F J (λh=>?_)<|λh=>?_
 .have h:n+1<Z a+Z b:=by have h:(n:V)+1<Z a+Z b:=fg;omega
  refine aE<|bI<|ay<|bQ J J (km 0 S S) J<|bI<|U J<|ay<|bq (α:=G) (λk=>⟨[(0,e .z a),(1,e .z b),(5,.c<|.X 1000000),(6,c n),(7,.c<|.P 4001000 0),(8,c k)],[(4001000,.box 42 0<|av .z<|lR A B n k),(1000000,.vec 42 .z<|(bJ n).map<|conv A B)],6,[]⟩) (λk=>k<=n+1) (λk=>n+1-k) 0 (bg _) (wk (bK J) ⟨bE J J,bR J,j⟩) ?_;intro k m;refine bI<|U J<|F J (λh2=>?_)<|λh2=>?_
  .have h2:k<=n:=by have h2:(k:V)<=n:=sk;omega
   have p:=af8 a b u v d g n k Y;rw[hA,hB]at p;refine aE<|bI<|ay<|cG<|rc J J (KY a k)<|rc J J (f:=256) (r:=aZ<|I b (n-k) 0) (by have:=KY b<|n-k;rw[(Y:((n-k:G):V)=(n:V)-(k:V))]at this;exact this)<|rc J J (mr (I a k 0) (I b (n-k) 0) ((d k).sm Y)<|(g<|n-k).sm Y)<|rc J J (zN (lR A B n k) (I a k 0*I b (n-k) 0) (p.sm Y)<|((d k).mul<|g<|n-k).sm Y)<|M J<|bP<|rt J<|a4 (k+1) Y (Y:n+1-(k+1)<n+1-k)<|wk ⟨sR J,sR J,sR J,sR J,sR J,sE J J,j⟩ ⟨bE J ?_,bR J,j⟩;have t:lR A B n (k+1)=lR A B n k+I a k 0*I b (n-k) 0:=by simp[lR,<-hA,<-hB]
   rw[t];rfl
  .have h2:¬k<=n:=by have h2:¬(k:V)<=n:=sk;omega
   have m:k=n+1:=Y;subst m;refine bs<|aS<|cG<|rl .z [conv A B n] J J (ra J J J J J J J J J ?_ ?_<|M J ?_)
   .show(_+1+(_+1)/4+192)*32<=_;simp[sY];omega
   .show(_+1)*2<=_;simp[sY];omega
   refine bP<|rt J<|a4 (n+1) Y (Y:Z a+Z b-(n+1)<Z a+Z b-n)<|Wk.trans (wk (st':=⟨[(0,e .z a),(1,e .z b),(5,.c<|.X 7003000),(6,c ((n+1:G):V))],[(7003000,.vec 42 .z<|(bJ<|n+1).map<|conv A B)],9,[]⟩) ⟨sR J,sR J,sR J,sE J ?_,j⟩ ⟨bE J ?_,j⟩)<|Wk.trans (gZ 1000000 7003000 J J J) aN
   .rfl
   .rw[AU,gf];rfl
 .have h:¬n+1<Z a+Z b:=by have h:¬(n:V)+1<Z a+Z b:=fg;omega
  have l:n=Z a+Z b-1:=Y;refine bs<|aS<|dv 1000000 J J J<|bQ J J (PJ _) J<|cv J ?_;unfold m7;rw[hA,hB,<-l]
def af' a(p:G)(d:2<=p)(g:p<=2147483648)(f:Sm a):w O 202 [aZ a,cU p] (cU<|a%p):=by refine aK Tryz.func202 ?_;have b:=jG a (Y:(p:V)≠0);have i:=jH a (Y:(0:V)<p);exact U J<|R<|rc J J (km p Y Y) (hp:=aH)<|rc J J (HE a p Y f<|Sm.of Y)<|M J<|bQ J J (arC (a%p) b Y) J<|U J<|cv J<|cj<|bf _ b Y
def Qz p a:md p (md p a)=md p a:=by unfold md;rw[OT];exact Xr λx _=>ou x p
def aga a(p:G)(s:Z a<=1000)(d:2<=p)(l:p<=2147483648)(m:∀i,Sm (I a i 0)):w O 172 [e .z a,cU p] (e ar<|aU<|md p a):=by
 refine aK Tryz.func172 ?_;have n:=z5 p a;have k:=z6 (md p a) p Y Y Y<|λi=>((Em (Y:(0:V)<(p:V)) a) i).1;rw[Qz]at k;refine U J<|R<|gV ar [] J J (M J<|h<|U J<|ay<|bq (α:=G) (λi=>⟨[(0,e .z a),(1,cU p),(5,.c<|.X 1000000),(6,c i)],[(1000000,.vec 150 ar<|(md p a).take i)],3,[]⟩) (λi=>i<=Z a) (λi=>Z a-i) 0 (bg _) aN ?_);intro i t;have u:Z ((md p a).take i)=i:=cd;refine h<|U J<|F J (λb=>?_)<|λb=>?_
 .have b:i<Z a:=by have b:(i:V)<(Z a:V):=aV b;omega
  have g:w O 202 [.a (av .z<|I a (af<|(i:V)) 0),cU p] (cU<|I a i 0%p):=by rw[cC];exact af' (I a i 0) p d l<|m i
  refine aE<|h<|ay<|cG<|rc J J g (hp:=aH)<|rl ar [_] J J (ra J J J J J J J J J ?_ ?_<|M J ?_)
  .show(_+1+(_+1)/4+192)*8<=_;omega
  .show(_+1)*1<=_;omega
  refine bP<|rt J<|a4 (i+1) b ri<|Wk.trans (wk (st':=⟨[(0,e .z a),(1,cU p),(5,.c<|.X 4008000),(6,c ((i+1:G):V))],[(4008000,.vec 150 ar<|(md p a).take<|i+1)],8,[]⟩) (bK J) ⟨bE J<|bm (aA.vec 150 ar) ?_,j⟩)<|Wk.trans (gZ 1000000 4008000 J J J) aN;rw[uc _ i Y,Lk]
 .have b:i=Z a:=by have b:¬(i:V)<(Z a:V):=bc b;omega
  subst b;rw[jM Y];exact bs<|aS<|dv 1000000 J J J<|bQ J J k J<|cN J
def agb(a:E V){X:G}(b:∀i,aC (I a i 0)<=X):∀i,nJ a i<=i*X
 |0=>by simp[nJ]
 |i+1=>by have:=agb a b i;have:=b i;rw[nJ,gY];omega
def agc a{b}(d:∀i,aJ b (I a i 0)){i}(f:i<=13):aJ (b+1) ((nJ a i:G):V):=by unfold aJ at*;have g:=agb a (λi=>ye<|d i) i;have k:=dS (4294967296^b) f;have l:=gG (n:=b) (S:0<4294967296);rw[rC,fG];omega
def sq(f:G->L):G->L
 |0=>0
 |k+1=>sq f k+f k
def w6{f g:G->L}:∀{k:G},(∀i,i<k->f i=g i)->sq f k=sq g k
 |0,_=>rfl
 |k+1,a=>by rw[sq,sq,w6<|λi b=>a i Y,a k Y]
def QA{f:G->L}{k}(a:∀i,i<k->f i=0):sq f k=0:=by
 induction k with
 |zero=>rfl
 |succ k b=>rw[sq,b<|λi d=>a i Y,a k Y,nM]
def Xs(f g:G->L):∀k,sq (λi=>f i+g i) k=sq f k+sq g k
 |0=>(nM 0).symm
 |k+1=>by simp[sq,Xs f g k];grind
def QB(a:L)(f:G->L):∀k,sq (λi=>a*f i) k=a*sq f k
 |0=>by simp only[sq];grind
 |k+1=>by simp only[sq,QB a f k];grind
def asy a(f:G->L) k:sq (λi=>f i*a) k=sq f k*a:=by rw[yn,<-QB];exact w6<|λi _=>yn _ _
def agd(f:G->L):∀k,sq f (k+1)=f 0+sq (λi=>f<|i+1) k
 |0=>by simp[sq];grind
 |k+1=>by rw[sq,agd f k,sq];grind
def age(f:G->L):∀k,sq f k=sq (λi=>f<|k-1-i) k
 |0=>rfl
 |k+1=>by rw[sq,age f k,agd<|λi=>f<|k+1-1-i];have:sq (λi=>f<|k+1-1-(i+1)) k=sq (λi=>f<|k-1-i) k:=w6 (λi _=>by congr 1;omega);rw[this,(Y:k+1-1-0=k)];grind
def agf(b:G->G->L):∀n,sq (λi=>sq (λa=>b i a)<|i+1) n=sq (λa=>sq (λk=>b (a+k) a)<|n-a) n
 |0=>rfl
 |n+1=>by
  rw[sq,agf b n];have d:sq (λa=>sq (λk=>b (a+k) a)<|n+1-a) n=sq (λa=>sq (λk=>b (a+k) a) (n-a)+b n a) n:=by refine w6<|λa f=>?_;rw[(Y:n+1-a=(n-a)+1),sq,(Y:a+(n-a)=n)]
  rw[show sq (λa=>sq (λk=>b (a+k) a)<|n+1-a) (n+1)=sq (λa=>sq (λk=>b (a+k) a)<|n+1-a) n+sq (λk=>b (n+k) n) (n+1-n)from J,d,Xs];rw[(Y:n+1-n=1),show sq (λa=>b n a) (n+1)=sq (λa=>b n a) n+b n n from J,show sq (λk=>b (n+k) n) 1=0+b (n+0) n from J,jZ];grind
def QC{f:G->L}{a:G}:∀{n:G},a<n->(∀i,i<n->i≠a->f i=0)->sq f n=f a
 |0,d,_=>by omega
 |n+1,d,b=>by
  rw[sq];by_cases g:a=n
  .subst g;rw[QA (λi k=>b i Y Y),Ep]
  .rw[QC (n:=n) Y (λi k=>b i Y),b n Y Y,nM]
def cvq(A B:G->L)(n:G):L:=sq (λi=>A i*B (n-i))<|n+1
structure Rx where
 v:G->L
 fin:∃n,∀i,n<=i->v i=0
namespace Rx
instance:CoeFun Rx (λ_=>G->L):=⟨λA=>A.v⟩
def ext{A B:Rx}(a:∀i,A i=B i):A=B:=by cases A;cases B;have e:=funext a;simp only at e;subst e;rfl
def agi{A B:G->L}{m n}(a:∀i,m<=i->A i=0)(hB:∀i,n<=i->B i=0):∀i,m+n<=i+1->cvq A B i=0:=λi b=>QA λj d=>by
 by_cases e:m<=j
 .rw[a j e,mF]
 .rw[hB (i-j) Y,eh]
instance:Add Rx:=⟨λA B=>⟨λi=>A i+B i,by obtain⟨m,a⟩:=A.2;obtain⟨n,b⟩:=B.2;exact⟨m+n,λi d=>by show A.v i+B.v i=0;rw[a i Y,b i Y,nM]⟩⟩⟩
instance:Mul Rx:=⟨λA B=>⟨cvq A.v B.v,by obtain⟨m,a⟩:=A.2;obtain⟨n,b⟩:=B.2;exact⟨m+n,λi d=>agi a b i Y⟩⟩⟩
instance:Neg Rx:=⟨λA=>⟨λi=> -A i,by obtain⟨m,a⟩:=A.2;exact⟨m,λi b=>by show-A.v i=0;rw[a i b,Rat.neg_zero]⟩⟩⟩
def K(a:L):Rx:=⟨λi=>if i=0 then a else 0,1,λi b=>y Y⟩
instance:_root_.Sub Rx:=⟨λx y=>x+ -y⟩
instance:OfNat Rx 0:=⟨⟨λ_=>0,0,λ_ _=>rfl⟩⟩
instance:OfNat Rx 1:=⟨K 1⟩
def ef(A B:Rx) i:(A+B) i=A i+B i:=rfl
def Lc(A:Rx) i:(-A) i= -A i:=rfl
def nK(A B:Rx) i:(A-B) i=A i-B i:=(Xt _ _).symm
def mB i:(0:Rx) i=0:=rfl
def fM(A B:Rx) n:(A*B) n=sq (λi=>A i*B (n-i)) (n+1):=rfl
def lS a i:K a i=if i=0 then a else 0:=rfl
def du b A i:(K b*A) i=b*A i:=by rw[fM,QC (a:=0) Y<|λj _ d=>by rw[lS,y d,mF]];rfl
def jS(x a:Rx):x+a=a+x:=ext λi=>Rat.add_comm _ _
def kq(x a z:Rx):x+a+z=x+(a+z):=ext λi=>Rat.add_assoc _ _ _
def dk(A B:Rx):A*B=B*A:=by
 refine ext λn=>?_
 rw[fM,fM,age];refine w6<|λi a=>?_;rw[yn,(Y:n-(n+1-1-i)=i)];rfl
def dc(A B C:Rx):A*B*C=A*(B*C):=by
 refine ext λn=>?_
 rw[fM,fM];have a:sq (λi=>(A*B) i*C (n-i)) (n+1)=sq (λi=>sq (λj=>A j*B (i-j)*C (n-i))<|i+1) (n+1):=w6 (λi _=>by rw[fM,asy]);rw[a,agf<|λi j=>A j*B (i-j)*C (n-i)];refine w6<|λj b=>?_;rw[fM,<-QB,(Y:n+1-j=n-j+1)];refine w6<|λk d=>?_;rw[lT,(Y:j+k-j=k),(Y:n-(j+k)=n-j-k)]
def fN(A B C:Rx):A*(B+C)=A*B+A*C:=by
 refine ext λn=>?_
 rw[ef,fM,fM,fM,<-Xs];exact w6 (λi _=>by rw[ef,Rat.mul_add])
def gQ(x a z:Rx):(x+a)*z=x*z+a*z:=by rw[dk,fN,dk z x,dk z a]
def iI(x:Rx):0+x=x:=ext λi=>Ep _
def fA(x:Rx):x+0=x:=by rw[jS,iI]
def c8(x:Rx):1*x=x:=ext λi=>(du 1 x i).trans<|rG _
def fO(x:Rx):x*1=x:=by rw[dk,c8]
def dy(x:Rx):0*x=0:=ext λn=>by rw[fM];exact QA λi _=>by rw[mB,mF]
def g6(x:Rx):x*0=0:=by rw[dk,dy]
def k6(x:Rx):x+ -x=0:=ext λi=>asz _
def rB(x:Rx): -x+x=0:=by rw[jS,k6]
def fB(x a:Rx):x-a=x+ -a:=rfl
instance:Std.Associative (α:=Rx) (·+·):=⟨kq⟩
instance:Std.Commutative (α:=Rx) (·+·):=⟨jS⟩
instance:Std.Associative (α:=Rx) (·*·):=⟨dc⟩
instance:Std.Commutative (α:=Rx) (·*·):=⟨dk⟩
def Er{x a z:Rx}(b:x+a=x+z):a=z:=by have:=bm (-x+·) b;simpa only[<-kq,rB,iI]using this
def mG(x a:Rx):x-a+a=x:=by rw[fB,kq,rB,fA]
def z9(x a:Rx):x+a-a=x:=by rw[fB,kq,k6,fA]
def Aa{x a z:Rx}(b:x+a=z):x=z-a:=by rw[<-b,z9]
def sub_eq{x a z:Rx}(b:x=z+a):x-a=z:=by rw[b,z9]
def sub_self(x:Rx):x-x=0:=k6 x
def sub_zero(x:Rx):x-0=x:=sub_eq (fA x).symm
def BZ{x a:Rx}(b:x-a=0):x=a:=by rw[<-mG x a,b,iI]
def ov(x a z:Rx):(x-a)*z=x*z-a*z:=Aa (by rw[<-gQ,mG])
def mul_sub(x a z:Rx):x*(a-z)=x*a-x*z:=by rw[dk,ov,dk a,dk z]
def neg_mul(x a:Rx): -x*a= -(x*a):=Er (x:=x*a) (by rw[<-gQ,k6,k6,dy])
def neg_neg(x:Rx): - -x=x:=Er (x:= -x) (by rw[k6,rB])
def neg_sub(x a:Rx): -(x-a)=a-x:=Er (x:=x-a) (by rw[k6,fB,fB];have:x+ -a+(a+ -x)=(x+ -x)+(-a+a):=fC;rw[this,k6,rB,fA])
def Ls(x a z:Rx):(x-a)+(a-z)=x-z:=by rw[fB,fB,fB];have:x+ -a+(a+ -z)=x+ -z+(-a+a):=fC;rw[this,rB,fA]
def QD(x b z a:Rx):(x+b)-(z+a)=(x-z)+(b-a):=sub_eq (by have:x-z+(b-a)+(z+a)=(x-z+z)+(b-a+a):=fC;rw[this,mG,mG])
instance:Dvd (Rx):=⟨λa b=>∃w,b=w*a⟩
def nO(a:Rx):a∣a:=⟨1,(c8 a).symm⟩
def uf(a:Rx):a∣0:=⟨0,(dy a).symm⟩
def fW{a b d:Rx}(f:a∣b)(k:b∣d):a∣d:=by obtain⟨w,rfl⟩:=f;obtain⟨v,rfl⟩:=k;exact⟨v*w,(dc v w a).symm⟩
def jc(a b:Rx):a∣b*a:=⟨b,J⟩
def mH(a b:Rx):a∣a*b:=⟨b,dk a b⟩
def dE{a b}(f:a∣b)(d:Rx):a∣d*b:=fW f<|jc b d
def mI{a b}(f:a∣b)(d:Rx):a∣b*d:=fW f<|mH b d
def iA{a b d:Rx}(f:a∣b)(k:a∣d):a∣b+d:=by obtain⟨w,rfl⟩:=f;obtain⟨v,rfl⟩:=k;exact⟨w+v,(gQ w v a).symm⟩
def dvd_neg{a b:Rx}(d:a∣b):a∣-b:=by obtain⟨w,rfl⟩:=d;exact⟨-w,(neg_mul w a).symm⟩
def dvd_sub{a b d:Rx}(f:a∣b)(k:a∣d):a∣b-d:=iA f<|dvd_neg k
def yo{a b d:Rx}(f:a∣b+d)(k:a∣b):a∣d:=by have:=dvd_sub f k;rwa[jS b d,z9]at this
def agj{a b d:Rx}(f:a∣b-d)(k:a∣d):a∣b:=by have:=iA f k;rwa[mG]at this
def m9{a b d:Rx}(f:a∣b-d):a∣d-b:=by rw[<-neg_sub];exact dvd_neg f
def mJ{a b f d:Rx}(g:a∣b-f)(k:a∣f-d):a∣b-d:=by rw[<-Ls b f d];exact iA g k
def Lt{a b f d g:Rx}(i:a∣b-f)(k:a∣d-g):a∣(b+d)-(f+g):=by rw[QD];exact iA i k
def ow{a b f d g:Rx}(i:a∣b-f)(k:a∣d-g):a∣b*d-f*g:=by
 have:b*d-f*g=(b-f)*d+f*(d-g):=by rw[ov,mul_sub,Ls]
 rw[this];exact iA (mI i d)<|dE k f
def kM(a b:Rx):a∣b-b:=by rw[sub_self];exact uf a
def pk(a:Rx):G->Rx
 |0=>1
 |n+1=>pk a n*a
def sZ a:pk a 1=a:=c8 a
def B0(a:Rx)(m:G):∀n,pk a (m+n)=pk a m*pk a n
 |0=>(fO _).symm
 |n+1=>by rw[<-tC,pk,pk,B0 a m n,dc]
def w7(a:Rx)(m:G):∀n,pk a (m*n)=pk (pk a m) n
 |0=>rfl
 |n+1=>by rw[Nat.mul_succ,B0,pk,w7 a m n]
def w8(a b:Rx):∀n,pk (a*b) n=pk a n*pk b n
 |0=>(c8 1).symm
 |n+1=>by rw[pk,pk,pk,w8 a b n];ac_rfl
def Es:∀n,pk (1:Rx) n=1
 |0=>rfl
 |n+1=>by rw[pk,Es n,c8]
def X(k:G):Rx:=⟨λi=>if i=k then 1 else 0,k+1,λi a=>y Y⟩
def rH k i:X k i=if i=k then 1 else 0:=rfl
def lD k A i:(X k*A) i=if k<=i then A (i-k)else 0:=by
 rw[fM];by_cases h:k<=i
 .rw[q h,QC (a:=k) Y (λj _ b=>by rw[rH,y b,mF]),rH,q J,rG]
 .rw[y h];exact QA (λj b=>by rw[rH,y Y,mF])
def Xu:X 0=1:=rfl
def Eg a k:X (a+k)=X a*X k:=ext λi=>by
 rw[lD,rH];by_cases h:a<=i
 .rw[q h,rH];by_cases h2:i=a+k
  .rw[q h2,q Y]
  .rw[y h2,y Y]
 .rw[y h,y Y]
def vp a b:K (a+b)=K a+K b:=ext λi=>by rw[ef,lS,lS,lS];split<;>grind
def eN a b:K (a*b)=K a*K b:=ext λi=>by rw[du,lS,lS];split<;>grind
def jT:K 0=0:=ext λi=>by rw[lS,mB];split<;>rfl
def lU:K 1=1:=rfl
def HX a:K (-a)= -K a:=Er (x:=K a) (by rw[<-vp,asz,jT,k6])
def Xv a b:K (a-b)=K a-K b:=by rw[Xt,vp,HX,fB]
def Xw{a b}(d:K a=K b):a=b:=bm (λA:Rx=>A 0) d
def qy{c}(a:c≠0):K c⁻¹ *K c=1:=by rw[<-eN,k8 c a,lU]
def lx(a:E L):Rx:=⟨λi=>I a i 0,Z a,λi b=>by rw[aO,iw b];rfl⟩
def dN a i:lx a i=I a i 0:=rfl
def ku:lx []=0:=ext λi=>rfl
def yp a:lx [a]=K a:=ext λi=>by
 cases i with
 |zero=>rfl
 |succ i=>rfl
def B1 b a:lx (b::a)=K b+X 1*lx a:=ext λi=>by
 rw[ef,lD];cases i with
 |zero=>rw[y Y];show b=K b 0+0;rw[lS,q J,nM]
 |succ i=>rw[q Y];show I a i 0=K b (i+1)+I a i 0;rw[lS,y Y,Ep]
def bp(a:E L):Prop:=a=[]\/I a (Z a-1) 0≠0
def ug:bp []:= .inl J
def fP(a:E L){i}(b:Z a<=i):I a i 0=0:=by rw[aO,iw b];rfl
def bp.top{a}(b:bp a){n}(d:Z a=n+1):I a n 0≠0:=by
 rcases b with b|b
 .subst b;simp at d
 .rwa[d,eL]at b
def agk{a b:E L}(d:Z a=Z b)(f:∀i,I a i 0=I b i 0):a=b:=by refine v7 d<|λi g k=>?_;have:=f i;rwa[aO,aO,df g,df k]at this
def nP{a b}(f:bp a)(g:bp b)(k:lx a=lx b):a=b:=by
 have d:∀i,I a i 0=I b i 0:=λi=>bm (λA:Rx=>A i) k
 refine agk ?_ d;rcases To (Z a) (Z b)with e|e|e
 .exact aF ((d<|Z b-1).symm.trans<|fP a Y)<|g.top Y
 .exact e
 .exact aF ((d<|Z a-1).trans<|fP b Y)<|f.top Y
def Xx(A:G->L):∀n,(∀i,n<=i->A i=0)->∃a:E L,bp a/\Z a<=n/\∀i,I a i 0=A i
 |0,b=>⟨[],ug,aL _,λi=>(b i<|bg _).symm⟩
 |n+1,b=>by
  by_cases d:A n=0
  .let ⟨a,g,h2,k⟩:=Xx A n (λi m=>by
    by_cases l:i=n
    .rw[l,d]
    .exact b i Y)
   exact⟨a,g,Y,k⟩
  .have f:∀i,I ((bJ<|n+1).map A) i 0=A i:=λi=>by
    rw[aO,ju];by_cases d:i<n+1
    .rw[k7 d];rfl
    .rw[iw cd];exact(b i Y).symm
   refine⟨(bJ<|n+1).map A,.inr ?_,au,f⟩;rw[f];simpa using d
def jU A:∃a,bp a/\lx a=A:=by let ⟨n,b⟩:=A.2;let ⟨a,d,_,f⟩:=Xx A.v n b;exact⟨a,d,ext f⟩
open Classical in
noncomputable def sz(A:Rx):G:=Z<|Classical.choose<|jU A
def fj{a}(d:bp a):sz (lx a)=Z a:=by have b:=yq<|jU<|lx a;rw[sz,nP b.1 d b.2]
def na{n}{A}(b:∀i,n<=i->A i=0):sz A<=n:=by let ⟨a,d,h2,f⟩:=Xx A.v n b;rw[<-(ext f:lx a=A),fj d];exact h2
def lE{A}{i}(b:sz A<=i):A i=0:=by obtain⟨a,d,rfl⟩:=jU A;rw[fj d]at b;exact fP a b
def Lu{A}{n}(b:sz A=n+1):A n≠0:=by obtain⟨a,d,rfl⟩:=jU A;rw[fj d]at b;exact d.top b
def agl{A}{n}(a:A n≠0):n<sz A:=QE λe=>a<|lE e
def Lv a:sz (lx a)<=Z a:=na λ_ b=>fP a b
def kO:sz (0:Rx)=0:=Nat.le_zero.1<|na λ_ _=>rfl
def QF a:sz (K a)<=1:=na λi b=>by rw[lS,y Y]
def Et{A}(a:sz A=0):A=0:=ext λi=>lE Y
def fQ{A}(a:A≠0):0<sz A:=by
 rcases sS (sz A)with e|e
 .exact aF (Et e) a
 .exact e
def yr A B:sz (A+B)<=max (sz A) (sz B):=na λi a=>by rw[ef,lE (A:=A) Y,lE (A:=B) Y,nM]
def Xy A:sz (-A)<=sz A:=na λi a=>by rw[Lc,lE a];rfl
def HY A B:sz (A-B)<=max (sz A) (sz B):=by have a:=yr A<| -B;have b:=Xy B;rw[fB];omega
def BX{A B:Rx}{m n:G}(b:∀i,m<i->A i=0)(hB:∀i,n<i->B i=0):(A*B) (m+n)=A m*B n:=by
 rw[fM,QC (a:=m) Y<|λj d f=>?_]
 .rw[(Y:m+n-m=n)]
 .by_cases e:m<j
  .rw[b j e,mF]
  .rw[hB (m+n-j) Y,eh]
def s0:(1:Rx)≠0:=λe=>by have:(1:Rx) 0=(0:Rx) 0:=xU;exact aF this S
def eS{A B}(b:A≠0)(hB:B≠0):sz (A*B)+1=sz A+sz B:=by
 have l:=fQ b;have p:=fQ hB;obtain⟨m,d⟩:∃m,sz A=m+1:=⟨sz A-1,Y⟩;obtain⟨n,f⟩:∃n,sz B=n+1:=⟨sz B-1,Y⟩;have g:(A*B) (m+n)≠0:=by
  rw[BX (λi a=>lE Y) (λi a=>lE Y)];intro e;rcases Ab.1 e with e|e
  .exact Lu d e
  .exact Lu f e
 have s:=agl g;have t:sz (A*B)<=m+n+1:=na λi a=>agi (A:=A.v) (B:=B.v) (m:=m+1) (n:=n+1) (λj k=>lE (A:=A) Y) (λj k=>lE (A:=B) Y) i Y
 omega
def uh{a}(b:a≠0):K a≠0:=λe=>b<|Xw<|e.trans jT.symm
def oW{A B:Rx}(a:A≠0)(hB:B≠0):A*B≠0:=λe=>by have h:=eS a hB;rw[e,kO]at h;have b:=fQ a;have d:=fQ hB;omega
def yt{A B C:Rx}(a:A≠0)(b:B*A=C*A):B=C:=by
 refine BZ<|fe λd=>?_
 exact oW d a (by rw[ov,b,sub_self])
def s6:sz (1:Rx)=1:=by have a:=QF 1;have b:=fQ s0;rw[lU]at a;omega
def HZ{A}(f:sz A=1):∃b:L,b≠0/\A=K b:=by
 obtain⟨a,d,rfl⟩:=jU A;rw[fj d]at f;match a,f,d with
 |[b],_,d=>exact⟨b,d.top (n:=0) J,yp b⟩
def yu{A}(a:sz A=1):∃B:Rx,B*A=1:=by obtain⟨c,b,rfl⟩:=HZ a;exact⟨_,qy b⟩
def Ac{A B}(a:B*A=1):sz A=1:=by
 have b:A≠0:=λe=>s0 (by rw[<-a,e,g6])
 have hB:B≠0:=λe=>s0 (by rw[<-a,e,dy])
 have d:=eS hB b;rw[a,s6]at d;have f:=fQ b;have g:=fQ hB;omega
def dvd_one{A}(a:A∣1):sz A=1:=by let ⟨w,hw⟩:=a;exact Ac hw.symm
def k9{A B}(b:A∣B)(hB:B≠0):sz A<=sz B:=by
 obtain⟨w,rfl⟩:=b;have a:w≠0:=λe=>hB Lw
 have d:A≠0:=λe=>hB (by rw[e,g6])
 have f:=eS a d;have pw:=fQ a;omega
def ui{A B}(a:A∣B)(b:sz B<sz A):B=0:=
 fe λd=>by have:=k9 a d;omega
def agm{B:Rx}(hB:B≠0):∀(n:G)(A:Rx),sz A<n->∃Q a,A=Q*B+a/\sz a<sz B
 |0,_,b=>by omega
 |n+1,A,b=>by
  by_cases d:sz A<sz B
  .exact⟨0,A,by rw[dy,iI],d⟩
  .have s:=fQ hB;obtain⟨k,f⟩:∃k,sz B=k+1:=⟨sz B-1,Y⟩;obtain⟨m,t⟩:∃m,sz A=m+k+1:=⟨sz A-k-1,Y⟩;have g:sz (A-K (A (m+k)*(B k)⁻¹)*(X m*B))<n:=by
    have:sz (A-K (A (m+k)*(B k)⁻¹)*(X m*B))<=m+k:=na λi u=>by
     rw[nK,du,lD,q (Y:m<=i)];by_cases l:i=m+k
     .rw[l,(Y:m+k-m=k),lT,k8 _<|Lu f,lF];grind
     .rw[lE (A:=A) (i:=i) Y,lE (A:=B) (i:=i-m) Y];grind
    omega
   let ⟨Q,a,h2,p⟩:=agm hB n _ g;refine⟨K (A (m+k)*(B k)⁻¹)*X m+Q,a,?_,p⟩;rw[gQ,kq,<-h2,dc,jS,mG]
def QG A{B}(hB:B≠0):∃Q a,A=Q*B+a/\sz a<sz B:=agm hB _ A<|dV _
def Eu:∀(n:G)(A B:Rx),sz B<n->∃D b a,D∣A/\D∣B/\D=b*A+a*B
 |0,_,_,k=>by omega
 |n+1,A,B,k=>by
  by_cases f:B=0
  .subst f;exact⟨A,1,0,nO A,uf A,by rw[c8,g6,fA]⟩
  .let ⟨Q,d,g,h2⟩:=QG A f;let ⟨D,b,a,i,l,m⟩:=Eu n B d Y;refine⟨D,a,b-a*Q,?_,i,?_⟩
   .rw[g];exact iA (dE i Q) l
   .rw[m,g,fN,ov];have:a*(Q*B)+a*d+(b*B-a*Q*B)=(b*B-a*Q*B+a*Q*B)+a*d:=fC;rw[this,mG]
def Co(A B:Rx):Prop:=∃U V,U*A+V*B=1
def Co.symm{A B}(a:Co A B):Co B A:=by let ⟨U,V,a⟩:=a;exact⟨V,U,by rw[jS];exact a⟩
def Co.dvd{A B C}(a:Co A B)(k:A∣B*C):A∣C:=by
 let ⟨U,V,a⟩:=a;have:C=C*U*A+V*(B*C):=by have b:C*(U*A)+C*(V*B)=C*U*A+V*(B*C):=fC;rw[<-b,<-fN,a,fO]
 rw[this];exact iA (jc A _)<|dE k V
def Co.of_dvd{A B C}(a:Co A B)(k:C∣B):Co A C:=by let ⟨U,V,a⟩:=a;obtain⟨w,rfl⟩:=k;exact⟨U,V*w,by rw[dc];exact a⟩
def Co.unit{A B}(a:Co A B)(k:A∣B):sz A=1:=by let ⟨U,V,a⟩:=a;exact dvd_one<|a▸iA (jc A U) (dE k V)
def bD(Q:Rx):Prop:=2<=sz Q/\∀A B,Q=A*B->sz A=1\/sz B=1
def bD.ne{Q}(a:bD Q):Q≠0:=λe=>by have:=a.1;rw[e,kO]at this;omega
def bD.or{Q}(a:bD Q) A:Q∣A\/Co Q A:=by
 let ⟨D,U,V,b,h2,d⟩:=Eu _ Q A<|dV _;let ⟨w,hw⟩:=b;rcases a.2 _ _ hw with e|e
 .let ⟨B,hB⟩:=yu e;left;refine fW ⟨B,?_⟩ h2;rw[hw,<-dc,hB,c8]
 .let ⟨B,hB⟩:=yu e;right;refine⟨B*U,B*V,?_⟩;rw[<-hB,d,fN,dc,dc]
def bD.Ev{Q}(a:bD Q):¬Q∣1:=λe=>by have:=dvd_one e;have:=a.1;omega
def bD.pP{Q}(a:bD Q){A B}(k:Q∣A*B):Q∣A\/Q∣B:=by
 rcases a.or A with e|e
 .exact .inl e
 .exact .inr<|e.dvd k
def vr:∀(n:G)(A:Rx),sz A<n->2<=sz A->∃Q,bD Q/\Q∣A
 |0,_,i,_=>by omega
 |n+1,A,i,h2=>by
  by_cases b:bD A
  .exact⟨A,b,nO A⟩
  .have:∃B C,A=B*C/\¬(sz B=1\/sz C=1):=fe λk=>b ⟨h2,λB C e=>fe λd=>k ⟨B,C,e,d⟩⟩
   let ⟨B,C,e,d⟩:=this;have f:A≠0:=λe=>by rw[e,kO]at h2;omega
   have hB:B≠0:=λa=>f (by rw[e,a,dy])
   have g:C≠0:=λa=>f (by rw[e,a,g6])
   have l:=eS hB g;rw[<-e]at l;have p:=fQ hB;have s:=fQ g;let ⟨Q,hQ,m⟩:=vr n B Y Y;exact⟨Q,hQ,by rw[e];exact mI m C⟩
def H2{A B}(d:A≠0)(f:∀Q,bD Q->Q∣A->Q∣B->False):Co A B:=by
 let ⟨D,U,V,a,h2,g⟩:=Eu _ A B<|dV _;have i:D≠0:=λe=>by let ⟨w,hw⟩:=a;rw[e,g6]at hw;exact d hw
 have l:=fQ i;by_cases e:sz D=1
 .let ⟨C,k⟩:=yu e;refine⟨C*U,C*V,?_⟩;rw[<-k,g,fN,dc,dc]
 .let ⟨Q,hQ,b⟩:=vr _ D (dV _) Y;exact(f Q hQ (fW b a)<|fW b h2).elim
end Rx
namespace Rx
def Ad{A B C D:Rx}(a:A∣B)(k:C∣D):A*C∣B*D:=by obtain⟨w,rfl⟩:=a;obtain⟨v,rfl⟩:=k;exact⟨w*v,fC⟩
def yv{a}(b:a≠0):sz (K a)=1:=Ac<|qy b
def asA{A B}{a}(b:a≠0)(d:A∣K a*B):A∣B:=by
 have e:B=K a⁻¹ *(K a*B):=by rw[<-dc,qy b,c8]
 rw[e];exact dE d _
def bH(A:Rx):Rx:=⟨λi=>((i+1:G):L)*A (i+1),by let ⟨n,h⟩:=A.2;exact⟨n,λi a=>by rw[h (i+1) Y,eh]⟩⟩
def s7 A i:bH A i=((i+1:G):L)*A (i+1):=rfl
def Lx x a:bH (x+a)=bH x+bH a:=ext λi=>by rw[s7,ef,ef,Rat.mul_add];rfl
def H3 a:bH (K a)=0:=ext λi=>by rw[s7,lS,y Y,eh];rfl
def Xz:bH 0=0:=by rw[<-jT,H3,jT]
def asB:bH 1=0:=H3 1
def Ly a x:bH (K a*x)=K a*bH x:=ext λi=>by rw[s7,du,du,s7];grind
def Lz x:bH (X 1*x)=x+X 1*bH x:=ext λi=>by
 rw[s7,lD,ef,lD,q Y,eL];cases i with
 |zero=>rw[y Y,nM];exact rG _
 |succ i=>
  rw[q Y,eL,s7,agn (i+1) 1]
  grind
def LA(B:Rx):∀a:E L,bH (lx a*B)=bH (lx a)*B+lx a*bH B
 |[]=>by rw[ku,dy,Xz,dy,dy,iI]
 |d::a=>by have b:=LA B a;rw[B1,gQ,Lx,Ly,dc,Lz,b,Lx,H3,iI,Lz];simp[gQ,fN];ac_rfl
def yw A B:bH (A*B)=bH A*B+A*bH B:=by obtain⟨a,_,rfl⟩:=jU A;exact LA B a
def H4(Q:Rx):∀a,bH (pk Q<|a+1)=pk Q a*(K ((a+1:G):L)*bH Q)
 |0=>by rw[sZ];show bH Q=1*(K 1*bH Q);rw[lU,c8,c8]
 |a+1=>by rw[show pk Q (a+1+1)=pk Q (a+1)*Q from J,yw,H4 Q a,agn (a+1) 1,vp,gQ,fN];rw[show(K ((1:G):L):Rx)=1 from J,c8,show pk Q (a+1)=pk Q a*Q from J];ac_rfl
def asC{Q}(f:2<=sz Q):bH Q≠0:=λe=>by
 obtain⟨n,b⟩:∃n,sz Q=n+1+1:=⟨sz Q-2,Y⟩;have a:bH Q n=(0:Rx) n:=xU;rw[s7,mB]at a;rcases Ab.1 a with a|a
 .have:n+1=0:=by exact_mod_cast a
  omega
 .exact (Lu b) a
def QH{Q}:sz (bH Q)<=sz Q-1:=na λi a=>by rw[s7,lE Y,eh]
def bD.H5{Q}(a:bD Q):¬Q∣bH Q:=λb=>by have d:=a.1;have f:=QH (Q:=Q);exact asC d<|ui b Y
def Mo(A:Rx):Prop:=A (sz A-1)=1
def Mo.ne{A}(a:Mo A):A≠0:=λe=>by subst e;have b:(0:L)=1:=a;exact aF b S
def Mo.at{A}(a:Mo A){n}(b:sz A=n+1):A n=1:=by have:=a;rwa[Mo,b,eL]at this
def ago{A B}{m n}(b:sz A=m+1)(d:sz B=n+1):(A*B) (m+n)=A m*B n:=BX (λi a=>lE Y)<|λi a=>lE Y
def H6{A}(a:A≠0):∃n,sz A=n+1:=⟨sz A-1,kw<|fQ a⟩
def Mo.mul{A B}(a:Mo A)(k:Mo B):Mo (A*B):=by let ⟨m,hm⟩:=H6 a.ne;let ⟨n,b⟩:=H6 k.ne;have d:=eS a.ne k.ne;rw[Mo,(Y:sz (A*B)-1=m+n),ago hm b,a.at hm,k.at b,rG]
def Mo.Ae{A B}(a:Mo (A*B))(k:Mo B):Mo A:=by
 have b:A≠0:=λe=>a.ne Lw
 let ⟨m,hm⟩:=H6 b;let ⟨n,d⟩:=H6 k.ne;have g:=eS b k.ne;have f:=a.at (n:=m+n) Y;rw[ago hm d,k.at d,lF]at f;rw[Mo,hm];exact f
def agp:Mo 1:=by have:sz (1:Rx)=1:=s6;rw[Mo,this];rfl
def Mo.pk{A:Rx}(a:Mo A):∀n,Mo (pk A n)
 |0=>agp
 |n+1=>(Mo.pk a n).mul a
def Mo.unit{A}(b:Mo A)(a:sz A=1):A=1:=by obtain⟨c,f,rfl⟩:=HZ a;rw[show c=1 from (b.at a)];rfl
def Mo.eq{A B}(a:Mo A)(k:Mo B)(b:A∣B)(f:B∣A):A=B:=by have i:=k9 b k.ne;have l:=k9 f a.ne;obtain⟨w,rfl⟩:=b;have d:Mo w:=k.Ae a;have m:=eS d.ne a.ne;have g:w=1:=d.unit Y;rw[g,c8]
def agq{A}(b:A≠0):∃d:L,d≠0/\Mo (K d*A):=by
 let ⟨n,g⟩:=H6 b;have f:=Lu g;have a:(A n)⁻¹ ≠0:=λe=>by have:=k8 _ f;rw[e,mF]at this;exact aF this S
 refine⟨(A n)⁻¹,a,?_⟩;have i:=eS (uh a) b;rw[yv a]at i;rw[Mo,(Y:sz (K (A n)⁻¹ *A)-1=n),du,k8 _ f]
def bD.smul{Q}(h:bD Q){b}(d:b≠0):bD (K b*Q):=by
 have g:=eS (uh d) h.ne;rw[yv d]at g;refine⟨Ej,λA B e=>?_⟩;have i:Q=(K b⁻¹ *A)*B:=by rw[dc,<-e,<-dc,qy d,c8]
 rcases h.2 _ _ i with f|f
 .left;have a:b⁻¹ ≠0:=λe=>by have:=k8 _ d;rw[e,mF]at this;exact aF this S
  have k:A≠0:=λl=>by rw[l,g6,kO]at f;omega
  have:=eS (uh a) k;rw[yv a]at this;omega
 .exact .inr f
def bD.assoc{Q a}(b:bD Q)(k:bD a)(d:Q∣a):a∣Q:=by
 let ⟨w,hw⟩:=d;rcases k.2 _ _ hw with e|e
 .let ⟨C,f⟩:=yu e;exact⟨C,by rw[hw,<-dc,f,c8]⟩
 .have:=b.1;omega
def bD.eq{Q a}(d:bD Q)(k:bD a)(f:Mo Q)(g:Mo a)(b:Q∣a):Q=a:=f.eq g b<|d.assoc k b
def mult{Q:Rx}(hQ:bD Q):∀(n:G)(a:Rx),sz a<n->a≠0->∃e b,a=pk Q e*b/\¬Q∣b
 |0,_,b,_=>by omega
 |n+1,a,b,k=>by
  by_cases d:Q∣a
  .obtain⟨f,rfl⟩:=d;have i:f≠0:=λe=>k Lw
   have m:=eS i hQ.ne;have p:=hQ.1;obtain⟨e,g,rfl,l⟩:=mult hQ n f Y i;exact⟨e+1,g,by rw[pk];ac_rfl,l⟩
  .exact⟨0,a,(c8 a).symm,d⟩
def bD.pk{Q A:Rx}(a:bD Q):∀{n:G},Q∣pk A n->0<n/\Q∣A
 |0,b=>aF b a.Ev
 |n+1,b=>by
  rcases a.pP b with d|d
  .exact⟨Y,(bD.pk a d).2⟩
  .exact⟨Y,d⟩
structure FL(L:E (Rx×G)):Prop where
 gJ:∀x∈L,bD x.1
 mo:∀x∈L,Mo x.1
 pos:∀x∈L,1<=x.2
 xa:L.Pairwise (λx a=>x.1≠a.1)
def FL.tail{x}{b}(a:FL (x::b)):FL b:=⟨λy hy=>a.gJ y wD,λy hy=>a.mo y wD,λy hy=>a.pos y wD,(lq.1 a.xa).2⟩
def FL.XA:∀{d:E (Rx×G)},d.Pairwise (λx g=>x.1≠g.1)->∀{x z:Rx×G},x∈d->z∈d->x≠z->x.1≠z.1
 |g::d,m,x,z,hx,i,eZ=>by
  let ⟨k,h2⟩:=lq.1 m;rcases b7.1 hx with l|b
  .rcases b7.1 i with f|a
   .exact aF (l.trans f.symm) eZ
   .rw[l];exact k z a
  .rcases b7.1 i with f|a
   .rw[f];exact(k x b).symm
   .exact FL.XA h2 b a eZ
def pF(a:G->G):E (Rx×G)->Rx
 |[]=>1
 |x::b=>pk x.1 (a x.2)*pF a b
def Ew(b d:G->G):∀a,pF (λm=>b m+d m) a=pF b a*pF d a
 |[]=>(c8 1).symm
 |x::a=>by rw[pF,pF,pF,Ew b d a,B0];ac_rfl
def Af{b d:G->G}:∀{a:E (Rx×G)},(∀x∈a,b x.2=d x.2)->pF b a=pF d a
 |[],_=>rfl
 |x::a,f=>by rw[pF,pF,f x au,Af<|λg hy=>f g wD]
def yx{d:G->G}:∀{a:E (Rx×G)},(∀x∈a,Mo x.1)->Mo (pF d a)
 |[],_=>agp
 |x::a,b=>((b x au).pk _).mul<|yx λf hy=>b f wD
def QI{b:G->G}:∀{a:E (Rx×G)},(∀x∈a,b x.2=0)->pF b a=1
 |[],_=>rfl
 |x::a,d=>by rw[pF,d x au,QI<|λf hy=>d f wD];exact c8 1
def LB{c:G->G}:∀{a:E (Rx×G)}{x:Rx×G},x∈a->0<c x.2->x.1∣pF c a
 |g::a,x,b,hc=>by
  rw[pF];rcases b7.1 b with rfl|b
  .obtain⟨d,f⟩:∃d,c x.2=d+1:=⟨c x.2-1,Y⟩;rw[f,pk];exact mI (jc _ _) _
  .exact dE (LB b hc) _
def B2{f:G->G}{Q:Rx}(hQ:bD Q):∀{a:E (Rx×G)},Q∣pF f a->∃x∈a,0<f x.2/\Q∣x.1
 |[],b=>aF b hQ.Ev
 |g::a,b=>by
  rcases hQ.pP b with d|d
  .exact⟨g,au,hQ.pk d⟩
  .let ⟨x,h1,h2⟩:=B2 hQ d;exact⟨x,B3,h2⟩
def FL.asD{x}{b}(a:FL (x::b)){d:G->G}:¬x.1∣pF d b:=λf=>by let ⟨y,h1,h2,g⟩:=B2 (a.gJ x au) f;exact(lq.1 a.xa).1 y h1<|(a.gJ x au).eq (a.gJ y B3) (a.mo x au) (a.mo y B3) g
def FL.H5{g:G->G}(l:∀m,g m<=1):∀{i:E (Rx×G)},FL i->∀{x:Rx×G},x∈i->g x.2=1->¬x.1∣bH (pF g i)
 |d::i,a,x,hx,n,f=>by
  have k:=a.gJ d au;rcases b7.1 hx with rfl|b
  .rw[pF,n,sZ,yw]at f;rcases k.pP (yo ((jS _ _).symm▸f)<|mH _ _)with e|e
   .exact k.H5 e
   .exact a.asD e
  .have p:=FL.H5 l a.tail b n;have s:=a.gJ x hx;by_cases t:g d.2=0
   .rw[pF,t]at f;exact p (by rwa[show pk d.1 0=1 from J,c8]at f)
   .have u:g d.2=1:=kw<|l d.2
    rw[pF,u,sZ,yw]at f;rcases s.pP (yo f<|dE (LB b Y) _)with e|e
    .exact(lq.1 a.xa).1 x b (s.eq k (a.mo x hx) (a.mo d au) e).symm
    .exact p e
def agr:∀(n:G)(b:Rx),sz b<n->Mo b->∃m,FL m/\pF id m=b
 |0,_,B,_=>by omega
 |n+1,b,B,k=>by
  have H:=fQ k.ne;by_cases e:sz b=1
  .exact⟨[],⟨au,au,au,.nil⟩,(k.unit e).symm⟩
  .let ⟨Q,hQ,C⟩:=vr _ b (dV _) Y;let ⟨c,hc,hm⟩:=agq hQ.ne;have p:=hQ.smul hc;have s:K c*Q∣b:=fW (hQ.assoc p<|jc _ _) C;generalize K c*Q=q at*;let ⟨e,g,l,u⟩:=mult p _ b (dV _) k.ne;have D:1<=e:=by
    rcases sS e with d|d
    .subst d;rw[show pk q 0=1 from J,c8]at l;exact aF (l▸s) u
    .exact d
   have v:Mo g:=by rw[l,dk]at k;exact k.Ae<|hm.pk e
   have N:sz g<sz b:=by have z:=eS (hm.pk e).ne v.ne;rw[<-l]at z;obtain⟨f,rfl⟩:∃f,e=f+1:=⟨e-1,Y⟩;have i:=eS (hm.pk f).ne hm.ne;have t:=fQ (hm.pk f).ne;have P:=p.1;rw[show pk q (f+1)=pk q f*q from J]at z;omega
   let ⟨m,i,t⟩:=agr n g Y v;refine⟨(q,e)::m,⟨?_,?_,?_,lq.2 ⟨λy A d=>?_,i.xa⟩⟩,?_⟩
   .intro x a;rcases b7.1 a with rfl|a
    .exact p
    .exact i.gJ x a
   .intro x a;rcases b7.1 a with rfl|a
    .exact hm
    .exact i.mo x a
   .intro x a;rcases b7.1 a with rfl|a
    .exact D
    .exact i.pos x a
   .refine u ?_;rw[<-t];have d:q=y.1:=d;rw[d];exact LB A<|i.pos y A
   .rw[pF,t];exact l.symm
structure LC(D A B:Rx):Prop where
 mo:Mo D
 l:D∣A
 r:D∣B
 ex:∃a V,D=a*A+V*B
def kW(n:G):G->G:=λm=>if n<=m then 1 else 0
def kP(n:G):G->G:=λm=>if m=n then 1 else 0
def kG:G->G:=λm=>m-1
def ags n:∀m,kW n m<=1:=λm=>by unfold kW;split<;>omega
def LD n:∀m,kP n m<=1:=λm=>by unfold kP;split<;>omega
def QJ{n m}:kW n m=1↔n<=m:=by unfold kW;split<;>omega
def XB{n m}:kP n m=1↔m=n:=by unfold kP;split<;>omega
def XC n a:pF (kW n) a=pF (kP n) a*pF (kW<|n+1) a:=by rw[<-Ew];exact Af λx _=>by unfold kW kP;split<;>split<;>split<;>omega
def XD{a}(b:FL a):pF id a=pF (kW 1) a*pF kG a:=by rw[<-Ew];exact Af λx d=>by have:=b.pos x d;show x.2=kW 1 x.2+kG x.2;unfold kW kG;split<;>omega
def Yp(a:E (Rx×G))(n:G)(b:Rx):Prop:=∀x∈a,n<=x.2->x.1∣b-K ((x.2:L)-(n:L)+1)*bH (pF (kW n) a)
def agt:∀{b:E (Rx×G)},FL b->∃d,bH (pF id b)=d*pF kG b/\∀x∈b,x.1∣d-K (x.2:L)*bH (pF (kW 1) b)
 |[],_=>⟨0,by rw[dy];exact asB,λx hx=>by simp at hx⟩
 | (a,m)::b,f=>by
  let ⟨d,k,h2⟩:=agt f.tail;have t:1<=m:=f.pos (a,m) au;obtain⟨e,rfl⟩:∃e,m=e+1:=⟨m-1,Y⟩;have l:pF (kW 1) ((a,e+1)::b)=a*pF (kW 1) b:=by rw[pF,QJ.2 Y,sZ]
  have n:pF kG ((a,e+1)::b)=pk a e*pF kG b:=rfl;have p:pF id ((a,e+1)::b)=pk a e*a*pF id b:=rfl;refine⟨K ((e+1:G):L)*bH a*pF (kW 1) b+a*d,?_,?_⟩
  .rw[p,n,yw,k,show pk a e*a=pk a (e+1)from J,H4,XD f.tail,show pk a (e+1)=pk a e*a from J,gQ];ac_rfl
  .intro x hx;rw[l,yw];rcases b7.1 hx with rfl|hx
   .refine⟨d-K ((e+1:G):L)*bH (pF (kW 1) b),?_⟩;show K ((e+1:G):L)*bH a*pF (kW 1) b+a*d-K ((e+1:G):L)*(bH a*pF (kW 1) b+a*bH (pF (kW 1) b))=_;rw[ov];refine sub_eq ?_;rw[fN];have g:d*a-K ((e+1:G):L)*bH (pF (kW 1) b)*a+(K ((e+1:G):L)*(bH a*pF (kW 1) b)+K ((e+1:G):L)*(a*bH (pF (kW 1) b)))=(d*a-K ((e+1:G):L)*bH (pF (kW 1) b)*a+K ((e+1:G):L)*bH (pF (kW 1) b)*a)+K ((e+1:G):L)*(bH a*pF (kW 1) b):=fC;rw[g,mG];ac_rfl
   .have i:x.1∣pF (kW 1) b:=LB hx (by rw[QJ.2 (f.pos x mW)];omega);rw[fN,QD];refine iA (dvd_sub (dE i _)<|dE (dE i _) _) ?_;have g:a*d-K (x.2:L)*(a*bH (pF (kW 1) b))=a*(d-K (x.2:L)*bH (pF (kW 1) b)):=by rw[mul_sub];congr 1;ac_rfl
    rw[g];exact dE (h2 x hx) a
def Ag{m:G}(a:m≠0):(m:L)≠0:=λe=>a (by exact_mod_cast e)
def asE{a}(b:FL a){D}(l:LC D (pF id a) (bH<|pF id a)):D=pF kG a/\∃f,bH (pF id a)=f*D/\Yp a 1 f:=by
 let ⟨f,g,h2⟩:=agt b;have hE:=XD b;have i:Co (pF (kW 1) a) f:=H2 (yx b.mo).ne λQ hQ q1 m=>by let ⟨x,d,v,n⟩:=B2 hQ q1;exact FL.H5 (ags 1) b d (QJ.2<|b.pos x d)<|asA (Ag<|by have:=b.pos x d;omega)<|agj (m9<|h2 x d)<|fW (hQ.assoc (b.gJ x d) n) m
 let ⟨t,u,k⟩:=i;let ⟨d1,d2,d3,U,V,d4⟩:=l;have e:D=pF kG a:=by
  refine d1.eq (yx b.mo) ?_ ?_
  .have:pF kG a=t*pF id a+u*bH (pF id a):=by rw[hE,<-hE,g,<-dc,hE,<-dc,<-gQ,k,c8]
   rw[this];exact iA (dE d2 _)<|dE d3 _
  .rw[d4,g];refine iA (dE ?_ _)<|dE (jc _ _) _;rw[hE];exact jc _ _
 refine⟨e,f,by rw[e];exact g,λx d _=>?_⟩;rw[show(x.2:L)-((1:G):L)+1=(x.2:L)by show(x.2:L)-1+1=_;grind];exact h2 x d
end Rx
def bU:G->G
 |0=>1
 |n+1=>(n+1)*bU n
def LF:∀n,0<bU n
 |0=>Nat.one_pos
 |n+1=>BP (Nat.succ_pos n)<|LF n
def xb:∀i a,ch (i+a) i*(bU i*bU a)=bU (i+a)
 |0,a=>by rw[fD,ua,bU,je,je]
 |i+1,0=>by rw[jZ,Lh,show bU 0=1 from J,rh,je]
 |i+1,a+1=>by
  have b:=xb i<|a+1;rw[(Y:i+1+(a+1)=(i+(a+1))+1),ch,show bU (i+(a+1)+1)=(i+(a+1)+1)*bU (i+(a+1))from J,gY];rw[(Y:i+(a+1)=i+1+a)]at b⊢;have f:ch (i+1+a) i*(bU (i+1)*bU (a+1))=(i+1)*bU (i+1+a):=by rw[<-b,bU];ac_rfl
  have g:ch (i+1+a) (i+1)*(bU (i+1)*bU (a+1))=(a+1)*bU (i+1+a):=by rw[<-(xb (i+1) a),show bU (a+1)=(a+1)*bU a from J];ac_rfl
  rw[f,g,<-gY,(Y:i+1+(a+1)=i+1+a+1)]
def sN(f:G->G):G->G
 |0=>0
 |k+1=>sN f k+f k
def agu{f g:G->G}:∀{k:G},(∀i,i<k->f i=g i)->sN f k=sN g k
 |0,_=>rfl
 |k+1,a=>by rw[sN,sN,agu<|λi b=>a i Y,a k Y]
def agv(f g:G->G):∀k,sN (λi=>f i+g i) k=sN f k+sN g k
 |0=>rfl
 |k+1=>by simp[sN,agv f g k];omega
def QK(f:G->G):∀k,sN f (k+1)=f 0+sN (λi=>f<|i+1) k
 |0=>by simp[sN]
 |k+1=>by rw[sN,QK f k,sN];omega
def XE(f:G):∀a k,ch (a+f) k=sN (λt=>ch a t*ch f (k-t)) (k+1)
 |0,k=>by
  rw[QK,ua,je,fD,DY];have:sN (λi=>ch 0 (i+1)*ch f (k-(i+1))) k=0:=by
   have e:∀b,sN (λi=>ch 0 (i+1)*ch f (k-(i+1))) b=0:=λb=>by
    induction b with
    |zero=>rfl
    |succ n d=>rw[sN,d,BW 0 (n+1) Y,so]
   exact e k
  rw[this];rfl
 |a+1,0=>by rw[ua,sN,sN,ua,ua]
 |a+1,k+1=>by
  rw[(Y:a+1+f=a+f+1),ch,XE f a k,XE f a<|k+1,QK<|λt=>ch (a+1) t*ch f (k+1-t),QK<|λt=>ch a t*ch f (k+1-t)];have e:sN (λi=>ch (a+1) (i+1)*ch f (k+1-(i+1))) (k+1)=sN (λi=>ch a i*ch f (k-i)) (k+1)+sN (λi=>ch a (i+1)*ch f (k+1-(i+1))) (k+1):=by
   rw[<-agv];refine agu λi _=>?_
   rw[ch,gY,(Y:k+1-(i+1)=k-i)]
  rw[e,ua,ua];omega
def Ah{f:G->V}{a:G}:∀{n:G},a<n->(∀i,i<n->i≠a->f i=0)->sm f n=f a
 |0,d,_=>by omega
 |n+1,d,b=>by
  rw[sm];by_cases g:a=n
  .subst g;rw[sU (λi k=>b i Y Y),Ee]
  .rw[Ah (n:=n) Y (λi k=>b i Y),b n Y Y,tV]
def agw(f:G->G):∀k,((sN f k:G):V)=sm (λi=>((f i:G):V)) k
 |0=>rfl
 |k+1=>by rw[sN,sm,zQ,agw f k]
def vu(a:G->G->V)(m:G):∀n,sm (λi=>sm (λb=>a i b) m) n=sm (λb=>sm (λi=>a i b) n) m
 |0=>(sU λ_ _=>rfl).symm
 |n+1=>by rw[sm,vu a m n,<-Qp];rfl
def QL{f:G->V}:∀{n:G},(∀i,i<n->0<=f i)->0<=sm f n
 |0,_=>iZ _
 |n+1,a=>by
  have b:=QL (f:=f) (n:=n) λi d=>a i Y
  have g:=a n Y;rw[sm];omega
def LG{f g:G->V}:∀{n:G},(∀i,i<n->f i<=g i)->sm f n<=sm g n
 |0,_=>iZ _
 |n+1,a=>by
  have b:=LG (f:=f) (g:=g) (n:=n) λi d=>a i Y
  have k:=a n Y;rw[sm,sm];omega
def QM{f:G->V}{a n}(d:a<n)(g:∀i,i<n->0<=f i):f a<=sm f n:=by
 have e:sm (λi=>if i=a then f a else 0) n=f a:=(Ah d λi _ b=>y b).trans<|q J;rw[<-e];refine LG λi b=>?_
 split
 next e=>subst e;exact iZ _
 .exact g i b
def s2(k l:G)(b:G->G->V):V:=sm (λa=>sm (λe=>b a e)<|l+1)<|k+1
def xc{k l}{d f:G->G->V}(g:∀a b,a<=k->b<=l->d a b=f a b):s2 k l d=s2 k l f:=iz λa i=>iz λb m=>g a b Y Y
def yy k l b(d:G->G->V):s2 k l (λa f=>b*d a f)=b*s2 k l d:=by unfold s2;rw[<-BU];exact iz λa _=>BU _ _ _
def XF k l b(d:G->G->V):s2 k l (λa f=>d a f*b)=s2 k l d*b:=by rw[fL,<-yy];exact xc λ_ _ _ _=>fL _ _
def QN k l d f(g:G->G->G->G->V):s2 k l (λa b=>s2 d f<|λt s=>g a b t s)=s2 d f (λt s=>s2 k l<|λa b=>g a b t s):=by
 unfold s2;have i:∀a,sm (λb=>sm (λt=>sm (λs=>g a b t s)<|f+1)<|d+1) (l+1)=sm (λt=>sm (λs=>sm (λb=>g a b t s)<|l+1)<|f+1) (d+1):=λa=>by rw[vu];exact iz λt _=>vu _ _ _
 rw[iz λa _=>i a,vu];exact iz λt _=>vu _ _ _
def asF{k l}{d f:G->G->V}(g:∀a b,a<=k->b<=l->d a b<=f a b):s2 k l d<=s2 k l f:=LG λa i=>LG λb m=>g a b Y Y
def asG{k l}{b:G->G->V}{a e}(g:a<=k)(p:e<=l)(d:∀a e,a<=k->e<=l->0<=b a e):b a e<=s2 k l b:=by exact vw (QM (f:=λe=>b a e) (a:=e) (n:=l+1) Y λi m=>d a i g Y)<|QM (f:=λa=>sm (λe=>b a e)<|l+1) (a:=a) (n:=k+1) Y λi m=>QL λj s=>d i j Y Y
def asH{k l}{m:G->G->V}{a g}(s:a<=k)(u:g<=l)(p:∀i b,i<=k->b<=l->¬(i=a/\b=g)->m i b=0):s2 k l m=m a g:=by unfold s2;rw[Ah (a:=a) Y λi v d=>sU λb t=>p i b Y Y λn=>d n.1];exact Ah (f:=λg=>m a g) (a:=g) Y λb t d=>p a b s Y λn=>d n.2
def eta(t s a b:G):V:=if t<=a/\s<=b/\a-t=b-s then((ch a t*ch b s*bU (a-t):G):V)else 0
def agx{k l a e a' f}(ha:a<=k)(he:e<=l)(d:a'<=k)(hf:f<=l):(if a+f=a'+e then((bU (a+f):G):V)else 0)=s2 k l (λt s=>((bU t*bU s:G):V)*(eta t s a e*eta t s a' f)):=by
 by_cases h:a+f=a'+e
 .rw[q h,h,<-xb a' e,<-h,XE f a a',gM,agw];have A:sm (λt=>((ch a t*ch f (a'-t):G):V)) (a'+1)=sm (λt=>((ch a t*ch f (a'-t):G):V)*(if t<=a' then 1 else 0)) (k+1):=by
   have B:∀n,a'<=n->sm (λt=>((ch a t*ch f (a'-t):G):V)*(if t<=a' then 1 else 0)) (n+1)=sm (λt=>((ch a t*ch f (a'-t):G):V)) (a'+1):=λn j=>by
    induction n with
    |zero=>
     have:a'=0:=Y
     subst this
     exact iz λi C=>by rw[q Y,oV]
    |succ n D=>
     by_cases H:a'<=n
     .rw[sm,D H,y Y,iO,tV]
     .have:a'=n+1:=by omega
      subst this;exact iz λi C=>by rw[q Y,oV]
   exact(B k d).symm
  rw[A,<-Xa];unfold s2;refine iz λt K=>?_
  by_cases g:t<=a'/\t<=a/\a-t<=e
  .let ⟨g,h2,N⟩:=g;rw[q g,oV];rw[Ah (a:=e-(a-t)) Y λs p P=>?_]
   .have b:t<=a/\e-(a-t)<=e/\a-t=e-(e-(a-t)):=by omega
    have Q:t<=a'/\e-(a-t)<=f/\a'-t=f-(e-(a-t)):=Y;dsimp only;rw[eta,q b,eta,q Q];have T:=xb t<|a-t;have u:=xb (e-(a-t))<|a-t;have v:=xb t<|a'-t;have x:=xb (e-(a-t))<|a'-t;have z:=xb (a'-t)<|e-(a-t);rw[(Y:t+(a-t)=a)]at T;rw[(Y:e-(a-t)+(a-t)=e)]at u;rw[(Y:t+(a'-t)=a')]at v;rw[(Y:e-(a-t)+(a'-t)=f)]at x;rw[(Y:a'-t+(e-(a-t))=f)]at z;have m:ch a t*ch f (a'-t)*(bU a'*bU e)=bU t*bU (e-(a-t))*(ch a t*ch e (e-(a-t))*bU (a-t)*(ch a' t*ch f (e-(a-t))*bU (a'-t))):=by rw[<-v,<-u];have W:ch f (a'-t)*(bU (a'-t)*bU (e-(a-t)))=ch f (e-(a-t))*(bU (e-(a-t))*bU (a'-t)):=z.trans x.symm;have X:ch a t*ch f (a'-t)*(ch a' t*(bU t*bU (a'-t))*(ch e (e-(a-t))*(bU (e-(a-t))*bU (a-t))))=ch a t*ch a' t*bU t*ch e (e-(a-t))*bU (a-t)*(ch f (a'-t)*(bU (a'-t)*bU (e-(a-t)))):=fC;rw[X,W];ac_rfl
    rw[<-gM,<-gM,<-gM,m]
   .have:¬(t<=a/\s<=e/\a-t=e-s):=by omega
    dsimp only;rw[eta,y this,oU,iO]
  .have c:((ch a t*ch f (a'-t):G):V)*(if t<=a' then 1 else 0)=0:=by
    by_cases h2:t<=a'
    .by_cases N:t<=a
     .rw[BW f (a'-t) Y,QO];simp
     .rw[BW a t Y,so];simp
    .rw[y h2,iO]
   rw[c,oU];refine(sU λs p=>?_).symm;by_cases b:t<=a/\s<=e/\a-t=e-s
   .have:¬(t<=a'/\s<=f/\a'-t=f-s):=by omega
    dsimp only;rw[show eta t s a' f=0 by rw[eta,if_neg this],LH,LH]
   .dsimp only;rw[eta,if_neg b,Int.zero_mul,LH]
 .rw[y h];unfold s2;refine(sU λt K=>sU λs p=>?_).symm;by_cases b:t<=a/\s<=e/\a-t=e-s
  .have:¬(t<=a'/\s<=f/\a'-t=f-s):=by omega
   dsimp only;rw[show eta t s a' f=0 by rw[eta,if_neg this],LH,LH]
  .dsimp only;rw[eta,if_neg b,Int.zero_mul,LH]
def agy t s:eta t s t s=1:=by rw[eta,q Y,Lh,Lh,kg];rfl
def Ey(x:V):0<=x*x:=by
 rcases Int.le_total 0 x with h|h
 .exact kL h h
 .have:=kL (a:= -x) (b:= -x) Y Y;rwa[Int.neg_mul_neg]at this
def asI k l(g:G->G->V):
  s2 k l (λt s=>((bU t*bU s:G):V)*((bU (k-t)*bU (l-s):G):V)*(g t s*g t s))<=
  s2 k l (λa b=>s2 k l<|λd f=>g a b*g d f*((if a+f=d+b then((bU (a+f):G):V)else 0)*(if(k-a)+(l-f)=(k-d)+(l-b)then((bU ((k-a)+(l-f)):G):V)else 0))):=by
 have u:s2 k l (λa b=>s2 k l<|λd f=>g a b*g d f*((if a+f=d+b then((bU (a+f):G):V)else 0)*(if(k-a)+(l-f)=(k-d)+(l-b)then((bU ((k-a)+(l-f)):G):V)else 0)))=
   s2 k l (λt s=>s2 k l<|λm n=>((bU t*bU s:G):V)*((bU m*bU n:G):V)*(s2 k l (λa b=>g a b*(eta t s a b*eta m n (k-a) (l-b)))*s2 k l (λa b=>g a b*(eta t s a b*eta m n (k-a) (l-b))))):=by
  have v:∀a b,a<=k->b<=l->s2 k l (λd f=>g a b*g d f*((if a+f=d+b then((bU (a+f):G):V)else 0)*(if(k-a)+(l-f)=(k-d)+(l-b)then((bU ((k-a)+(l-f)):G):V)else 0)))=s2 k l (λt s=>s2 k l<|λm n=>((bU t*bU s:G):V)*((bU m*bU n:G):V)*(g a b*(eta t s a b*eta m n (k-a) (l-b))*s2 k l (λa b=>g a b*(eta t s a b*eta m n (k-a) (l-b))))):=by
   intro a b x z;have A:∀d f,d<=k->f<=l->g a b*g d f*((if a+f=d+b then((bU (a+f):G):V)else 0)*(if(k-a)+(l-f)=(k-d)+(l-b)then((bU ((k-a)+(l-f)):G):V)else 0))=s2 k l (λt s=>s2 k l<|λm n=>((bU t*bU s:G):V)*((bU m*bU n:G):V)*(g a b*(eta t s a b*eta m n (k-a) (l-b))*(g d f*(eta t s d f*eta m n (k-d) (l-f))))):=by
    intro d f p B;rw[agx x z p B,agx (k:=k) (l:=l) (a:=k-a) (e:=l-b) (a':=k-d) (f:=l-f) Y Y Y Y,<-XF,<-yy];refine xc λt s _ _=>?_
    rw[<-yy,<-yy];refine xc λm n _ _=>?_
    ac_rfl
   rw[xc A,QN];refine xc λt s _ _=>?_
   rw[QN];refine xc λm n _ _=>?_
   rw[<-yy,<-yy]
  rw[xc v,QN]
  refine xc λt s _ _=>?_
  rw[QN]
  refine xc λm n _ _=>?_
  rw[yy,XF]
 rw[u]
 refine asF λt s C D=>?_
 refine vw (agz ?_)<|asG (k:=k) (l:=l) (a:=k-t) (e:=l-s) Y Y λm n _ _=>kL (kL (s8 _)<|s8 _)<|Ey _
 have H:s2 k l (λa b=>g a b*(eta t s a b*eta (k-t) (l-s) (k-a) (l-b)))=g t s:=by
  rw[asH C D λi j N P K=>?_]
  .rw[agy,agy,oV,oV]
  .by_cases c1:t<=i/\s<=j/\i-t=j-s
   .have:¬(k-t<=k-i/\l-s<=l-j/\k-i-(k-t)=l-j-(l-s)):=by omega
    rw[show eta (k-t) (l-s) (k-i) (l-j)=0 by rw[eta,y this],iO,iO]
   .rw[eta,y c1,oU,iO]
 rw[H]
def Bw(n:G)(A:G->V):V:=sm (λi=>((bU i*bU (n-i):G):V)*(A i*A i))<|n+1
def asJ{A B:PS}{k l i}(p:∀b,k<b->A b=0)(hB:∀b,l<b->B b=0):(A*B) i=s2 k l (λa f=>if a+f=i then A a*B f else 0):=by
 rw[PS.fM];unfold s2;have s:∀a,a<=i->A a*B (i-a)=sm (λf=>if a+f=i then A a*B f else 0) (l+1):=λa g=>by
  by_cases e:i-a<=l
  .rw[Ah (a:=i-a) Y λf _ t=>y Y,q Y]
  .rw[hB (i-a) Y,iO];exact(sU λf H=>y Y).symm
 rw[iz λa g=>s a Y];have m:∀n,(∀a,n<=a->sm (λf=>if a+f=i then A a*B f else 0) (l+1)=0)->∀d,sm (λa=>sm (λf=>if a+f=i then A a*B f else 0)<|l+1) (n+d)=sm (λa=>sm (λf=>if a+f=i then A a*B f else 0)<|l+1) n:=λn u d=>by
  induction d with
  |zero=>rfl
  |succ d v=>rw[<-tC,sm,v,u _ Y,tV]
 have x:∀a,i+1<=a->sm (λf=>if a+f=i then A a*B f else 0) (l+1)=0:=λa g=>sU λf _=>y Y
 have z:∀a,k+1<=a->sm (λf=>if a+f=i then A a*B f else 0) (l+1)=0:=λa g=>sU λf _=>by rw[p a Y,oU,ite_self]
 rw[<-(m _ x<|k+1),<-(m _ z<|i+1)];congr 1;omega
def asK{A B:PS}{k l}(v:∀d,k<d->A d=0)(hB:∀d,l<d->B d=0):Bw k A*Bw l B<=Bw (k+l) (A*B):=by
 have u:=asI k l<|λa e=>A a*B e;have x:s2 k l (λt s=>((bU t*bU s:G):V)*((bU (k-t)*bU (l-s):G):V)*(A t*B s*(A t*B s)))=Bw k A*Bw l B:=by
  unfold Bw s2;rw[<-Xa];refine iz λt _=>?_
  rw[<-BU];refine iz λs _=>?_
  simp[gM];ac_rfl
 rw[x]at u;refine vw u<|agz ?_;have z:Bw (k+l) (A*B)=s2 k l (λa f=>s2 k l<|λb e=>A a*B f*(A b*B e)*(if a+f=b+e then((bU (a+f)*bU (k+l-(a+f)):G):V)else 0)):=by
  unfold Bw;have C:∀i,i<k+l+1->((bU i*bU (k+l-i):G):V)*((A*B) i*(A*B) i)=s2 k l (λa f=>s2 k l<|λb e=>A a*B f*(A b*B e)*(if a+f=i then(if b+e=i then((bU i*bU (k+l-i):G):V)else 0)else 0)):=λi _=>by
   rw[asJ v hB,<-XF,<-yy];refine xc λa f _ _=>?_
   rw[<-yy,<-yy];refine xc λb e _ _=>?_
   by_cases c1:a+f=i
   .by_cases m:b+e=i
    .rw[q c1,q c1,q m,q m,fL]
    .rw[y m,y m,ite_self];simp[iO]
   .rw[y c1,y c1,oU,iO,iO]
  rw[iz C];unfold s2;rw[vu];refine iz λa D=>?_
  rw[vu];refine iz λf H=>?_
  rw[vu];refine iz λb n=>?_
  rw[vu];refine iz λe K=>?_
  rw[BU];congr 1;rw[Ah (a:=a+f) Y λi _ p=>y λh=>p h.symm,q J];by_cases c:a+f=b+e
  .rw[q c.symm,q c]
  .rw[y λh=>c h.symm,y c]
 rw[z];unfold s2;refine iz λa D=>?_
 have N:∀(g:G->G->G->V),sm (λe=>sm (λb=>sm (λf=>g e b f)<|l+1)<|k+1) (l+1)=sm (λf=>sm (λb=>sm (λe=>g e b f)<|l+1)<|k+1) (l+1):=λg=>by
  rw[vu];have P:sm (λb=>sm (λe=>sm (λf=>g e b f)<|l+1)<|l+1) (k+1)=sm (λb=>sm (λf=>sm (λe=>g e b f)<|l+1)<|l+1) (k+1):=iz λb _=>vu _ _ _
  rw[P,vu]
 rw[N];refine iz λf H=>iz λb n=>iz λe K=>?_
 by_cases c:a+f=b+e
 .dsimp only;rw[q c,q Y,q c,<-gM,(Y:k-a+(l-f)=k+l-(a+f))];ac_rfl
 .dsimp only;rw[y c,y c,oU,iO,iO]
def agA{P:G->Prop}:∀n,P n->∃m,P m/\∀k,k<m->¬P k:=by
 intro n;induction n using Nat.strongRecOn with
 |ind n a=>
  intro h
  by_cases e:∃k,k<n/\P k
  .let ⟨k,b,h2⟩:=e;exact a k b h2
  .exact⟨n,h,λk d f=>e ⟨k,d,f⟩⟩
def asL{k}(g:2<=k):∃b,eO b/\b∣k:=by
 let ⟨m,⟨i,h2⟩,l⟩:=agA (P:=λd=>2<=d/\d∣k) k ⟨g,Nat.dvd_refl k⟩;refine⟨m,⟨i,λd f n p=>?_⟩,h2⟩;have a:d<m:=by have:d*2<=d*d:=gD d f;omega
 exact l d a ⟨f,H7 (LI p) h2⟩
def agB(f:G->V):∀k,((sm f k:V):L)=sq (λi=>(f i:L)) k
 |0=>rfl
 |k+1=>by rw[sm,sq,Rat.intCast_add,agB f k]
namespace Rx
def dz(A:Rx):Prop:=∀i,A i=((A i).num:L)
def nu(A:Rx):PS:=λi=>(A i).num
def dz.of{A}(a:∀i,∃z:V,A i=(z:L)):dz A:=λi=>by let ⟨z,b⟩:=a i;rw[b];rfl
def dz.at{A}(a:dz A) i:A i=((nu A i:V):L):=a i
def dz.mul'{A B}(a:dz A)(hB:dz B) i:(A*B) i=(((nu A*nu B) i:V):L):=by rw[PS.fM,agB,fM];exact w6 λj _=>by rw[a.at,hB.at,g7]
def dz.mul{A B}(a:dz A)(hB:dz B):dz (A*B):=dz.of λi=>⟨_,a.mul' hB i⟩
def EA{A B}(a:dz A)(hB:dz B):nu (A*B)=nu A*nu B:=PS.ext λi=>by show((A*B) i).num=_;rw[a.mul' hB i];rfl
def dz.K(z:V):dz (K (z:L)):=dz.of λi=>by
 rw[lS];split
 .exact⟨z,J⟩
 .exact⟨0,J⟩
def asM(z:V):nu (Rx.K (z:L))=PS.K z:=PS.ext λi=>by show((Rx.K (z:L)) i).num=PS.K z i;rw[lS,PS.K];split<;>rfl
def yz{A}{i}(a:sz A<=i):nu A i=0:=by show(A i).num=0;rw[lE a];rfl
def dz.sub{A B}(a:dz A)(hB:dz B):dz (A-B):=dz.of λi=>⟨nu A i-nu B i,by rw[nK,a.at,hB.at,LJ]⟩
def QP a:((a.den:G):L)*a=(a.num:L):=by
 have h:=pQ a;rw[QQ,s',uj]at h;have d:=k8 _<|Ag<|XG.1 a.den_pos;have b:((a.den:G):L)*a=((a.den:G):L)*((a.num:L)*((a.den:G):L)⁻¹):=by rw[h]
 rw[b];grind
def asN A:∃D:G,0<D/\dz (K ((D:G):L)*A):=by
 have a:∀n,∃D:G,0<D/\∀i,i<n->∃z:V,(D:L)*A i=(z:L):=by
  intro n;induction n with
  |zero=>exact⟨1,S,λi h=>aF h Y⟩
  |succ n d=>
   let ⟨D,b,h2⟩:=d
   refine⟨D*(A n).den,BP b (A n).den_pos,λi k=>?_⟩
   by_cases e:i=n
   .subst e;refine⟨(D:V)*(A i).num,?_⟩;rw[g7,B4,lT,QP];rfl
   .let ⟨z,f⟩:=h2 i Y;refine⟨z*((A n).den:V),?_⟩;rw[g7,<-f,B4,uj];grind
 let ⟨n,g⟩:=A.fin;let ⟨D,b,h2⟩:=a n;refine⟨D,b,dz.of λi=>?_⟩;rw[du];by_cases e:i<n
 .exact h2 i e
 .exact⟨0,by rw[g i Y,eh];rfl⟩
structure Dn(A:Rx)(m:G):Prop where
 pos:0<m
 int:dz (K ((m:G):L)*A)
 dvd:∀d:G,dz (K ((d:G):L)*A)->m∣d
def LK A:∃m,Dn A m:=by
 let ⟨D,f,h2⟩:=asN A;let ⟨m,⟨a,b⟩,g⟩:=agA (P:=λd=>0<d/\dz (K ((d:G):L)*A)) D ⟨f,h2⟩;refine⟨m,a,b,λd i=>(LI<|fe λk=>(g (d%m) (gU _ a) ⟨Y,?_⟩))⟩;have e:K ((d%m:G):L)*A=K ((d:G):L)*A-K (((d/m:G):V):L)*(K ((m:G):L)*A):=by
  have l:((d:G):L)=((d/m:G):L)*((m:G):L)+((d%m:G):L):=by rw[<-B4,<-agn,gA,tJ]
  rw[<-dc,<-eN,<-ov,<-Xv,l,uj];congr 2;grind
 rw[e];exact i.sub<|(dz.K _).mul b
def Dn.agC{A}(g:Mo A){m}(b:Dn A m){a}(s:eO a):¬∀i,nu (K ((m:G):L)*A) i%(a:V)=0:=λl=>by
 have t:=s.1;let ⟨n,u⟩:=H6 g.ne;have v:nu (K ((m:G):L)*A) n=(m:V):=by show((K ((m:G):L)*A) n).num=_;rw[du,g.at u,lF];rfl
 have z:a∣m:=z4.1<|v▸HM (l n);let ⟨k,B⟩:=z;have d:0<k:=by
  have:=b.pos;rcases sS k with e|e
  .subst e;omega
  .exact e
 have C:dz (K ((k:G):L)*A):=dz.of λi=>by let ⟨w,hw⟩:=HM<|l i;refine⟨w,?_⟩;have p:=b.int.at i;rw[hw,du,B,B4,g7,uj]at p;rw[du];have f:=bm (λx=>((a:G):L)⁻¹ *x) p;rw[<-lT,<-lT,<-lT,k8 _<|Ag (Y:a≠0)]at f;rw[rG,rG]at f;exact f
 have:=wZ d<|b.dvd k C;have:2*k<=a*k:=dS k t;omega
def agD{P f}(hP:Mo P)(hE:Mo f){a b s}(l:Dn P a)(m:Dn f b)(t:Dn (P*f) s):s=a*b:=by
 have x:dz (K ((a:G):L)*P*(K ((b:G):L)*f)):=l.int.mul m.int;have u:K ((a:G):L)*P*(K ((b:G):L)*f)=K ((a*b:G):L)*(P*f):=by rw[B4,eN];ac_rfl
 let ⟨k,z⟩:=t.dvd (a*b)<|u▸x;by_cases n:k=1
 .subst n;omega
 have B:=BP l.pos m.pos;have C:0<k:=by
  rcases sS k with e|e
  .subst e;omega
  .exact e
 let ⟨q,hq,p⟩:=asL (k:=k) Y;have D:∀i,(nu (K ((a:G):L)*P)*nu (K ((b:G):L)*f)) i%(q:V)=0:=λi=>by have g:=l.int.mul' m.int i;rw[u,z,B4,eN,dk (K _)<|K _,dc,du,t.int.at i,<-uj,<-g7]at g;rw[<-Ai.1 g];exact Eh<|LL (z4.2 p)<|Int.dvd_mul_right _ _
 have v:∀A:Rx,Dl (q:V) (sz A) (nu A):=λA i H=>by rw[yz H,iP]
 rcases HS (v<|K ((a:G):L)*P)with g|⟨d,_,d1,d2⟩
 .exact aF (λi=>by have:=g.at i;rwa[PS.mB,iP]at this)<|l.agC hP hq
 rcases HS (v<|K ((b:G):L)*f)with g|⟨e,_,f1,f2⟩
 .exact aF (λi=>by have:=g.at i;rwa[PS.mB,iP]at this)<|m.agC hE hq
 exact aF (D<|d+e)<|Go.El.BX hq d2 f2 d1 f1
def pC(n:G)(A:PS):V:=sm (λi=>(aC (A i):V))<|n+1
def agE(f:G->V):∀n,(∀i,0<=f i)->sm (λi=>f i*f i) n<=sm f n*sm f n
 |0,_=>by simp[sm]
 |n+1,a=>by
  have d:=agE f n a;
  have g:=kL (QL (f:=f) (n:=n) λi _=>a i)<|a n;rw[sm,sm,pJ,qt,qt,fL (f n)<|sm f n];omega
def asO n(A:PS):Bw n A<=((bU n:G):V)*(pC n A*pC n A):=by
 unfold Bw pC;refine vw ?_<|mq (agE (λi=>(aC (A i):V)) (n+1)<|λ_=>s8 _)<|s8 _;rw[<-BU];refine LG λi k=>?_
 have d:bU i*bU (n-i)<=bU n:=by
  have a:=xb i<|n-i;rw[(Y:i+(n-i)=n)]at a;have f:0<ch n i:=by
   rcases sS (ch n i)with e|e
   .rw[e,so]at a;have:=LF n;omega
   .exact e
  rw[<-a];exact Qu _ f
 have g:(aC (A i):V)*(aC (A i):V)=A i*A i:=by rw[<-gM,asP]
 rw[g];exact ja (QR.2 d)<|Ey _
def agF n:∀k,ch n k<=2^n:=by
 induction n with
 |zero=>
  intro k
  cases k with
  |zero=>exact aL _
  |succ k=>exact bg _
 |succ n a=>
  intro k
  have b:=gG (n:=n) (S:0<2)
  rw[fG]
  cases k with
  |zero=>rw[ua];omega
  |succ k=>
   have:=a k
   have:=a<|k+1
   rw[ch];omega
def asQ{x b}(d:0<=b)(g:x*x<=b*b):(aC x:V)<=b:=by
 refine fe λi=>?_
 have k:((aC x:V))*aC x=x*x:=by rw[<-gM,asP]
 have f:b<aC x:=Y;have l:b*b<(aC x:V)*aC x:=by have m:=mq (a:=b) (Y:b<=(aC x:V)) d;have n:=K5 f (Y:(0:V)<aC x);omega
 omega
def agG{A B}{k l}(s:∀b,k<b->A b=0)(hB:∀b,l<b->B b=0)(t:B l≠0) i:(aC (A i):V)<=2^(k+l)*pC (k+l) (A*B):=by
 have d:0<=pC (k+l) (A*B):=QL λ_ _=>s8 _
 have g:(0:V)<=2^(k+l):=Int.le_of_lt<|pI S;by_cases C:k<i
 .rw[s i C];exact kL g d
 refine asQ (kL g d) ?_;have u:((bU l:G):V)<=Bw l B:=by
  have:=QM (f:=λi=>((bU i*bU (l-i):G):V)*(B i*B i)) (a:=l) (n:=l+1) Y λi _=>kL (s8 _)<|Ey _
  refine vw ?_ this;rw[kg,show bU 0=1 from J,rh];have m:1<=B l*B l:=by have v:=Ey<|B l;have x:B l*B l≠0:=B5 t t;omega
  have:=mq m<|s8<|bU l;rwa[oV]at this
 have m:((bU i*bU (k-i):G):V)*(A i*A i)<=Bw k A:=QM (f:=λi=>((bU i*bU (k-i):G):V)*(A i*A i)) (a:=i) (n:=k+1) Y λi _=>kL (s8 _)<|Ey _
 have v:((bU i*bU (k-i):G):V)*(A i*A i)*((bU l:G):V)<=((bU (k+l):G):V)*(pC (k+l) (A*B)*pC (k+l) (A*B)):=by refine vw ?_<|vw (asK s hB)<|asO (k+l)<|A*B;exact vw (mq u<|kL (s8 _)<|Ey _)<|ja m<|vw (s8 _) u
 have x:bU (k+l)=bU i*bU (k-i)*bU l*(ch (k+l) k*ch k i):=by have H:=xb k l;have z:=xb i<|k-i;rw[(Y:i+(k-i)=k)]at z;rw[<-H,<-z];ac_rfl
 have K:ch (k+l) k*ch k i<=2^(k+l)*2^(k+l):=mA (agF _ _)<|br (agF _ _)<|dD S Y;have N:0<bU i*bU (k-i)*bU l:=BP (BP (LF _)<|LF _)<|LF _;generalize pC (k+l) (A*B)=p at*;have P:((bU i*bU (k-i)*bU l:G):V)*(A i*A i)<=((bU i*bU (k-i)*bU l:G):V)*((2^(k+l)*2^(k+l))*(p*p)):=by
  have Q:((bU i*bU (k-i)*bU l:G):V)*(A i*A i)=((bU i*bU (k-i):G):V)*(A i*A i)*((bU l:G):V):=by rw[gM];ac_rfl
  rw[Q];refine vw v ?_;rw[x,gM,ko];refine mq (ja ?_<|Ey p)<|s8 _;have:=QR.2 K;rw[gM (2^(k+l)),wW]at this;exact this
 refine vw (Int.le_of_mul_le_mul_left P<|Int.natCast_pos.2 N)<|agz ?_;ac_rfl
end Rx
def uk:E G:=[1073741827,1073741831,1073741833,1073741839,1073741843,1073741857,1073741891,1073741909,1073741939,1073741953,1073741969,1073741971,
 1073741987,1073741993,1073742037,1073742053,1073742073,1073742077,1073742091,1073742113,1073742169,1073742203,1073742209,1073742223,
 1073742233,1073742259,1073742277,1073742289,1073742343,1073742353,1073742361,1073742391,1073742403,1073742463,1073742493,1073742517,
 1073742583,1073742623,1073742653,1073742667,1073742671,1073742673,1073742707,1073742713,1073742721,1073742731,1073742767,1073742773,
 1073742811,1073742851,1073742853,1073742881,1073742889,1073742913,1073742931,1073742937,1073742959,1073742983,1073743007,1073743037,
 1073743049,1073743051,1073743079,1073743091,1073743093,1073743123,1073743129,1073743141,1073743159,1073743163,1073743189,1073743199,
 1073743207,1073743243,1073743291,1073743303,1073743313,1073743327,1073743331,1073743337,1073743381,1073743387,1073743393,1073743397,
 1073743403,1073743417,1073743421,1073743427,1073743457,1073743459,1073743469,1073743501,1073743507,1073743513,1073743543,1073743577,
 1073743591,1073743633,1073743739,1073743757,1073743831,1073743861,1073743871]
def LM:G->G->G
 |0,l=>l+1
 |d+1,l=>LM d (2*l)*LM d (2*l+1)
def XH:∀(d l x:G),x<2^d->2^d*l+x+1∣LM d l
 |0,l,x,h=>by have:x=0:=fg;subst this;rw[qx,je,jZ];exact Nat.dvd_refl _
 |d+1,l,x,h=>by
  rw[fG]at h⊢;by_cases e:x<2^d
  .have:=XH d (2*l) x e;rw[(fC:2^d*(2*l)=2^d*2*l)]at this;exact Nat.dvd_mul_right_of_dvd this _
  .have:=XH d (2*l+1) (x-2^d) Y;rw[show 2^d*(2*l+1)+(x-2^d)=2^d*2*l+x by rw[yk,(fC:2^d*(2*l)=2^d*2*l)];omega]at this;exact asR this _
def tb(l:E G):G:=l.foldr (·*·) 1
def asS{l}{x}(a:x∈l):x∣tb l:=by
 induction l with
 |nil=>cases a
 |cons y l b=>
  rcases b7.1 a with rfl|a
  .exact Nat.dvd_mul_right _ _
  .exact asR (b a) _
def asT:Nat.gcd (tb uk) (LM 15 0)=1:=fh
def asU:(uk.all λp=>Nat.blt 1073741824 p&&Nat.blt p 1073743872)=true:=fh
def agH{p}(a:p∈uk):1073741824<p/\p<1073743872:=by have:=nY.1 asU p a;rw[cP]at this;exact⟨c7 this.1,c7 this.2⟩
def asV{p}(a:p∈uk):eO p:=by
 let ⟨l,h2⟩:=agH a;refine⟨Y,λd m f g=>?_⟩;have n:d<=32768:=by
  by_cases e:d<=32768
  .exact e
  .have:=mA (Y:32769<=d) (Y:32769<=d);omega
 have i:d∣LM 15 0:=by have:=XH 15 0 (d-1) (Y:d-1<32768);rwa[QO,fD,(Y:d-1+1=d)]at this
 have k:d∣tb uk:=H7 (LI g)<|asS a;have b:=Nat.dvd_gcd k i;rw[asT]at b;have:=wZ S b;omega
end Go.El
