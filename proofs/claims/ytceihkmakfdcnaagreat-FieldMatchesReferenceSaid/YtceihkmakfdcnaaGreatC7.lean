/- Own work; no condition. -/
import Derived.Test.YtceihkmakfdcnaaGreatC6
import Derived.Test.YtceihkmakfdcnaaGreatC4
set_option linter.all false
set_option maxHeartbeats 16000000
set_option maxRecDepth 100000
open Bool renaming false->ah,true->ae
open Decidable renaming byContradiction->Wx
open Go.El renaming cS->e,rr->U,iJ->o,re->M,bI->h,cI->c,rb->R,jz->w,NB->F
open Go.IntKind renaming wrap->ax,bits->dx,signed->KR
open Go.Proofs.Tryz renaming prog->O
open Int renaming toNat->af,natAbs->aC,gcd->jl,neg_ediv_of_dvd->aq5,lt_of_mul_lt_mul_right->ari,le_ediv_of_mul_le->ark,ediv_ediv_of_nonneg->arq
open List renaming getD->I,take->r,length->Z,replicate->bx,drop->az
open Nat renaming gcd->pK
open _root_ renaming List->E,Int->V,Nat->G
namespace Go.El
open Go Go.Proofs Go.RowKit
structure KU(a b:E V)(m:G)(x:G×E V×V):Prop where
 i:x.1<=m
 len:x.2.1.length=m
 r:cu x.2.1
 z:∀d,x.1<=d->x.2.1.getD d 0=0
 c0:0<=x.2.2
 c1:x.2.2<=1
 v:val x.2.1-x.2.2*4294967296^x.1=val (a.take x.1)-val (b.take x.1)
def KU.next{a b}{m}{x}(d:KU a b m x)(f:x.1<m)(g:cu a)(k:cu b):KU a b m (x.1+1,x.2.1.set x.1<|(4294967296+I a x.1 0-I b x.1 0-x.2.2)%4294967296,1-(4294967296+I a x.1 0-I b x.1 0-x.2.2)/4294967296):=by
 have p:=dI g x.1;have t:=dI k x.1;have u:=d.c0;have A:=d.c1;refine⟨f,by simp[d.len],BI d.r _ ⟨Y,Y⟩,?_,(by show 0<=1-_/_;omega),(by show 1-_/_<=1;omega),?_⟩
 .intro j i;simp only at i;rw[wQ _ _ _ _ (by rw[d.len];exact f),y Y];exact d.z j Y
 .simp only;rw[KS _ _ _ (by rw[d.len];exact f) (d.z _<|aL _),lP,lP,gP];have l:=d.v;generalize (4294967296:V)^x.1=q at l⊢;generalize ht:4294967296+I a x.1 0-I b x.1 0-x.2.2=s;have n:s%4294967296+s/4294967296*4294967296=s:=Y;have:val x.2.1=val (List.take x.1 a)-val (List.take x.1 b)+x.2.2*q:=Y;rw[this];have e:s%4294967296*q+s/4294967296*(q*4294967296)=s*q:=by rw[show s/4294967296*(q*4294967296)=s/4294967296*4294967296*q by grind,<-pJ,n]
  have B:s*q=4294967296*q+I a x.1 0*q-I b x.1 0*q-x.2.2*q:=by rw[<-ht];grind
  have C:(1-s/4294967296)*(q*4294967296)=4294967296*q-s/4294967296*(q*4294967296):=by grind
  omega
def aq0 a b(z:cu a)(p:cu b)(hl:Z b<=Z a)(D:val b<=val a)(la:Z a<=1099511627776):w O 145 [e ao a,e ao b] (e ao<|al<|af<|val a-val b):=by
 refine aK Tryz.func145 ?_;refine U J<|R<|rm ao (Z a) J J J J J J (oe .u32) J ?_ ?_ ?_
 .show _*4<=_;omega
 .show _*1<=_;omega
 refine re J<|U J<|h<|U J ?_;generalize hM:Z a=M;refine ay<|bq (α:=G×E V×V) (λx=>⟨[(0,e ao a),(1,e ao b),(5,.c<|.X 1002000),(6,cU x.2.2),(7,c x.1)],[(1002000,.vec 142 ao x.2.1)],4,[]⟩) (KU a b M) (λx=>M-x.1) (0,bx M 0,0) ?_ (wk (bK J) ⟨bR J,j⟩) ?_
 .refine⟨bg _,au,tT M,?_,iZ _,KT,D1⟩;intro L _;simp only[aO,nG];split<;>rfl
 .rintro⟨i,o,d⟩ f;have k:Z o=M:=f.len;have C:0<=d:=f.c0;have H:d<=1:=f.c1;have S:=dI z i;have gb:=dI p i;refine h<|U J<|F J (λg=>?_) (λg=>?_)
  .have g:i<M:=by simpa[hM]using g
   refine aE<|h<|ay<|R<|rc J J (D0 b i p)<|re J ?_;have K:ax .u64 (ax .u64 (ax .u64 (4294967296+ax .u64 (I a (af (i:V)) 0))-I b i 0)-d)=4294967296+I a i 0-I b i 0-d:=by rw[cC,bf (I a i 0) Y Y,bf (4294967296+I a i 0) Y Y,bf (4294967296+I a i 0-I b i 0) Y Y,bf _ Y Y]
   simp only[K];generalize ht:4294967296+I a i 0-I b i 0-d=s;have N:ax .u32 (s.tmod 4294967296)=s%4294967296:=by rw[k5 Y,oo _ Y Y]
   have P:ax .u64 (1-ax .u64 (s.tdiv 4294967296))=1-s/4294967296:=by rw[wP Y,bf (s/4294967296) Y Y,bf _ Y Y]
   have A:=f.next g z p;simp only[ht]at A;refine U J<|rt J<|bP<|rt J<|a4 (i+1,o.set i<|s%4294967296,1-s/4294967296) A zM<|wk ⟨sR J,sR J,sR J,sE J<|cj P,sE J ?_,j⟩ ⟨bE J ?_,j⟩
   .rfl
   .rw[N,cC]
  .have g:¬i<M:=by simpa[hM]using g
   have Q:i=M:=by have:=f.i;simp only at this;omega
   refine bs<|aS<|dv 1002000 J J J<|R<|rc J J (BJ _)<|re J<|cv J ?_;have l:=f.v;simp only at l;have t:cu o:=f.r;have u:=oT t;have T:=nF t;have m:val (r i a)=val a:=om a i Y;have n:val (r i b)=val b:=om b i Y;have B:=k4 M;rw[k]at u;have W:d=0:=by
    rw[m,n,Q]at l;rcases Int.lt_or_le d 1 with q|y
    .omega
    .have:d=1:=by omega
     subst this;omega
   rw[rf t];subst W;rw[m,n]at l;simp only[oU,D2]at l;rw[l]
structure Wl(a b:E V)(x:G×E V):Prop where
 i:x.1<=a.length
 len:x.2.length=a.length+b.length
 r:cu x.2
 z:∀d,x.1+b.length<=d->x.2.getD d 0=0
 v:val x.2=val (a.take x.1)*val b
structure D3(a b:E V)(i:G)(x:G×E V×V):Prop where
 k:x.1<=b.length
 len:x.2.1.length=a.length+b.length
 r:cu x.2.1
 z:∀d,i+b.length<=d->x.2.1.getD d 0=0
 c0:0<=x.2.2
 c1:x.2.2<4294967296
 v:val x.2.1+x.2.2*4294967296^(i+x.1)=val (a.take i)*val b+a.getD i 0*val (b.take x.1)*4294967296^i
def KV{x a:V}(f:0<=x)(b:x<=4294967295)(d:0<=a)(g:a<=4294967295):0<=x*a/\x*a<=18446744065119617025:=by refine⟨kL f d,?_⟩;have i:x*a<=4294967295*a:=ja b d;omega
def D3.next{a b}{i}{x}(d:D3 a b i x)(D:i<Z a)(l:x.1<Z b)(m:cu a)(n:cu b):D3 a b i (x.1+1,x.2.1.set (i+x.1)<|(I a i 0*I b x.1 0+I x.2.1 (i+x.1) 0+x.2.2)%4294967296,(I a i 0*I b x.1 0+I x.2.1 (i+x.1) 0+x.2.2)/4294967296):=by
 have k:=dI m i;have p:=dI n x.1;have H:=d.c0;have K:=d.c1;have N:=dI d.r<|i+x.1;have P:=KV k.1 Y p.1 Y;have f:i+x.1<Z x.2.1:=by rw[d.len];omega
 refine⟨l,by simp[d.len],BI d.r _ ⟨Y,Y⟩,?_,(by show 0<=_/_;omega),(by show _/_<(4294967296:V);omega),?_⟩
 .intro j t;simp only;rw[wQ _ _ _ _ f,y Y];exact d.z j t
 .simp only;rw[Wf _ _ _ f,lP,<-tC,gP];have u:=d.v;have g:(4294967296:V)^(i+x.1)=4294967296^i*4294967296^x.1:=Int.pow_add ..;generalize hq:(4294967296:V)^(i+x.1)=q at u g⊢;generalize ht:I a i 0*I b x.1 0+I x.2.1 (i+x.1) 0+x.2.2=s;have A:s%4294967296+s/4294967296*4294967296=s:=Y;have e:s%4294967296*q+s/4294967296*(q*4294967296)=s*q:=by rw[show s/4294967296*(q*4294967296)=s/4294967296*4294967296*q by grind,<-pJ,A]
  have Q:s*q=I a i 0*I b x.1 0*q+I x.2.1 (i+x.1) 0*q+x.2.2*q:=by rw[<-ht];grind
  have B:(s%4294967296-I x.2.1 (i+x.1) 0)*q=s%4294967296*q-I x.2.1 (i+x.1) 0*q:=by grind
  have C:I a i 0*(val (List.take x.1 b)+I b x.1 0*4294967296^x.1)*4294967296^i=I a i 0*val (List.take x.1 b)*4294967296^i+I a i 0*I b x.1 0*q:=by rw[g];grind
  rw[B,C];omega
def D3.done{a b}{i}{g}{l}(d:D3 a b i (Z b,g,l))(m:i<Z a):Wl a b (i+1,g.set (i+Z b) l):=by
 have f:Z g=Z a+Z b:=d.len;have s:I g (i+Z b) 0=0:=d.z _<|aL _;refine⟨m,by simp[f],BI d.r _ ⟨d.c0,d.c1⟩,?_,?_⟩
 .intro j t;simp only at t⊢;rw[wQ _ _ _ _ Y,y Y];exact d.z j Y
 .simp only;rw[KS _ _ _ Y s,lP];have k:=d.v;simp[iG]at k;rw[k];grind
def aq1 a b(D:cu a)(H:cu b)(la:Z a<=1099511627776)(lb:Z b<=1099511627776):w O 146 [e ao a,e ao b] (e ao<|al<|af<|val a*val b):=by
 refine aK Tryz.func146 ?_;refine U J<|R<|rm ao (Z a+Z b) J J J J J J (oe .u32) J ?_ ?_ ?_
 .show _*4<=_;omega
 .show _*1<=_;omega
 refine M J<|h<|U J<|ay<|bq (α:=G×E V) (λx=>⟨[(0,e ao a),(1,e ao b),(5,.c<|.X 1005000),(6,c x.1)],[(1005000,.vec 142 ao x.2)],3,[]⟩) (Wl a b) (λx=>Z a-x.1) (0,bx (Z a+Z b) 0) ?_ (wk (bK J) ⟨bR J,j⟩) ?_
 .refine⟨bg _,au,tT _,?_,D1⟩;intro L _;simp[aO,nG];split<;>rfl
 .rintro⟨i,o⟩ l;have g:Z o=Z a+Z b:=l.len;refine h<|U J<|F J (λm=>?_) (λm=>?_)
  .have m:i<Z a:=by simpa using m
   refine aE<|h<|ay<|U J<|h<|U J<|ay<|bq (α:=G×E V×V) (λx=>⟨[(0,e ao a),(1,e ao b),(5,.c<|.X 1005000),(6,c i),(7,cU x.2.2),(8,c x.1)],[(1005000,.vec 142 ao x.2.1)],6,[]⟩) (D3 a b i) (λx=>Z b-x.1) (0,o,0) ?_ (wk (bK J) ⟨bR J,j⟩) ?_
   .refine⟨bg _,g,l.r,l.z,iZ _,(by show(0:V)<_;decide),?_⟩;have:=l.v;simp only at this;simp[this,val]
   .rintro⟨k,o,d⟩ n;have g:Z o=Z a+Z b:=n.len;have t:0<=d:=n.c0;have u:d<4294967296:=n.c1;refine h<|U J<|F J (λp=>?_) (λp=>?_)
    .have p:k<Z b:=by simpa using p
     have N:=dI D i;have P:=dI H k;have Q:=dI n.r<|i+k;simp only at Q;have S:=KV N.1 Y P.1 Y;refine aE<|h<|ay<|U J ?_ (hp:=lQ);have f:af ((i:V)+(k:V))=i+k:=Y;have C:ax .u64 (ax .u64 (ax .u64 (ax .u64 (I a (af (i:V)) 0)*ax .u64 (I b (af (k:V)) 0))+ax .u64 (I o (af<|(i:V)+(k:V)) 0))+d)=I a i 0*I b k 0+I o (i+k) 0+d:=by rw[f,cC,cC,bf (I a i 0) Y Y,bf (I b k 0) Y Y,bf (I o (i+k) 0) Y Y,bf (I a i 0*I b k 0) Y Y,bf (I a i 0*I b k 0+I o (i+k) 0) Y Y,bf _ Y Y]
     have A:=n.next m p D H;simp only at A;generalize ht:I a i 0*I b k 0+I o (i+k) 0+d=s at A C;have B:ax .u32 (s.tmod 4294967296)=s%4294967296:=by rw[k5 Y,oo _ Y Y]
     have T:ax .u64 (s.tdiv 4294967296)=s/4294967296:=by rw[wP Y,bf _ Y Y]
     refine fq (st':=⟨[(0,e ao a),(1,e ao b),(5,.c<|.X 1005000),(6,c i),(8,c k),(9,cU s)],[(1005000,.vec 142 ao o)],8,[]⟩) (wk ⟨sR J,sR J,sR J,sR J,sR J,sE J ?_,j⟩ ⟨bR J,j⟩) ?_
     .exact cj C
     refine U J<|rt J<|bP<|rt J<|a4 (k+1,o.set (i+k)<|s%4294967296,s/4294967296) A (Y:Z b-(k+1)<Z b-k)<|wk ⟨sR J,sR J,sR J,sR J,sE J<|cj T,sE J ?_,j⟩ ⟨bE J ?_,j⟩
     .rfl
     .rw[B,f]
    .have p:¬k<Z b:=by simpa using p
     have W:k=Z b:=by have:=n.k;simp only at this;omega
     subst W;have q:=n.done m;have f:af ((i:V)+(Z b:V))=i+Z b:=Y;have B:ax .u32 d=d:=oo d t u;refine bs<|aS<|rt J<|bP<|rt J<|a4 (i+1,o.set (i+Z b) d) q ri<|wk ⟨sR J,sR J,sR J,sE J ?_,j⟩ ⟨bE J ?_,j⟩
     .rfl
     .rw[B,f]
  .have m:¬i<Z a:=by simpa using m
   have y:i=Z a:=by have:=l.i;simp only at this;omega
   subst y;refine bs<|aS<|dv 1005000 J J J<|R<|rc J J (BJ _)<|M J<|cv J ?_;have K:=l.v;simp[iG]at K;rw[rf l.r];simp[K]
def Sm(z:V):Prop:=Z (fo z)<=1099511627776
def sg(neg:Bool)(m:G):V:=if neg then-(m:V)else m
def BK z:sg (cD z) (aC z)=z:=by
 unfold sg cD;by_cases h:z<0
 .simp[h];omega
 .simp[h];omega
def rj{m}:0<Z (al m)↔m≠0:=by
 constructor
 .intro h e;subst e;simp[Hq]at h
 .intro h;rw[zL h];simp
def mkZ neg m:(AV.a [.B (neg&&decide (0<Z (al m))),.S ao<|al m])=aZ (sg neg m):=by
 have b:cD (sg neg m)=(neg&&decide (0<Z (al m))):=by
  unfold cD sg;cases neg with
  |false=>simp
  |true=>
   simp only[cz,Bool.true_and]
   rw[Bool.eq_iff_iff]
   simp only[nr]
   rw[rj];omega
 have d:aC (sg neg m)=m:=by unfold sg;cases neg<;>simp
 unfold aZ;simp only[av,fo,b,d]
def sQ neg m:w O 135 [cB neg,e ao<|al m] (aZ<|sg neg m):=by have:=aqX neg<|al m;rw[Wh,mkZ]at this;exact this
def km n(g: -9223372036854775808<=n)(i:n<=9223372036854775807):w O 84 [c n] (aZ n):=by
 refine aK Tryz.func84 ?_;refine U J<|h<|U J<|F J (λa=>?_)<|λa=>?_
 .have a:n<0:=by simpa using a
  have b:ax .u64 (ax .u64 (0-(n+1))+1)=(af (-n):G):=by rw[bf (0-(n+1)) Y Y,bf _ Y Y];omega
  refine R<|rc J J (f:=136) (r:=e ao<|al<|af<| -n) (by rw[b];exact Hr _ Y)<|rc J J (sQ ae _)<|M J<|bX<|cY<|fK J ?_;have d:sg ae (af<| -n)=n:=by unfold sg;simp;omega
  rw[d];rfl
 .have a:¬n<0:=by simpa using a
  have b:ax .u64 n=(af n:G):=by rw[bf _ Y Y];omega
  refine aE<|R<|rc J J (f:=136) (r:=e ao<|al<|af n) (by rw[show(AV.c (num .u64 n).1)=cU ((af n:G):V)from cj b];exact Hr _ Y)<|rc J J (sQ ah _)<|M J<|cv J ?_;have d:sg ah (af n)=n:=by unfold sg;simp;omega
  rw[d];rfl
def gH(a:V):V:=if a<0 then-1 else if a=0 then 0 else 1
def D5 a:w O 94 [aZ a] (c<|gH a):=by
 refine aK Tryz.func94 ?_;refine U J<|h<|U J<|F J (λb=>?_)<|λb=>?_
 .have b:a<0:=by simpa[cD]using b
  refine U J<|bX<|cY<|fK J ?_;rw[gH,q b];rfl
 .have b:¬a<0:=by simpa[cD]using b
  refine aE<|U J<|cv J ?_;have e:(if ae=ah then(0:V)else if(1:V)<Z (fo a)then 1 else Z (fo a))=gH a:=by
   rw[y S,gH,y b];by_cases d:a=0
   .subst d;rfl
   .have:0<Z (fo a):=rj.2 Y;rw[y d];split<;>omega
  exact jQ e
def Wm a:w O 97 [aZ a] (aZ<| -a):=by
 refine aK Tryz.func97 ?_;refine U J<|R<|rc J J (sQ (!cD a)<|aC a)<|M J<|cv J ?_;have b:sg (!cD a) (aC a)= -a:=by
  unfold sg cD;by_cases h:a<0
  .simp[h];omega
  .simp[h];omega
 rw[b];rfl
def KW m k:w O 144 [e ao (al m),e ao<|al k] (c<|eR m k):=by have:=aqY (al m) (al k) (fc m) (fc k) (yf m)<|yf k;rw[fv,fv]at this;exact this
def PF a b:w O 95 [aZ a,aZ b] (c<|eR a b):=by
 refine aK Tryz.func95 ?_;refine U J<|h<|R<|rg 7 J J (λk=>?_)<|λk=>?_
 .have g:a<0:=by simpa[cD]using k
  refine M J<|F J (λf=>?_)<|λf=>?_
  .have l:¬b<0:=by simpa[cD]using f
   refine U J<|bX<|cY<|fK J ?_;rw[eR,q Y];rfl
  .have l:b<0:=by simpa[cD]using f
   refine aE<|h<|R<|rg 15 J J (λi=>?_)<|λi=>?_
   .simp[cD,g]at i
   .refine M J<|F J (λd=>by simp at d)<|λ_=>(aE<|h<|U J<|F J (λd=>?_) (λd=>?_))
    .refine bQ J J (KW _ _) J<|bX<|cY<|fK J ?_;have e:eR (aC b) (aC a)=eR a b:=by unfold eR;split<;>split<;>(try split)<;>omega
     exact jQ e
    .simp[cD,g]at d
 .have g:¬a<0:=by simpa[cD]using k
  refine M J<|F J (λf=>by simp at f)<|λf=>(aE<|h<|R<|rg 15 J J (λi=>?_)<|λi=>?_)
  .refine M J (F J (λd=>?_)<|λd=>?_)
   .have l:b<0:=by simpa[cD]using d
    refine U J<|bX<|cY<|fK J ?_;rw[eR,y Y,q Y];rfl
   .have l:¬b<0:=by simpa[cD]using d
    refine aE<|h<|U J<|F J (λd=>?_)<|λd=>?_
    .simp[cD,g]at d
    .refine aE<|bQ J J (KW _ _) J<|cv J ?_;have e:eR (aC a) (aC b)=eR a b:=by unfold eR;split<;>split<;>(try split)<;>omega
     exact jQ e
  .simp[cD,g]at i
def aeS m k(a:Z (al m)<=1099511627776)(b:Z (al k)<=1099511627776):w O 143 [e ao (al m),e ao<|al k] (e ao<|al<|m+k):=by have:=aqZ (al m) (al k) (fc m) (fc k) a b;rw[fv,fv,(Y:af ((m:V)+(k:V))=m+k)]at this;exact this
def vn{m k}(a:m<=k):Z (al m)<=Z (al k):=DZ (kw<|wN (n:=k))
def Wn m k(a:k<=m)(b:Z (al m)<=1099511627776):w O 145 [e ao (al m),e ao<|al k] (e ao<|al<|m-k):=by have:=aq0 (al m) (al k) (fc m) (fc k) (vn a) (by rw[fv,fv];omega) b;rw[fv,fv,(Y:af ((m:V)-(k:V))=m-k)]at this;exact this
def Wo m k(a:Z (al m)<=1099511627776)(b:Z (al k)<=1099511627776):w O 146 [e ao (al m),e ao<|al k] (e ao<|al<|m*k):=by have:=aq1 (al m) (al k) (fc m) (fc k) a b;rw[fv,fv,show af ((m:V)*(k:V))=m*k by rw[<-gM];rfl]at this;exact this
def mr a b(k:Sm a)(l:Sm b):w O 91 [aZ a,aZ b] (aZ<|a*b):=by
 refine Gb Tryz.func91 J J J J J S<|U J<|R<|rc J J (Wo _ _ k l)<|rc J J (sQ _ _)<|M J<|bX<|iX cq J<|bu.of_eq ?_;have m:sg (cD a !=cD b) (aC a*aC b)=a*b:=by have d:=BK a;have f:=BK b;generalize aC a=x at d⊢;generalize aC b=y at f⊢;cases g:cD a<;>cases i:cD b<;>rw[g]at d<;>rw[i]at f<;>simp[sg,cz,b8,jx]at d f<;>rw[<-d,<-f]<;>simp[sg]<;>grind
 exact bm aZ m
def zN a b(k:Sm a)(l:Sm b):w O 90 [aZ a,aZ b] (aZ<|a+b):=by
 refine aK Tryz.func90 ?_;refine U J<|h<|U J<|F J (λd=>?_)<|λd=>?_
 .have d:cD a=cD b:=by simpa using d
  refine R<|rc J J (aeS _ _ k l)<|rc J J (sQ _ _)<|M J<|bX<|cY<|fK J ?_;have f:sg (cD a) (aC a+aC b)=a+b:=by unfold cD sg at*;by_cases g:a<0<;>by_cases h2:b<0<;>simp[g,h2]at d⊢<;>omega
  exact bm aZ f
 .have d:cD a≠cD b:=by simpa using d
  refine aE<|h<|bQ J J (KW _ _) J<|F J (λh2=>?_)<|λh2=>?_
  .have h2:aC a<aC b:=by
    have h2:eR (aC a) (aC b)<0:=sk;unfold eR at h2;split at h2
    .omega
    .split at h2<;>omega
   refine R<|rc J J (Wn _ _ Y l)<|rc J J (sQ _ _)<|M J<|bX<|cY<|fK J ?_;have f:sg (cD b) (aC b-aC a)=a+b:=by unfold cD sg at*;by_cases g:a<0<;>by_cases i:b<0<;>simp[g,i]at d⊢<;>omega
   exact bm aZ f
  .have h2:aC b<=aC a:=by
    have h2:¬eR (aC a) (aC b)<0:=sk;unfold eR at h2;split at h2
    .omega
    .omega
   refine aE<|R<|rc J J (Wn _ _ Y k)<|rc J J (sQ _ _)<|M J<|cv J ?_;have f:sg (cD a) (aC a-aC b)=a+b:=by unfold cD sg at*;by_cases g:a<0<;>by_cases i:b<0<;>simp[g,i]at d⊢<;>omega
   exact bm aZ f
def aq2(m k:G)(b:m<18446744073709551616)(d:k<18446744073709551616):w O 184 [cU m,cU k] (cU<|pK m k):=by
 refine aK Tryz.func184 ?_;refine U J<|bI<|ay<|bq (α:=G×G) (λx=>⟨[(0,cU x.1),(1,cU x.2)],[],1,[]⟩) (λx=>pK x.1 x.2=pK m k/\x.1<18446744073709551616/\x.2<18446744073709551616) (λx=>x.2) (m,k) ⟨J,b,d⟩ aN ?_;rintro⟨x,y⟩ ⟨hg,hx,a⟩;simp only at hg hx a;refine bI<|U J<|F J (λh=>?_)<|λh=>?_
 .have h:0<y:=by have:(y:V)>0:=fg;omega
  refine aE<|ay<|U J<|U J<|rt J<|fF<|a4 (y,x%y) ⟨?_,a,gK (gU _ h)<|ye a⟩ (gU _ h)<|wk ⟨sR J,sE J ?_,j⟩ j
  .rw[<-hg,BL x y,Nat.gcd_rec y x,BL]
  .have e:(x:V).tmod (y:V)=((x%y:G):V):=by rw[k5 Y];omega
   exact cj e
 .have h:y=0:=by have:¬(y:V)>0:=fg;omega
  subst h;refine bs<|aS<|U J<|cv J ?_;rw[<-hg,PG]
def aeT m:I (al m) 0 0=((m%4294967296:G):V):=by
 by_cases h:m=0
 .subst h;rfl
 .rw[zL h];rfl
def aq3 m(a:m<18446744073709551616):I (al m) 1 0=((m/4294967296:G):V):=by
 by_cases h:m=0
 .subst h;rfl
 .rw[zL h,Wg,aeT];congr 1;omega
def Wp m(a:m<18446744073709551616):w O 185 [e ao (al m)] (cU m):=by
 refine aK Tryz.func185 ?_;refine U J<|R<|rc J J (D0 _ 1<|fc m)<|rc J J (D0 _ 0<|fc m)<|M J<|cv J ?_;have b:ax .u64 (ax .u64 (I (al m) 1 0*4294967296)+I (al m) 0 0)=m:=by rw[aeT,aq3 m a,bf (((m/4294967296:G):V)*4294967296) Y Y,bf _ Y Y];omega
 exact cj b
def KX{m}(a:m<18446744073709551616):Z (al m)<=2:=DZ (Y:(m:V)<4294967296^2)
structure Hu(a:E V)(d:V)(x:G×E V×V):Prop where
 k:x.1<=a.length
 len:x.2.1.length=a.length
 r:cu x.2.1
 r0:0<=x.2.2
 r1:x.2.2<d
 v:val (a.drop x.1)=val (x.2.1.drop x.1)*d+x.2.2
def drop_cons(l:E V) a(b:a<Z l):az a l=I l a 0::az (a+1) l:=by rw[tU b];simp[aO,df b]
def PH{b a d:V}(g:0<=b)(i:b<d)(k:0<=a)(l:a<4294967296)(m:d<4294967296):0<=b*4294967296+a/\b*4294967296+a<18446744073709551616/\0<=(b*4294967296+a)/d/\(b*4294967296+a)/d<4294967296/\0<=(b*4294967296+a)%d/\(b*4294967296+a)%d<d:=by have f:0<d:=Y;refine⟨Y,Y,BM Y Y,?_,jG _ Y,jH _ f⟩;apply Hv f;have:(b+1)*4294967296<=d*4294967296:=ja Y S;omega
def Hu.next{a}{d}{b}{l}{f}(i:Hu a d (b+1,l,f))(n:cu a)(p:d<4294967296):Hu a d (b,l.set b<|(f*4294967296+I a b 0)/d,(f*4294967296+I a b 0)%d):=by have g:=dI n b;have s:0<=f:=i.r0;have t:f<d:=i.r1;have m:=PH s t g.1 g.2 p;have A:b+1<=Z a:=i.k;have u:Z l=Z a:=i.len;refine⟨by show b<=_;omega,by simp[u],BI i.r _ ⟨m.2.2.1,m.2.2.2.1⟩,m.2.2.2.2.1,m.2.2.2.2.2,?_⟩;have z:val (az (b+1) a)=val (az (b+1) l)*d+f:=i.v;simp only;rw[drop_cons a b Y,drop_cons (l.set b _) b cd,wQ _ _ _ _ Y,q J,List.drop_set_of_lt Y];simp only[val];rw[z];have:=pM (f*4294967296+I a b 0) d;generalize (f*4294967296+I a b 0)/d=x at*;generalize (f*4294967296+I a b 0)%d=y at*;grind
def aeU a d(n:cu a)(i:0<d)(p:d<4294967296)(Q:Z a<=1099511627776):w O 217 [e ao a,cU d] (.t [(ah,[.S ao (al<|af<|val a/d)]),(ah,[.I .u64 (val a%d)])]):=by
 refine aK Tryz.func217 ?_;refine U J<|R<|rm ao (Z a) J J J J J J (oe .u32) J ?_ ?_ ?_
 .show _*4<=_;omega
 .show _*1<=_;omega
 refine M J<|U J<|h<|U J<|ay<|bq (α:=G×E V×V) (λx=>⟨[(0,e ao a),(1,cU d),(6,.c<|.X 1002000),(7,cU x.2.2),(8,c<|(x.1:V)-1)],[(1002000,.vec 142 ao x.2.1)],4,[]⟩) (Hu a d) (λx=>x.1) (Z a,bx (Z a) 0,0) ⟨aL _,au,tT _,iZ _,i,zO⟩ (wk (bK J) ⟨bR J,fp⟩) ?_
 .rintro⟨k,q,r⟩ b;have u:Z q=Z a:=b.len;have l:0<=r:=b.r0;have m:r<d:=b.r1;have T:k<=Z a:=b.k;refine h<|U J<|F J (λf=>?_) (λf=>?_)
  .have f:(k:V)-1>=0:=by simpa using f
   obtain⟨j,rfl⟩:∃j,k=j+1:=⟨k-1,Y⟩;have z:af (((j+1:G):V)-1)=j:=Y;have g:=dI n j;have D:=PH l m g.1 g.2 p;have A:=b.next n p;refine aE<|h<|ay<|U J ?_;have B:ax .u64 (ax .u64 (r*4294967296)+ax .u64 (I a (af<|((j+1:G):V)-1) 0))=r*4294967296+I a j 0:=by rw[z,bf (r*4294967296) Y Y,bf (I a j 0) Y Y,bf _ Y Y]
   generalize ht:r*4294967296+I a j 0=s at A D B;have H:ax .u32 (ax .u64<|s.tdiv d)=s/d:=by rw[wP Y,bf _ Y Y,oo _ Y Y]
   have K:s.tmod d=s%d:=k5 Y;refine fq (st':=⟨[(0,e ao a),(1,cU d),(6,.c<|.X 1002000),(8,c<|((j+1:G):V)-1),(9,cU s)],[(1002000,.vec 142 ao q)],6,[]⟩) (wk ⟨sR J,sR J,sR J,sR J,sE J ?_,fp⟩ ⟨bR J,fp⟩) ?_
   .exact cj B
   refine U J<|rt J<|bP<|rt J<|a4 (j,q.set j<|s/d,s%d) A vk<|wk ⟨sR J,sR J,sR J,sE J<|cj K,sE J ?_,fp⟩ ⟨bE J ?_,fp⟩
   .refine jQ ?_;show((j+1:G):V)-1-1=(j:V)-1;omega
   .rw[H,z]
  .have f:¬((k:V)-1>=0):=by simpa using f
   have:k=0:=Y;subst this;refine bs<|aS<|dv 1002000 J J J<|R<|rc J J (BJ _)<|M J<|cv J ?_;have C:val a=val q*d+r:=b.v;have N:cu q:=b.r;have eq:val a/d=val q:=by rw[C,yh,D6 _ _ Y,Hw l m];omega
   have P:val a%d=r:=by rw[C,yh,Wq,iN l m]
   rw[rf N,eq,P];rfl
def bu.t2{x f i}(b:bu (.c x) (.c f)):bu (.t [(ah,[x]),(ah,[i])]) (.t [(ah,[f]),(ah,[i])]):=by
 refine⟨?_,?_⟩
 .rintro g v ⟨vs,rfl,v1,r,rfl,k,d⟩;exact⟨_,J,v1,r,J,b.1 g v1 k,d⟩
 .intro l a;have d:=b.2 l;simp[AV.ak,et,b6]at a d⊢;exact a.elim (λb=> .inl<|d b) .inr
def aq4 m k(a:k≠0)(d:m<k\/k<4294967296)(g:Z (al m)<=1099511627776):w O 186 [e ao (al m),e ao<|al k] (.t [(ah,[.S ao (al<|m/k)]),(ah,[.S ao (al<|m%k)])]):=by
 refine aK Tryz.func186 ?_;refine U J<|h<|bQ J J (KW m k) J<|F J (λh2=>?_)<|λh2=>?_
 .have h2:m<k:=by
   have h2:eR m k<0:=sk;unfold eR at h2;split at h2
   .omega
   .split at h2<;>omega
  refine U J<|bX<|cY<|iX cq J ?_;rw[D7 h2,rk h2];exact bu.t2<|bu.nil ao
 .have h2:¬m<k:=by have h2:¬eR m k<0:=sk;unfold eR at h2;split at h2<;>omega
  have i:k<4294967296:=d.resolve_left h2;have l:al k=[(k:V)]:=by rw[zL a,(Y:k%4294967296=k),(Y:k/4294967296=0)];rfl
  refine aE<|h<|U J ?_;rw[l];refine F J (λb=>(R ?_)) (λb=>by simp at b);have n:ax .u64 (k:V)=k:=bf _ Y Y;refine rc J J (f:=217) (r:= .t [(ah,[.S ao (al<|m/k)]),(ah,[.I .u64 ((m%k:G):V)])]) ?_ ?_
  .have:=aeU (al m) k (fc m) Y Y g;rw[fv,show af ((m:V)/(k:V))=m/k from J,show(m:V)%(k:V)=((m%k:G):V)from J]at this;rw[show(AV.c (num .u64<|[(k:V)].getD (af (0:V)) 0).1)=cU (k:V)from cj n];exact this
  refine M J<|bQ J J (Hr _ ?_) J<|bX<|cY<|atR J;have:=gU m<|rq a;omega
def Wr a B(hB:0<B):(aC a:V)=((aC a%B:G):V)+(B:V)*((aC a/B:G):V)/\aC a%B<B:=by refine⟨?_,gU _ hB⟩;have:=Nat.mod_add_div (aC a) B;rw[<-gM,<-zQ,this]
def aeV{a}{B:G}(hB:0<B)(b:¬a<0):a/(B:V)=((aC a/B:G):V)/\a%(B:V)=((aC a%B:G):V):=by let ⟨d,h2⟩:=Wr a B hB;exact(Ws Y).2 ⟨Y,Y,Y⟩
def aeW{a}{B}(hB:0<B)(f:a<0)(b:aC a%B=0):a/(B:V)= -((aC a/B:G):V)/\a%(B:V)=0:=by let ⟨d,h2⟩:=Wr a B hB;refine(Ws Y).2 ⟨?_,Y,Y⟩;rw[b]at d;rw[Int.mul_neg];omega
def aeX{a}{B}(hB:0<B)(b:a<0)(d:aC a%B≠0):a/(B:V)= -((aC a/B+1:G):V)/\a%(B:V)=((B-aC a%B:G):V):=by let ⟨f,h2⟩:=Wr a B hB;refine(Ws Y).2 ⟨?_,Y,Y⟩;rw[Int.mul_neg,zQ,qt];omega
def Hx a b(i k:G)(d:a/(aC b:V)=sg (cD a) i)(f:a%(aC b:V)=k):a/b=sg (cD a !=cD b) i/\a%b=sg ah k:=by
 by_cases l:b<0
 .have e:b= -(aC b:V):=by omega
  have g:cD b=ae:=by simp[cD,l]
  rw[e,D8,Int.emod_neg,<-e,d,f,g];refine⟨?_,J⟩;unfold sg;cases cD a<;>simp
 .have e:b=(aC b:V):=by omega
  have g:cD b=ah:=by simp[cD,l]
  rw[<-e]at d f;rw[d,f,g];refine⟨?_,J⟩;cases cD a<;>rfl
def Sm.of{z}(a:aC z<18446744073709551616):Sm z:=br (KX a) S
def nH n(a: -9223372036854775808<=n)(b:n<=9223372036854775807):w O 30 [c n] (aQ (n:Rat)):=by refine aK Tryz.func30 ?_;refine U J<|R<|rc J J (km n a b)<|rc J J (km 1 S S)<|M J<|cv J ?_;rfl
def Wt a:w O 40 [aQ a] (c<|gH a.num):=by refine aK Tryz.func40 ?_;refine U J<|bQ J J (D5 a.num) J<|cN J
def PI n d(f:d≠0):(Rat.divInt n d).num=n/(if d<0 then-((jl n d:G):V)else((jl n d:G):V))/\((Rat.divInt n d).den:V)=d/(if d<0 then-((jl n d:G):V)else((jl n d:G):V)):=by
 have b:((jl n d:G):V)∣n:=Int.gcd_dvd_left ..;have a:((jl n d:G):V)∣d:=Wu ..;have g:jl n d≠0:=by intro i;have:=(Wv.1 i).2;exact f this
 rw[Rat.num_divInt,Rat.den_divInt,y f,Int.gcd_comm d n];by_cases h:d<0
 .rw[q h,Int.sign_eq_neg_one_of_neg h,D8,D8];refine⟨?_,?_⟩
  .rw[Int.neg_mul,mu,aq5 b]
  .rw[zS,(Y:((aC d:G):V)= -d),aq5 a]
 .rw[y h,Int.sign_eq_one_of_pos Y,mu];refine⟨J,?_⟩;rw[zS,(Y:((aC d:G):V)=d)]
def KY(a:E V)(i:G):w O 256 [e .z a,c i] (aZ<|I a i 0):=by
 refine aK Tryz.func256 ?_;refine U J<|h<|U J<|F J (λb=>?_)<|λb=>?_
 .have b:i<Z a:=by simpa using b
  refine U J<|bX<|cY<|fK J ?_;rfl
 .have b:¬i<Z a:=by simpa using b
  refine aE<|bQ J J (km 0 S S) J<|cv J ?_;have d:I a i 0=0:=by simp[aO,iw<|zK b]
  rw[d];rfl
def aeY{a}:gH a=0↔a=0:=by
 unfold gH;split
 .omega
 .split<;>omega
def PJ(a:E V):w O 255 [e .z a] (e .z<|aU a):=by
 refine aK Tryz.func255<|xN 0 J λg=>?_;have g:Z a*2<=140737488355328:=g;refine U J<|bI<|ay<|bq (α:=G) (λk=>⟨[(0,e .z<|r k a)],[],1,[]⟩) (λk=>k<=Z a/\ij a k=ij a (Z a)) (λk=>k) (Z a) ⟨aL _,J⟩ (wk ⟨⟨_,J,bu.of_eq<|by rw[iG]⟩,fp⟩ fp) ?_;rintro k ⟨l,b⟩;have d:(r k a).length=k:=cd;refine bI<|R<|rg 6 J J (λh=>?_)<|λh=>?_
 .have h:0<k:=by have h:(((r k a).length:G):V)>0:=fg;rw[d]at h;omega
  obtain⟨j,rfl⟩:∃j,k=j+1:=⟨k-1,Y⟩;have f:af (((r (j+1) a).length:V)-1)=j:=by rw[d];omega
  have ev:(r (j+1) a).getD j 0=I a j 0:=by rw[aO,Jn Y,<-aO]
  refine jF J J J J J (D5<|(r (j+1) a).getD (af<|((r (j+1) a).length:V)-1) 0) (M J<|F J (λh2=>?_)<|λh2=>?_) (hp:=lQ)
  .have h2:I a j 0=0:=by have h2:gH ((r (j+1) a).getD (af<|((r (j+1) a).length:V)-1) 0)=0:=sk;rw[f,ev]at h2;exact aeY.1 h2
   refine aE<|ay<|rt J (fF<|a4 j ⟨Y,?_⟩ vk<|wk ⟨sE J ?_,fp⟩ fp) (hp:=lQ)
   .rw[<-b,ij,q h2]
   .rw[f];simp only[sr,List.take_take];rw[uY Y]
  .have h2:I a j 0≠0:=by have h2:¬gH ((r (j+1) a).getD (af<|((r (j+1) a).length:V)-1) 0)=0:=sk;rw[f,ev]at h2;exact λi=>h2 (aeY.2 i)
   refine bs<|aS<|U J<|cv J ?_;unfold aU;rw[<-b,ij,y h2]
 .have h:k=0:=by have h:¬(((r k a).length:G):V)>0:=fg;rw[d]at h;omega
  subst h;refine M J<|F J (λh2=>by simp at h2)<|λ_=>(bs<|aS<|U J<|cv J ?_);unfold aU;rw[<-b];rfl
def lC(l:E Rat):G->G
 |0=>0
 |n+1=>if(I l n 0).num=0 then lC l n else n+1
def gI(l:E Rat):E Rat:=r (lC l<|Z l) l
def lR(A B:G->V)(n:G):G->V
 |0=>0
 |i+1=>lR A B n i+A i*B (n-i)
def conv(A B:G->V)(n:G):V:=lR A B n<|n+1
def Ww(A B:G->V)(n:G):∀k,(∀i,i<k->A i*B (n-i)=0)->lR A B n k=0
 |0,_=>rfl
 |k+1,a=>by simp only[lR,Ww A B n k<|λi b=>a i Y,a k Y];rfl
def PK(A B:G->V)(n d:G):∀k,d<k->(∀i,i<k->i≠d->A i*B (n-i)=0)->lR A B n k=A d*B (n-d)
 |0,b,_=>by omega
 |k+1,b,h2=>by
  simp[lR];by_cases a:k=d
  .subst a;rw[Ww A B n k (λi f=>h2 i Y Y)];omega
  .rw[PK A B n d k Y (λi f=>h2 i Y),h2 k Y a];omega
def aq6{A B:G->V}{a b}(d:∀i,a<i->A i=0)(hB:∀i,b<i->B i=0):conv A B (a+b)=A a*B b:=by
 unfold conv
 rw[PK A B (a+b) a _ Y]
 .congr 2;omega
 .intro i f g;by_cases h:i<a
  .rw[hB (a+b-i) Y];simp
  .rw[d i Y];simp
def m7(a b:E V):E V:=(List.range<|Z a+Z b-1).map<|conv (λi=>I a i 0)<|λi=>I b i 0
def PL(m:G)(a:m<18446744073709551616):w O 154 [cU m] (e ao<|al m):=by
 refine aK Tryz.func154 ?_;refine U J<|R ?_;have b:ax .u32 (m:V)=((m%4294967296:G):V):=PM;have d:ax .u32 ((m:V).fdiv<|2^(min (af (32:V))<|dx .u64))=((m/4294967296:G):V):=by
  have:(m:V).fdiv (2^(min (af (32:V))<|dx .u64))=((m/4294967296:G):V):=by rw[D9 _ S];rfl
  rw[this,oo _ Y Y]
 refine rl ao [_,_] J J<|rc J J (yg _)<|M J<|cv J ?_;rw[b,d,aeP m a]
def ru neg m:w O 153 [cB neg,e ao<|al m] (aZ<|sg neg m):=by
 refine aK Tryz.func153 ?_;have f:=yg<|al m;rw[Wh]at f;refine U J<|bQ J J f J<|bI<|U J<|F J (λh=>?_)<|λh=>?_
 .have h:Z (al m)=0:=by have h:(Z (al m):V)=0:=fg;omega
  have i:m=0:=Wx λa=>by have:=rj.2 a;omega
  subst i;refine U J<|bX<|cY<|iX cq J ?_;have b:sg neg 0=0:=by cases neg<;>rfl
  rw[b];refine⟨?_,λl aY=>yX⟩;rintro g v ⟨vs,rfl,v1,r,rfl,k,v2,n,rfl,d,rfl⟩;have d:v2= .slice none 0 0:=d;exact⟨_,J,v1,_,J,k,v2,_,J,by rw[d];exact aeh g.H,J⟩
 .have h:Z (al m)≠0:=by have h:¬(Z (al m):V)=0:=fg;omega
  refine aE<|U J<|cv J ?_;rw[<-mkZ];have b:(neg&&decide (0<Z (al m)))=neg:=by have:0<Z (al m):=Y;simp[this]
  rw[b];rfl
def PN(a:E V)(b:Z a<=1099511627776):w O 155 [e ao a] (e ao a):=by
 refine aK Tryz.func155 ?_;refine U J<|R<|ran J J J J J J J J ?_ ?_<|M J<|dv 1001000 J J J<|cN J
 .show(_+_/4+192)*4<=_;omega
 .show _*1<=_;omega
def Wy n(g: -9223372036854775808<=n)(i:n<=9223372036854775807):w O 124 [c n] (aZ n):=by
 refine aK Tryz.func124 ?_;refine U J<|U J<|h<|U J<|F J (λa=>?_)<|λa=>?_
 .have a:n<0:=by simpa using a
  have b:ax .u64 (0-ax .u64 n)=(af (-n):G):=by simp[ax,dx,KR];omega
  refine rt J<|aS<|R<|rc J J (f:=154) (r:=e ao<|al<|af<| -n) (by rw[show(AV.c (num .u64<|0-ax .u64 n).1)=cU ((af (-n):G):V)from cj b];exact PL _ Y)<|rc J J (ru _ _)<|M J<|cv J ?_;have d:sg (decide<|n<0) (af<| -n)=n:=by unfold sg;simp[a];omega
  exact bm aZ d
 .have a:¬n<0:=by simpa using a
  have b:ax .u64 n=(af n:G):=by rw[bf _ Y Y];omega
  refine aE<|R<|rc J J (f:=154) (r:=e ao<|al<|af n) (by rw[show(AV.c (num .u64 n).1)=cU ((af n:G):V)from cj b];exact PL _ Y)<|rc J J (ru _ _)<|M J<|cv J ?_;have d:sg (decide<|n<0) (af n)=n:=by unfold sg;simp[a];omega
  exact bm aZ d
def aeZ a:w O 152 [aZ a] (c<|gH a):=by
 refine aK Tryz.func152 ?_;refine U J<|bI<|U J<|F J (λh=>?_)<|λh=>?_
 .have h:a=0:=by
   have h:(Z (fo a):V)=0:=fg;have:aC a=0:=Wx λd=>by have:=rj.2 d;unfold fo at h;omega
   omega
  refine U J<|bX<|cY<|fK J ?_;rw[h];rfl
 .have h:a≠0:=by have h:¬(Z (fo a):V)=0:=fg;intro f;subst f;exact h J
  refine aE<|bI<|U J<|F J (λb=>?_)<|λb=>?_
  .have b:a<0:=by simpa[cD]using b
   refine U J<|bX<|cY<|fK J ?_;rw[gH,q b];rfl
  .have b:¬a<0:=by simpa[cD]using b
   refine aE<|U J<|cv J ?_;rw[gH,y b,y h];rfl
def Wz a(b:Sm a):w O 125 [aZ a] (aZ<| -a):=by
 refine aK Tryz.func125 ?_;refine U J<|R<|rc J J (PN _ b)<|rc J J (ru (!cD a)<|aC a)<|M J<|cv J ?_;have d:sg (!cD a) (aC a)= -a:=by
  unfold sg cD;by_cases h:a<0
  .simp[h];omega
  .simp[h];omega
 exact bm aZ d
def aq7 a b(Q:cu a)(T:cu b)(W:Z a<=1099511627776)(lb:Z b<=1099511627776):w O 160 [e ao a,e ao b] (e ao<|al<|af<|val a+val b):=by
 refine aK Tryz.func160 ?_;refine U J<|bI<|U J ?_;refine F J (λh=>?_)<|λh=>?_
 .have n:Z a<=Z b:=by have h:Z a<Z b:=fg;omega
  rw[yh (val a)];refine rt J<|aS ?_;revert Q T W lb n;generalize b=X;generalize a=d;intro u A q y n;refine fq (st':=⟨[(0,e ao X),(1,e ao d)],[],30,[]⟩) aN<|R<|rm ao (X.length+1) J J J J J J (oe .u32) J ?_ ?_ ?_
  .show _*4<=_;omega
  .show _*1<=_;omega
  refine M J<|U J<|bI<|U J<|ay<|bq (α:=G×E V×V) (λx=>⟨[(0,e ao X),(1,e ao d),(5,.c<|.X 30003000),(6,cU x.2.2),(21,c X.length),(22,c x.1)],[(30003000,.vec 142 ao x.2.1)],33,[]⟩) (λx=>Hs X d (X.length+1) x/\x.1<=X.length) (λx=>X.length-x.1) (0,bx (X.length+1) 0,0) ?_ (wk (bK J) ⟨bR J,j⟩) ?_
  .refine⟨⟨bg _,au,tT _,?_,iZ _,KT,D1⟩,bg _⟩;intro L _;simp[aO,nG];split<;>rfl
  .rintro⟨i,o,f⟩ ⟨g,l⟩;have l:i<=X.length:=l;have B:Z o=X.length+1:=g.len;have k:0<=f:=g.c0;have H:f<=1:=g.c1;have ga:=dI A i;have gb:=dI u i;refine U J<|bI<|F J (λh=>?_) (λh=>?_)
   .have h:i<X.length:=by simpa using h
    have m:=g.next (Y:i<X.length+1) A u;simp only at m;generalize ht:X.getD i 0+I d i 0+f=s at m;have C:ax .u32 s=s%4294967296:=by simp[ax,dx,KR]
    have D:s.fdiv (2^(min (af (32:V))<|dx .u64))=s/4294967296:=by rw[D9 _ S];rfl
    refine aE<|bI<|ay<|U J<|U J<|bI<|U J<|F J (λh2=>?_)<|λh2=>?_
    .have h2:i<Z d:=by simpa using h2
     refine rt J<|aS ?_;have p:ax .u64 (ax .u64 (ax .u64 (X.getD (af (i:V)) 0)+f)+ax .u64 (I d (af (i:V)) 0))=s:=by rw[cC,bf (X.getD i 0) Y Y,bf (I d i 0) Y Y,bf (X.getD i 0+f) Y Y,bf _ Y Y];omega
     refine fq (st':=⟨[(0,e ao X),(1,e ao d),(5,.c<|.X 30003000),(7,c i),(8,cU s),(21,c X.length),(22,c i)],[(30003000,.vec 142 ao o)],40,[]⟩) (wk ⟨sR J,sR J,sR J,sR J,⟨_,J,bu.of_eq<|cj p⟩,sR J,sR J,j⟩ ⟨bR J,j⟩)<|U J<|rt J<|bP<|rt J<|a4 (i+1,o.set i<|s%4294967296,s/4294967296) ⟨m,PO⟩ PR<|wk ⟨sR J,sR J,sR J,sE J<|cj D,sR J,sE J J,j⟩ ⟨bE J ?_,j⟩
     .rw[C,cC]
    .have h2:¬i<Z d:=by simpa using h2
     have K:I d i 0=0:=WA;refine aE ?_;have p:ax .u64 (ax .u64 (X.getD (af (i:V)) 0)+f)=s:=by rw[cC,bf (X.getD i 0) Y Y,bf _ Y Y];omega
     refine fq (st':=⟨[(0,e ao X),(1,e ao d),(5,.c<|.X 30003000),(7,c i),(8,cU s),(21,c X.length),(22,c i)],[(30003000,.vec 142 ao o)],40,[]⟩) (wk ⟨sR J,sR J,sR J,sR J,⟨_,J,bu.of_eq<|cj p⟩,sR J,sR J,j⟩ ⟨bR J,j⟩)<|U J<|rt J<|bP<|rt J<|a4 (i+1,o.set i<|s%4294967296,s/4294967296) ⟨m,PO⟩ PR<|wk ⟨sR J,sR J,sR J,sE J<|cj D,sR J,sE J J,j⟩ ⟨bE J ?_,j⟩
     .rw[C,cC]
   .have h:¬i<X.length:=by simpa using h
    have l:i=X.length:=Y;subst l;have N:ax .u32 f=f:=oo f k Y;refine bs<|aS<|U J<|fq (st':=⟨[(5,.c<|.X 30003000)],[(30003000,.vec 142 ao<|o.set X.length f)],40,[]⟩) (wk ⟨sR J,j⟩ ⟨bE J ?_,j⟩) ?_
    .rw[N,cC]
    refine dv 30003000 J J J<|bQ J J (yg _) J<|cv J ?_;have P:cu (o.set X.length f):=BI g.r _ ⟨k,Y⟩;have t:=g.v;simp[iG]at t;rw[om d X.length n]at t;rw[rf P,KS o X.length f Y<|g.z X.length<|aL _,t]
 .have n:Z b<=Z a:=by have h:¬Z a<Z b:=fg;omega
  refine aE ?_;revert Q T W lb n;generalize a=X;generalize b=d;intro A u y q n;refine fq (st':=⟨[(0,e ao X),(1,e ao d)],[],30,[]⟩) aN<|R<|rm ao (X.length+1) J J J J J J (oe .u32) J ?_ ?_ ?_
  .show _*4<=_;omega
  .show _*1<=_;omega
  refine M J<|U J<|bI<|U J<|ay<|bq (α:=G×E V×V) (λx=>⟨[(0,e ao X),(1,e ao d),(5,.c<|.X 30003000),(6,cU x.2.2),(21,c X.length),(22,c x.1)],[(30003000,.vec 142 ao x.2.1)],33,[]⟩) (λx=>Hs X d (X.length+1) x/\x.1<=X.length) (λx=>X.length-x.1) (0,bx (X.length+1) 0,0) ?_ (wk (bK J) ⟨bR J,j⟩) ?_
  .refine⟨⟨bg _,au,tT _,?_,iZ _,KT,D1⟩,bg _⟩;intro L _;simp[aO,nG];split<;>rfl
  .rintro⟨i,o,f⟩ ⟨g,l⟩;have l:i<=X.length:=l;have B:Z o=X.length+1:=g.len;have k:0<=f:=g.c0;have H:f<=1:=g.c1;have ga:=dI A i;have gb:=dI u i;refine U J<|bI<|F J (λh=>?_) (λh=>?_)
   .have h:i<X.length:=by simpa using h
    have m:=g.next (Y:i<X.length+1) A u;simp only at m;generalize ht:X.getD i 0+I d i 0+f=s at m;have C:ax .u32 s=s%4294967296:=by simp[ax,dx,KR]
    have D:s.fdiv (2^(min (af (32:V))<|dx .u64))=s/4294967296:=by rw[D9 _ S];rfl
    refine aE<|bI<|ay<|U J<|U J<|bI<|U J<|F J (λh2=>?_)<|λh2=>?_
    .have h2:i<Z d:=by simpa using h2
     refine rt J<|aS ?_;have p:ax .u64 (ax .u64 (ax .u64 (X.getD (af (i:V)) 0)+f)+ax .u64 (I d (af (i:V)) 0))=s:=by rw[cC,bf (X.getD i 0) Y Y,bf (I d i 0) Y Y,bf (X.getD i 0+f) Y Y,bf _ Y Y];omega
     refine fq (st':=⟨[(0,e ao X),(1,e ao d),(5,.c<|.X 30003000),(7,c i),(8,cU s),(21,c X.length),(22,c i)],[(30003000,.vec 142 ao o)],40,[]⟩) (wk ⟨sR J,sR J,sR J,sR J,⟨_,J,bu.of_eq<|cj p⟩,sR J,sR J,j⟩ ⟨bR J,j⟩)<|U J<|rt J<|bP<|rt J<|a4 (i+1,o.set i<|s%4294967296,s/4294967296) ⟨m,PO⟩ PR<|wk ⟨sR J,sR J,sR J,sE J<|cj D,sR J,sE J J,j⟩ ⟨bE J ?_,j⟩
     .rw[C,cC]
    .have h2:¬i<Z d:=by simpa using h2
     have K:I d i 0=0:=WA;refine aE ?_;have p:ax .u64 (ax .u64 (X.getD (af (i:V)) 0)+f)=s:=by rw[cC,bf (X.getD i 0) Y Y,bf _ Y Y];omega
     refine fq (st':=⟨[(0,e ao X),(1,e ao d),(5,.c<|.X 30003000),(7,c i),(8,cU s),(21,c X.length),(22,c i)],[(30003000,.vec 142 ao o)],40,[]⟩) (wk ⟨sR J,sR J,sR J,sR J,⟨_,J,bu.of_eq<|cj p⟩,sR J,sR J,j⟩ ⟨bR J,j⟩)<|U J<|rt J<|bP<|rt J<|a4 (i+1,o.set i<|s%4294967296,s/4294967296) ⟨m,PO⟩ PR<|wk ⟨sR J,sR J,sR J,sE J<|cj D,sR J,sE J J,j⟩ ⟨bE J ?_,j⟩
     .rw[C,cC]
   .have h:¬i<X.length:=by simpa using h
    have l:i=X.length:=Y;subst l;have N:ax .u32 f=f:=oo f k Y;refine bs<|aS<|U J<|fq (st':=⟨[(5,.c<|.X 30003000)],[(30003000,.vec 142 ao<|o.set X.length f)],40,[]⟩) (wk ⟨sR J,j⟩ ⟨bE J ?_,j⟩) ?_
    .rw[N,cC]
    refine dv 30003000 J J J<|bQ J J (yg _) J<|cv J ?_;have P:cu (o.set X.length f):=BI g.r _ ⟨k,Y⟩;have t:=g.v;simp[iG]at t;rw[om d X.length n]at t;rw[rf P,KS o X.length f Y<|g.z X.length<|aL _,t]
def ae0:ByteArray:={data:=(([0,1,2,2,3,3,3,3,4,4,4,4,4,4,4,4,5,5,5,5,5,5,5,5,5,5,5,5,5,5,5,5,6,6,6,6,6,6,6,6,6,6,6,6,6,6,6,6,6,6,6,6,6,6,6,6,6,6,6,6,6,6,6,6].append [7,7,7,7,7,7,7,7,7,7,7,7,7,7,7,7,7,7,7,7,7,7,7,7,7,7,7,7,7,7,7,7,7,7,7,7,7,7,7,7,7,7,7,7,7,7,7,7,7,7,7,7,7,7,7,7,7,7,7,7,7,7,7,7]).append<|[8,8,8,8,8,8,8,8,8,8,8,8,8,8,8,8,8,8,8,8,8,8,8,8,8,8,8,8,8,8,8,8,8,8,8,8,8,8,8,8,8,8,8,8,8,8,8,8,8,8,8,8,8,8,8,8,8,8,8,8,8,8,8,8].append [8,8,8,8,8,8,8,8,8,8,8,8,8,8,8,8,8,8,8,8,8,8,8,8,8,8,8,8,8,8,8,8,8,8,8,8,8,8,8,8,8,8,8,8,8,8,8,8,8,8,8,8,8,8,8,8,8,8,8,8,8,8,8,8]).toArray}
def ae1(n:G):Bool:=match J4 ae0 (n:V)with
 |some l=>decide (0<=l)&&decide (l<=8)&&Nat.blt n (2^af l)&&(Nat.ble (2^af l) (2*n)||Nat.beq n 0)
 |none=>ah
def aq8:((List.range 256).all ae1)=ae:=fh
def aq9{n:G}(f:n<256):∃l:G,J4 ae0 (n:V)=some (l:V)/\l<=8/\n<2^l/\(2^l<=2*n\/n=0):=by
 have a:=nY.1 aq8 n<|qO.2 f;unfold ae1 at a;split at a
 .rename_i l e;simp only[cP,A5,nr]at a;let ⟨⟨⟨h2,g⟩,d⟩,b⟩:=a;refine⟨af l,by rw[xS h2];exact e,Y,c7 d,?_⟩;rcases b with b|b
  .exact .inl<|c7 b
  .exact .inr<|mi b
 .cases a
def PT{a}{t:TypeId}{x i}{f}{k}{d b}{g}(l:a.ev x=some (.c<|.V<|.string f))(m:a.ev i=some (.c<|.I k d))(n:o t dM=some g)(p:g.kind= .str)(s:J4 f d=some b):xT dM a (.index t x i)=some (.c<|.I .u8 b,.le 0 d):=by simp[xT,l,m,n,p,s]
def aq' a b(D:cu a)(H:cu b)(la:Z a<=1099511627776)(lb:Z b<=1099511627776):w O 191 [e ao a,e ao b] (e ao<|al<|af<|val a*val b):=by
 refine aK Tryz.func191 ?_;refine U J<|R<|rm ao (Z a+Z b) J J J J J J (oe .u32) J ?_ ?_ ?_
 .show _*4<=_;omega
 .show _*1<=_;omega
 refine M J<|h<|U J<|ay<|bq (α:=G×E V) (λx=>⟨[(0,e ao a),(1,e ao b),(5,.c<|.X 1005000),(18,c<|Z a),(19,c x.1)],[(1005000,.vec 142 ao x.2)],3,[]⟩) (Wl a b) (λx=>Z a-x.1) (0,bx (Z a+Z b) 0) ?_ (wk (bK J) ⟨bR J,j⟩) ?_
 .refine⟨bg _,au,tT _,?_,D1⟩;intro gT _;simp[aO,nG];split<;>rfl
 .rintro⟨i,o⟩ l;have g:Z o=Z a+Z b:=l.len;refine U J<|h<|F J (λm=>?_) (λm=>?_)
  .have m:i<Z a:=by simpa using m
   have N:=dI D i;refine aE<|h<|ay<|U J<|U J<|U J<|h<|U J ?_;have P:ax .u64 (I a (af (i:V)) 0)=I a i 0:=by rw[cC,bf _ Y Y]
   refine ay<|bq (α:=G×E V×V) (λx=>⟨[(0,e ao a),(1,e ao b),(5,.c<|.X 1005000),(6,c i),(7,cU x.2.2),(8,cU<|I a i 0),(18,c<|Z a),(19,c i),(28,c<|Z b),(29,c x.1)],[(1005000,.vec 142 ao x.2.1)],8,[]⟩) (D3 a b i) (λx=>Z b-x.1) (0,o,0) ?_ (wk ⟨sR J,sR J,sR J,sR J,sR J,⟨_,J,bu.of_eq<|cj P⟩,sR J,sR J,sR J,sR J,j⟩ ⟨bR J,j⟩) ?_
   .refine⟨bg _,g,l.r,l.z,iZ _,(by show(0:V)<_;decide),?_⟩;have:=l.v;simp only at this;simp[this,val]
   .rintro⟨k,o,d⟩ n;have g:Z o=Z a+Z b:=n.len;have t:0<=d:=n.c0;have u:d<4294967296:=n.c1;refine U J<|h<|F J (λp=>?_) (λp=>?_)
    .have p:k<Z b:=by simpa using p
     have Q:=dI H k;have T:=dI n.r<|i+k;simp only at T;have gm:=KV N.1 Y Q.1 Y;refine aE<|h<|ay<|U J<|U J ?_ (hp:=lQ);have f:af ((i:V)+(k:V))=i+k:=Y;have C:ax .u64 (ax .u64 (ax .u64 (I a i 0*ax .u64 (I b (af (k:V)) 0))+ax .u64 (I o (af<|(i:V)+(k:V)) 0))+d)=I a i 0*I b k 0+I o (i+k) 0+d:=by rw[f,cC,bf (I b k 0) Y Y,bf (I o (i+k) 0) Y Y,bf (I a i 0*I b k 0) Y Y,bf (I a i 0*I b k 0+I o (i+k) 0) Y Y,bf _ Y Y]
     have A:=n.next m p D H;simp only at A;generalize ht:I a i 0*I b k 0+I o (i+k) 0+d=s at A C;have B:ax .u32 s=s%4294967296:=by simp[ax,dx,KR]
     have W:s.fdiv (2^(min (af (32:V))<|dx .u64))=s/4294967296:=by rw[D9 _ S];rfl
     refine fq (st':=⟨[(0,e ao a),(1,e ao b),(5,.c<|.X 1005000),(6,c i),(8,cU<|I a i 0),(9,c k),(10,cU s),(18,c<|Z a),(19,c i),(28,c<|Z b),(29,c k)],[(1005000,.vec 142 ao o)],12,[]⟩) (wk ⟨sR J,sR J,sR J,sR J,sR J,sR J,sE J ?_,sR J,sR J,sR J,sR J,j⟩ ⟨bR J,j⟩) ?_
     .exact cj C
     refine U J<|rt J<|bP<|rt J<|a4 (k+1,o.set (i+k)<|s%4294967296,s/4294967296) A (Y:Z b-(k+1)<Z b-k)<|wk ⟨sR J,sR J,sR J,sR J,sE J<|cj W,sR J,sR J,sR J,sR J,sE J ?_,j⟩ ⟨bE J ?_,j⟩
     .rfl
     .rw[B,f]
    .have p:¬k<Z b:=by simpa using p
     have q:k=Z b:=by have:=n.k;simp only at this;omega
     subst q;have y:=n.done m;have f:af ((i:V)+(Z b:V))=i+Z b:=Y;have B:ax .u32 d=d:=oo d t u;refine bs<|aS<|rt J<|bP<|rt J<|a4 (i+1,o.set (i+Z b) d) y ri<|wk ⟨sR J,sR J,sR J,sR J,sE J ?_,j⟩ ⟨bE J ?_,j⟩
     .rfl
     .rw[B,f]
  .have m:¬i<Z a:=by simpa using m
   have L:i=Z a:=by have:=l.i;simp only at this;omega
   subst L;refine bs<|aS<|dv 1005000 J J J<|R<|rc J J (yg _)<|M J<|cv J ?_;have K:=l.v;simp[iG]at K;rw[rf l.r];simp[K]
def ae2 m k(a:Z (al m)<=1099511627776)(b:Z (al k)<=1099511627776):w O 160 [e ao (al m),e ao<|al k] (e ao<|al<|m+k):=by have:=aq7 (al m) (al k) (fc m) (fc k) a b;rw[fv,fv,(Y:af ((m:V)+(k:V))=m+k)]at this;exact this
def ara m k(a:Z (al m)<=1099511627776)(b:Z (al k)<=1099511627776):w O 191 [e ao (al m),e ao<|al k] (e ao<|al<|m*k):=by have:=aq' (al m) (al k) (fc m) (fc k) a b;rw[fv,fv,show af ((m:V)*(k:V))=m*k by rw[<-gM];rfl]at this;exact this
def arb a b(k:Sm a)(l:Sm b):w O 159 [aZ a,aZ b] (aZ<|a*b):=by
 refine aK Tryz.func159 ?_;refine U J<|R<|rc J J (ara _ _ k l)<|rc J J (ru _ _)<|M J<|cv J ?_;have m:sg (cD a !=cD b) (aC a*aC b)=a*b:=by have d:=BK a;have f:=BK b;generalize aC a=x at d⊢;generalize aC b=y at f⊢;cases g:cD a<;>cases i:cD b<;>rw[g]at d<;>rw[i]at f<;>simp[sg,cz,b8,jx]at d f<;>rw[<-d,<-f]<;>simp[sg]<;>grind
 exact bm aZ m
def nJ(a:E V):G->G
 |0=>0
 |i+1=>nJ a i+aC (I a i 0)
def iH(a:E V):G:=nJ a (Z a)*2^(Z a-1)
structure Kn1(M a b d v t u2 f u:V):Prop where
 hM:0<M
 qu:2147483648<=a
 arc:a<4294967296
 zI:0<=b
 ae3:b<4294967296
 wc:0<=d
 ae4:d<M
 ht:0<=t
 jN:0<=u2
 ard:u2<4294967296
 zr:0<=f
 are:f<M
 ev:v=(a*4294967296+b)*M+d
 eu:u=(t*4294967296+u2)*M+f
 lt:u<v*4294967296
namespace Kn1
variable{M v1 v2 v' v t u2 u' u:V}(h:Kn1 M v1 v2 v' v t u2 u' u)
include h
def Hy:0<v:=by have a:=h.ev;have:0<(v1*4294967296+v2)*M:=Ea (by have:=h.qu;have:=h.zI;omega) h.hM;have:=h.wc;omega
def vge:4294967296*M<=v:=by have a:=h.ev;have b:4294967296*M<=(v1*4294967296+v2)*M:=ja (by have:=h.qu;have:=h.zI;omega) yi;have:=h.wc;omega
def vlt:v<(v1+1)*4294967296*M:=by have a:=h.ev;have b:(v1*4294967296+v2+1)*M<=(v1+1)*4294967296*M:=ja (kw h.ae3) yi;have d:(v1*4294967296+v2+1)*M=(v1*4294967296+v2)*M+M:=KZ;have:=h.ae4;omega
def ae5:t*4294967296*M<=u:=by have a:=h.eu;have b:t*4294967296*M<=(t*4294967296+u2)*M:=ja (kw h.jN) yi;have:=h.zr;omega
def ae6:u<(t*4294967296+u2+1)*M:=by have a:=h.eu;have b:(t*4294967296+u2+1)*M=(t*4294967296+u2)*M+M:=KZ;have:=h.are;omega
def tlt:t<(v1+1)*4294967296:=by
 have f:=h.ae5;have g:=h.lt;have i:=h.vlt;have a:t*(4294967296*M)<(v1+1)*4294967296*(4294967296*M):=by
  have b:t*(4294967296*M)=t*4294967296*M:=by rw[ko]
  have d:(v1+1)*4294967296*(4294967296*M)=(v1+1)*4294967296*M*4294967296:=by rw[ko _ M,fL M]
  rw[b,d];omega
 exact ari a yi
def Hz:u/v<4294967296:=Hv h.Hy (by rw[fL];exact h.lt)
def q0:0<=u/v:=by refine BM ?_ (kw h.Hy);have:=h.ae5;have:0<=t*4294967296*M:=kL (kw h.ht) yi;omega
def arj:u/v*v<=u:=Int.ediv_mul_le u (kw h.Hy)
def first:u/v<=t/v1:=by
 apply ark (kw h.qu);have a:=h.arj;have i:u/v*(v1*4294967296*M)<=u/v*v:=mq (by have a:=h.ev;have b:v1*4294967296*M<=(v1*4294967296+v2)*M:=ja (kw h.zI) yi;have:=h.wc;omega) h.q0;have b:=h.ae6;have k:(t*4294967296+u2+1)*M<=(t+1)*4294967296*M:=ja (kw h.ard) yi;have d:u/v*v1*(4294967296*M)<(t+1)*(4294967296*M):=by
  have f:u/v*v1*(4294967296*M)=u/v*(v1*4294967296*M):=by simp[ko]
  have g:(t+1)*(4294967296*M)=(t+1)*4294967296*M:=by simp[ko]
  rw[f,g];omega
 have:=ari d yi;omega
def down{a b:V}(f:t=a*v1+b)(d:0<=a)(g:a*v2>b*4294967296+u2):u/v<a:=by
 apply Hv h.Hy;have i:=h.ae6;have k:(t*4294967296+u2+1)*M<=a*(v1*4294967296+v2)*M:=ja (by
  have e:a*(v1*4294967296+v2)=a*v1*4294967296+a*v2:=by rw[qt,ko]
  rw[e];generalize a*v1=x at*;generalize a*v2=y at*;omega) yi
 have l:a*v=a*(v1*4294967296+v2)*M+a*v':=by rw[h.ev,qt,ko a]
 have m:0<=a*v':=kL d h.wc;omega
def close{a b:V}(d:t=a*v1+b)(f:0<=a)(hB:a<4294967296)(g:a*v2<=b*4294967296+u2):a-1<=u/v:=by
 apply ark h.Hy;have i:a*(v1*4294967296+v2)*M<=(t*4294967296+u2)*M:=ja (by
  have e:a*(v1*4294967296+v2)=a*v1*4294967296+a*v2:=by rw[qt,ko]
  rw[e];generalize a*v1=x at*;generalize a*v2=y at*;omega) yi
 have k:a*v=a*(v1*4294967296+v2)*M+a*v':=by rw[h.ev,qt,ko a]
 have l:a*v'<=4294967296*M:=zT Y (kw h.ae4) h.wc S;have m:=h.vge;have n:=h.eu;have p:=h.zr;have s:(a-1)*v=a*v-v:=by rw[K0,mu]
 omega
def arl{a b:V}(f:t=a*v1+b)(g:4294967296<=b):a<4294967296:=by
 have d:=h.tlt;have i:=h.qu;by_cases hq:a<4294967296
 .exact hq
 .exfalso;have:4294967296*v1<=a*v1:=ja Y Y;have e:(v1+1)*4294967296=v1*4294967296+4294967296:=KZ;rw[e]at d;omega
def small{a b:V}(g:t=a*v1+b)(i:0<=b):a<=4294967297:=by
 have d:=h.tlt;have k:=h.qu;have f:=h.arc;by_cases hq:a<=4294967297
 .exact hq
 .exfalso;have:4294967298*v1<=a*v1:=ja Y Y;have e:(v1+1)*4294967296=v1*4294967296+4294967296:=KZ;rw[e]at d;omega
end Kn1
def tW:G->V->V->V->V->V->V
 |0,a,_,_,_,_=>a
 |f+1,a,b,v1,v2,u2=>if a>=4294967296\/a*v2>b*4294967296+u2 then(if b+v1>=4294967296 then a-1 else tW f (a-1) (b+v1) v1 v2 u2)else a
def PU{z g k A v t m B u:V}(d:Kn1 z g k A v t m B u):∀(f:G)(a b:V),t=a*g+b->0<=b->b<4294967296->4294967296<=b+f*2147483648->u/v<=a->u/v<=tW f a b g k m/\tW f a b g k m<=u/v+1/\tW f a b g k m<4294967296
 |0,a,b,_,_,h2,D,_=>by omega
 |f+1,a,b,ht,N,h2,D,hq=>by
  have q0:=d.q0;have Hz:=d.Hz;have C:=d.qu;rw[tW];split
  .rename_i i;have H:u/v<a:=by
    rcases i with i|i
    .omega
    .exact d.down ht Y i
   have l:t=(a-1)*g+(b+g):=by rw[K0,mu];omega
   split
   next s=>have x:=d.arl l s;have i:a-1-1<=u/v:=d.close l Y x (by have K:(a-1)*k<=4294967296*4294967296:=zT Y (kw d.ae3) d.zI S;have:=d.jN;omega);exact⟨Y,Y,x⟩
   next s=>exact PU d f (a-1) (b+g) l Y Y Y Y
  .rename_i i;have n:a<4294967296:=by
    by_cases e:a<4294967296
    .exact e
    .exact aF (.inl Y) i
   have p:a*k<=b*4294967296+m:=by
    by_cases e:a*k<=b*4294967296+m
    .exact e
    .exact aF (.inr Y) i
   have:=d.close ht Y n p;exact⟨hq,Y,n⟩
def HA{a b:V}(d:0<=a):a.tdiv b=a/b:=wP d
def K1{a b:V}(d:0<=a):a.tmod b=a%b:=k5 d
def arn a v b n(D:cu a)(hv:cu v)(hn:Z v=n+2)(hj:b+n+3<=Z a)(hl:Z a<=1099511627777){v' u' u}
  (K:Kn1 (4294967296^n) (I v (n+1) 0) (I v n 0) v' (val v) (I a (b+(n+2)) 0*4294967296+I a (b+(n+1)) 0) (I a (b+n) 0) u' u):
  wG O 218 [.c (.W 0 b<|n+3),e ao v] 142 ao a (cU<|tW 2 ((I a (b+(n+2)) 0*4294967296+I a (b+(n+1)) 0)/I v (n+1) 0) ((I a (b+(n+2)) 0*4294967296+I a (b+(n+1)) 0)%I v (n+1) 0) (I v (n+1) 0) (I v n 0)<|I a (b+n) 0) a:=by
 refine KI Tryz.func218 J J J J J S ?_
 have g1:=dI D<|b+(n+2)
 have g2:=dI D<|b+(n+1)
 have g3:=dI D<|b+n
 have k1:=dI hv<|n+1
 have k2:=dI hv n
 have qu:=K.qu
 have a1:af ((Z v:V))=n+2:=Y
 have L:af ((Z v:V)-1)=n+1:=Y
 have a3:af ((Z v:V)-2)=n:=Y
 generalize hQ:tW 2 ((I a (b+(n+2)) 0*4294967296+I a (b+(n+1)) 0)/I v (n+1) 0) ((I a (b+(n+2)) 0*4294967296+I a (b+(n+1)) 0)%I v (n+1) 0) (I v (n+1) 0) (I v n 0) (I a (b+n) 0)=Q0
 refine U J<|U J<|U J (hp:=lQ) ?_
 rw[a1,L]
 have e6:ax .u64 (ax .u64 (ax .u64 (I a (b+(n+2)) 0)*4294967296)+ax .u64 (I a (b+(n+1)) 0))=I a (b+(n+2)) 0*4294967296+I a (b+(n+1)) 0:=by rw[bf (I a (b+(n+2)) 0) Y Y,bf (I a (b+(n+1)) 0) Y Y,bf (_*_) Y Y,bf _ Y Y]
 have H:ax .u64 (I v (n+1) 0)=I v (n+1) 0:=bf _ Y Y
 have N:ax .u64 (I v n 0)=I v n 0:=bf _ Y Y
 have P:ax .u64 (I a (b+n) 0)=I a (b+n) 0:=bf _ Y Y
 have k:0<=I a (b+(n+2)) 0*4294967296+I a (b+(n+1)) 0:=Y
 have ht1:I a (b+(n+2)) 0*4294967296+I a (b+(n+1)) 0<18446744073709551616:=Y
 have dG:=@PU _ _ _ _ _ _ _ _ _ K
 generalize I a (b+(n+2)) 0*4294967296+I a (b+(n+1)) 0=t at*
 generalize m:I v (n+1) 0=v1 at*
 generalize p:I v n 0=v2 at*
 generalize s:I a (b+n) 0=u2 at*
 have z:ax .u64 (I v (af<|(Z v:V)-1) 0)=v1:=by rw[L,m];exact H
 have x2:ax .u64 (I v (af<|(Z v:V)-2) 0)=v2:=by rw[a3,p];exact N
 have x3:ax .u64 (I a (b+af ((Z v:V)-2)) 0)=u2:=by rw[a3,s];exact P
 have X:0<=t/v1:=BM k Y
 have o:0<=t%v1:=jG _ Y
 have tP:t%v1<v1:=jH _ Y
 have cK:=pM t v1
 refine fq (st':=⟨[(0,.c<|.W 0 b<|n+3),(1,e ao v),(5,c<|Z v),(6,cU t)],[(0,.vec 142 ao a)],4,[]⟩) (wk ⟨sR J,sR J,sR J,⟨_,J,bu.of_eq<|cj e6⟩,j⟩ ⟨bR J,j⟩) ?_
 have WB:((-9223372036854775808<=(Z v:V)-1/\(Z v:V)-1<=9223372036854775807)/\0<=(Z v:V)-1/\(Z v:V)-1<(Z v:V))/\ax .u64 (I v (af<|(Z v:V)-1) 0)≠0:=by rw[z];omega
 refine U J (hp:=ae8)<|U J (hp:=ae8) ?_
 refine bI<|ay<|bq (α:=G×V×V) (λx=>⟨[(0,.c<|.W 0 b<|n+3),(1,e ao v),(5,c<|Z v),(6,cU t),(7,cU x.2.1),(8,cU x.2.2)],[(0,.vec 142 ao a)],6,[]⟩) (λx=>tW x.1 x.2.1 x.2.2 v1 v2 u2=Q0/\t=x.2.1*v1+x.2.2/\0<=x.2.2/\x.2.2<4294967296/\4294967296<=x.2.2+x.1*2147483648/\u/val v<=x.2.1) (λx=>x.1) (2,t/v1,t%v1) ⟨hQ,by show t=t/v1*v1+t%v1;rw[fL];omega,o,(Y:t%v1<4294967296),WC,K.first⟩ (wk ⟨sR J,sR J,sR J,sR J,sE J ?_,sE J ?_,j⟩ ⟨bR J,j⟩) ?_
 .refine cj ?_;show ax .u64 (t.tdiv<|ax .u64<|I v (af<|(Z v:V)-1) 0)=t/v1;have:=Int.ediv_le_self v1 k;rw[z,HA k,bf _ X Y]
 .refine cj ?_;show(t.tmod<|ax .u64<|I v (af<|(Z v:V)-1) 0)=t%v1;rw[z,K1 k]
 .rintro⟨f,q,r⟩ ⟨i,h2,h3,h4,h5,h6⟩;simp only at i h2 h3 h4 h5 h6;have K2:=K.q0;have hqs:=(@Kn1.small _ _ _ _ _ _ _ _ _ K) h2 h3;cases f with
  |zero=>omega
  |succ f=>
  rw[tW]at i;have A:0<=q*v2/\q*v2<18446744073709551616:=by refine⟨kL Y Y,?_⟩;have:q*v2<=4294967297*4294967295:=zT Y Y Y S;omega
  refine bI<|R<|rg 42 J J (λh=>?_)<|λh=>?_
  .have B:q>=4294967296:=by simpa using h
   have g:q>=4294967296\/q*v2>r*4294967296+u2:= .inl B;refine M J (F J (λ_=>?_)<|λd=>by cases d);have w:u/val v<q:=by
    rcases g with g|g
    .have:=K.Hz;omega
    .exact K.down h2 Y g
   have C:ax .u64 (q-1)=q-1:=bf _ Y Y;have E:ax .u64 (r+ax .u64 (I v (af<|(Z v:V)-1) 0))=r+v1:=by rw[z,bf _ Y Y]
   refine aE<|ay<|U J<|U J (hp:=lQ)<|U J<|F J (λd=>?_)<|λd=>?_
   .have d:r+v1>=4294967296:=by
     have d:4294967296<=ax .u64 (r+ax .u64 (I v (af<|(Z v:V)-1) 0)):=by simpa using d
     omega
    rw[g5 g,g5 d]at i;refine oJ<|Jw<|pB<|oK<|aS<|U J<|bX<|BC cq J (bu.of_eq<|cj ?_) J;rw[<-i];exact C
   .have d:¬r+v1>=4294967296:=by
     have d:ax .u64 (r+ax .u64 (I v (af<|(Z v:V)-1) 0))<4294967296:=by simpa using d
     omega
    rw[g5 g,y d]at i;refine di<|fF<|a4 (f,q-1,r+v1) ⟨i,PV,PW,PX,PY,PZ⟩ (dV f)<|wk ⟨sR J,sR J,sR J,sR J,⟨_,J,bu.of_eq<|cj C⟩,⟨_,J,bu.of_eq<|cj E⟩,j⟩ ⟨bR J,j⟩
  .have B:¬q>=4294967296:=by have:q<4294967296:=fg;omega
   have w3:ax .u64 (q*ax .u64 (I v (af<|(Z v:V)-2) 0))=q*v2:=by rw[x2,bf _ A.1 A.2]
   have w4:ax .u64 (ax .u64 (r*4294967296)+ax .u64 (I a (b+af ((Z v:V)-2)) 0))=r*4294967296+u2:=by rw[x3,bf (r*4294967296) Y Y,bf _ Y Y]
   refine M J (hp:=lQ)<|F J (λl=>?_)<|λl=>?_
   .have g:q>=4294967296\/q*v2>r*4294967296+u2:= .inr (by
     have l:ax .u64 (q*ax .u64 (I v (af<|(Z v:V)-2) 0))>ax .u64 (ax .u64 (r*4294967296)+ax .u64 (I a (b+af ((Z v:V)-2)) 0)):=by simpa using l
     rw[w3,w4]at l;exact l)
    have w:u/val v<q:=by
     rcases g with g|g
     .have:=K.Hz;omega
     .exact K.down h2 Y g
    have C:ax .u64 (q-1)=q-1:=bf _ Y Y;have E:ax .u64 (r+ax .u64 (I v (af<|(Z v:V)-1) 0))=r+v1:=by rw[z,bf _ Y Y]
    refine aE<|ay<|U J<|U J (hp:=lQ)<|U J<|F J (λd=>?_)<|λd=>?_
    .have d:r+v1>=4294967296:=by
      have d:4294967296<=ax .u64 (r+ax .u64 (I v (af<|(Z v:V)-1) 0)):=by simpa using d
      omega
     rw[g5 g,g5 d]at i;refine oJ<|Jw<|pB<|oK<|aS<|U J<|bX<|BC cq J (bu.of_eq<|cj ?_) J;rw[<-i];exact C
    .have d:¬r+v1>=4294967296:=by
      have d:ax .u64 (r+ax .u64 (I v (af<|(Z v:V)-1) 0))<4294967296:=by simpa using d
      omega
     rw[g5 g,y d]at i;refine di<|fF<|a4 (f,q-1,r+v1) ⟨i,PV,PW,PX,PY,PZ⟩ (dV f)<|wk ⟨sR J,sR J,sR J,sR J,⟨_,J,bu.of_eq<|cj C⟩,⟨_,J,bu.of_eq<|cj E⟩,j⟩ ⟨bR J,j⟩
   .have g:¬(q>=4294967296\/q*v2>r*4294967296+u2):=by
     have l:¬ax .u64 (q*ax .u64 (I v (af<|(Z v:V)-2) 0))>ax .u64 (ax .u64 (r*4294967296)+ax .u64 (I a (b+af ((Z v:V)-2)) 0)):=by simpa using l
     rw[w3,w4]at l;omega
    rw[y g]at i;subst i;exact bs<|aS<|U J<|bX<|BC cq J (bu.refl _) J
def cp:G->V->E V
 |0,_=>[]
 |n+1,x=>x%4294967296::cp n (x/4294967296)
def vo:∀(n:G)(x:V),Z (cp n x)=n
 |0,_=>rfl
 |n+1,x=>by rw[cp,jg,vo n]
def K3:∀(n:G)(x:V),cu (cp n x)
 |0,_=>Wd
 |n+1,x=>BG.2 ⟨⟨jG _ S,jH _ S⟩,K3 n _⟩
def rv n:(4294967296:V)^(n+1)=4294967296^n*4294967296:=gP _ _
def P0(x:V) n:x/4294967296^(n+1)=x/4294967296^n/4294967296:=by rw[rv,arq<|by have:=k4 n;omega]
def ae9(x:V) n:x/4294967296^(n+1)=x/4294967296/4294967296^n:=by rw[rv,fL,arq S]
def WD(x:V) n:x%4294967296^(n+1)=x%4294967296+4294967296*(x/4294967296%4294967296^n):=by
 have f:=pM x<|4294967296^(n+1);have g:=pM x 4294967296;have i:=pM (x/4294967296)<|4294967296^n;rw[ae9,rv]at f;rw[rv];generalize x/4294967296/4294967296^n=a at*;generalize x/4294967296%4294967296^n=b at*;generalize x/4294967296=c at*;have e:4294967296^n*4294967296*a=4294967296*(4294967296^n*a):=by rw[fL (4294967296^n) 4294967296,ko]
 rw[e]at f;generalize (4294967296:V)^n*a=d at*;omega
def K4:∀(n:G)(x:V),val (cp n x)=x%4294967296^n
 |0,x=>by rw[ry,Int.emod_one];rfl
 |n+1,x=>by rw[cp,val,K4 n,WD]
def HB:∀(n:G)(x:V),cp (n+1) x=cp n x++[x/4294967296^n%4294967296]
 |0,x=>by rw[ry,wR];rfl
 |n+1,x=>by rw[cp,HB n,cp,ae9];rfl
def P1:∀(n:G)(x a:V),x%4294967296^n=a%4294967296^n->cp n x=cp n a
 |0,_,_,_=>rfl
 |n+1,x,a,b=>by rw[WD,WD]at b;rw[cp,cp,P1 n (x/4294967296) (a/4294967296) Y,(Y:x%4294967296=a%4294967296)]
def WE n x a:cp n (x+a*4294967296^n)=cp n x:=P1 n _ _<|Wq _ _ _
def ae':∀{a:E V},cu a->cp (Z a) (val a)=a
 |[],_=>rfl
 |b::a,d=>by let ⟨f,h2⟩:=BG.1 d;rw[jg,cp,val];rw[(Y:(b+4294967296*val a)%4294967296=b),(Y:(b+4294967296*val a)/4294967296=val a),ae' h2]
def dt(a:E V)(b:G)(d:E V):E V:=r b a++(d++az (b+Z d) a)
def P3 a b:dt a b []=a:=by simp[dt]
def zW{U}{j}{ws}(a:j+Z ws<=Z U):Z (dt U j ws)=Z U:=by simp[dt];omega
def P4{U}{j}{ws}(b:j+Z ws<=Z U):I (dt U j ws) (j+Z ws) 0=I U (j+Z ws) 0:=by unfold dt;have a:(r j U).length=j:=cd;rw[aO,C7 Y,a,C7 Y,uS,aO];congr 2;omega
def P5{U}{j}{ws}a(b:j+Z ws<Z U):(dt U j ws).set (j+Z ws) a=dt U j (ws++[a]):=by unfold dt;have d:(r j U).length=j:=cd;rw[P6 _ _ Y,d,P6 _ _ Y,(Y:j+Z ws-j-Z ws=0)];rw[tU b,WG,nt,iV];rfl
def WH{a}{f}{b}(d:cu a)(g:cu b):cu (dt a f b):=We (kj d _)<|We g<|BH d _
def WI{b}{a}{d}(f:a+Z d<=Z b):az a (dt b a d)=d++az (a+Z d) b:=by unfold dt;have g:(r a b).length=a:=cd;rw[C3 Y,vX Y,vW]
def afa{b}{a}{d}(f:a+Z d<=Z b):r a (dt b a d)=r a b:=by unfold dt;have g:(r a b).length=a:=cd;rw[y6 Y,jM Y]
def WJ(a:E V) b i:(az b a).getD i 0=I a (b+i) 0:=by rw[aO,uS,aO]
def afb a v d i f{D c b}(m:D=val ((az d a).take i)-f*val (r i v))(n:D/4294967296^i= -(c+b)):
  (let p:=f*List.getD v i 0+c
   let t:=4294967296+List.getD a (d+i) 0-p%4294967296-b
   let g:=val ((az d a).take<|i+1)-f*val (List.take (i+1) v)
   cp (i+1) g=cp i D++[t%4294967296]/\g/4294967296^(i+1)= -(p/4294967296+(1-t/4294967296))):=by
 intro p t g
 have k:g=D+(I a (d+i) 0-f*I v i 0)*4294967296^i:=by show val ((az d a).take<|i+1)-f*val (r (i+1) v)=_;rw[lP,lP,WJ,m,qt,K0,ko];omega
 have l:g/4294967296^i= -(c+b)+(I a (d+i) 0-f*I v i 0):=by rw[k,D6 _ _ (kw<|k4 i),n]
 have s:p=f*I v i 0+c:=rfl
 have u:t=4294967296+I a (d+i) 0-p%4294967296-b:=rfl
 clear_value p t
 refine⟨?_,?_⟩
 .rw[HB,k,WE,<-k,l];congr 2;omega
 .rw[P0,l];omega
def afc a v b i{D c}(k:D=val ((az b a).take i)+val (r i v))(l:D/4294967296^i=c):
  (let t:=List.getD a (b+i) 0+List.getD v i 0+c
   let d:=val ((az b a).take<|i+1)+val (List.take (i+1) v)
   cp (i+1) d=cp i D++[t%4294967296]/\d/4294967296^(i+1)=t/4294967296):=by
 intro t d
 have f:d=D+(I a (b+i) 0+I v i 0)*4294967296^i:=by show val ((az b a).take<|i+1)+val (r (i+1) v)=_;rw[lP,lP,WJ,k,pJ];omega
 have g:d/4294967296^i=c+(I a (b+i) 0+I v i 0):=by rw[f,D6 _ _ (kw<|k4 i),l]
 have m:t=I a (b+i) 0+I v i 0+c:=rfl
 clear_value t
 refine⟨?_,?_⟩
 .rw[HB,f,WE,<-f,g];congr 2;omega
 .rw[P0,g];omega
def afd{v}(d:cu v){a}(b:0<=a)(l:a<4294967296) i:0<=a*val (r i v)/4294967296^i/\a*val (r i v)/4294967296^i<4294967296:=by have f:=nF<|kj d i;have p:=oT<|kj d i;have s:=wO (m:=(r i v).length) (n:=i) cd;have k:0<=a*val (r i v):=kL b f;refine⟨BM k Y,Hv (k4 i) ?_⟩;have t:a*val (r i v)<=4294967296*val (r i v):=ja Y f;have u:4294967296*val (r i v)<4294967296*4294967296^i:=Int.mul_lt_mul_of_pos_left Y S;omega
def afe{v}{q a}i(b:a=q*val (r i v)/4294967296^i):q*val (r (i+1) v)/4294967296^(i+1)=(q*I v i 0+a)/4294967296:=by rw[P0,lP,qt,<-ko,D6 _ _ (kw<|k4 i),b,yh]
def ars{v}(f:cu v){b}(d:0<=b)(k:b<4294967296){a}(l:Z v<a):b*val (r a v)/4294967296^a=0:=by
 rw[om v a Y];have g:=nF f;have p:=oT f;have s:=wO (m:=Z v) (n:=a-1) Y;have i:(4294967296:V)^a=4294967296^(a-1)*4294967296:=by rw[<-rv];congr 1;omega
 have t:b*val v<=4294967296*val v:=ja Y g;exact Hw (kL d g) (by rw[i];omega)
def art d v a g f(hU:cu d)(H:cu v)(hj:a+g<=Z d)(hL:Z v<g)(k:0<=f)(P:f<4294967296)(hl:Z d<=1099511627777):
  wG O 219 [.c (.W 0 a g),e ao v,cU f] 142 ao d (cB<|decide<|val ((az a d).take g)-f*val v<0) (dt d a<|cp g<|val ((az a d).take g)-f*val v):=by
 refine KI Tryz.func219 J J J J J S ?_
 refine U J<|U J<|U J<|h<|U J ?_
 refine ay<|bq (α:=G×V×V) (λx=>⟨[(0,.c<|.W 0 a g),(1,e ao v),(2,cU f),(7,cU x.2.1),(8,cU x.2.2),(9,c x.1)],[(0,.vec 142 ao<|dt d a<|cp x.1<|val ((az a d).take x.1)-f*val (r x.1 v))],5,[]⟩) (λx=>x.1<=g/\(val ((az a d).take x.1)-f*val (r x.1 v))/4294967296^x.1= -(x.2.1+x.2.2)/\x.2.1=f*val (r x.1 v)/4294967296^x.1/\(x.2.2=0\/x.2.2=1)) (λx=>g-x.1) (0,0,0) ⟨bg _,zO,zO,.inl J⟩ (wk (bK J) ⟨bE J ?_,j⟩) ?_
 .exact bm (aA.vec 142 ao) (P3 d a).symm
 rintro⟨i,K,b⟩ ⟨o,h2,l,m⟩
 simp only at o h2 l m
 have y:=afd H k P i
 rw[<-l]at y
 refine h<|U J ?_
 refine F J (λn=>?_)<|λn=>?_
 .have n:i<g:=by simpa using n
  have E:=dI H i;have gu:=dI hU<|a+i;have hm:0<=f*I v i 0/\f*I v i 0<=18446744065119617025:=KV k Y E.1 Y;have s:=afb d v a i f (c:=K) (b:=b) J h2;have N:=afe (v:=v) (q:=f) i l;simp only at s;let ⟨s1,s2⟩:=s;have u:Z (cp i<|val ((az a d).take i)-f*val (r i v))=i:=vo _ _;have M:=zW (U:=d) (j:=a) (ws:=cp i<|val ((az a d).take i)-f*val (r i v)) Y;have z:=P4 (U:=d) (j:=a) (ws:=cp i<|val ((az a d).take i)-f*val (r i v)) Y;have A:=λw=>P5 (U:=d) (j:=a) (ws:=cp i<|val ((az a d).take i)-f*val (r i v)) w Y
  rw[u]at z A;refine aE<|h<|ay<|bQ J J (D0 v i H) J ?_;have R:ax .u64 (ax .u64 (f*I v i 0)+K)=f*I v i 0+K:=by rw[bf (f*I v i 0) Y Y,bf _ Y Y]
  generalize Q:f*I v i 0+K=p at*;have B:0<=p/\p<18446744073709551616:=Y;refine fq (st':=⟨[(0,.c<|.W 0 a g),(1,e ao v),(2,cU f),(8,cU b),(9,c i),(10,cU p)],[(0,.vec 142 ao<|dt d a<|cp i<|val ((az a d).take i)-f*val (r i v))],7,[]⟩) (wk ⟨sR J,sR J,sR J,sR J,sR J,⟨_,J,bu.of_eq<|cj R⟩,j⟩ ⟨bR J,j⟩) ?_;generalize hX:dt d a (cp i<|val ((az a d).take i)-f*val (r i v))=X at*;refine U J<|U J (hp:=lQ) ?_;have T:af (i:V)=i:=cC i;have w2:ax .u64 (p.tdiv 4294967296)=p/4294967296:=by rw[HA B.1,bf _ Y Y]
  have w3:ax .u64 (ax .u64 (ax .u64 (4294967296+ax .u64 (X.getD (a+af (i:V)) 0))-p.tmod 4294967296)-b)=4294967296+I d (a+i) 0-p%4294967296-b:=by rw[T,z,K1 B.1,bf (I d (a+i) 0) Y Y,bf (4294967296+_) Y Y,bf (_-p%4294967296) Y Y,bf _ Y Y]
  generalize ht:4294967296+I d (a+i) 0-p%4294967296-b=t at*;have C:0<=t/\t<8589934592:=Y;refine fq (st':=⟨[(0,.c<|.W 0 a g),(1,e ao v),(2,cU f),(7,cU<|p/4294967296),(9,c i),(11,cU t)],[(0,.vec 142 ao X)],9,[]⟩) (wk ⟨sR J,sR J,sR J,⟨_,J,bu.of_eq<|cj w2⟩,sR J,⟨_,J,bu.of_eq<|cj w3⟩,j⟩ ⟨bR J,j⟩)<|U J (hp:=lQ)<|rt J<|bP<|rt J<|a4 (i+1,p/4294967296,1-t/4294967296) ⟨n,s2,N.symm,(Y:1-t/4294967296=0\/1-t/4294967296=1)⟩ (Y:g-(i+1)<g-i)<|wk ⟨sR J,sR J,sR J,sR J,sE J ?_,sE J<|bm c Y,j⟩ ⟨bE J ?_,j⟩
  .refine cj ?_;show ax .u64 (1-ax .u64 (t.tdiv 4294967296))=1-t/4294967296;rw[HA C.1,bf (t/4294967296) Y Y,bf _ Y Y]
  .refine bm (aA.vec 142 ao) ?_;show X.set (a+af (i:V)) (ax .u32<|t.tmod 4294967296)=dt d a (cp (i+1) _);rw[s1,T,K1 C.1,oo _ Y Y,A]
 .have n:¬i<g:=by simpa using n
  have cH:i=g:=Y;subst cH;rw[ars H k P hL]at l;rw[om v i Y]at h2⊢;refine bs<|aS<|U J<|bX<|BC cq J (bu.of_eq<|bm cB ?_) J;show(b==1)=_;rcases m with m|m
  .subst m l;have:0<=val ((az a d).take i)-f*val v:=by have D:=pM (val ((az a d).take i)-f*val v)<|4294967296^i;have h6:=jG (val ((az a d).take i)-f*val v) (Y:(4294967296:V)^i≠0);rw[h2]at D;simp at D;omega
   rw[rz Y];rfl
  .subst m l;have:val ((az a d).take i)-f*val v<0:=by have D:=pM (val ((az a d).take i)-f*val v)<|4294967296^i;have h6:=jH (val ((az a d).take i)-f*val v)<|k4 i;rw[h2]at D;simp at D;omega
   rw[rA Y];rfl
def aru b v a d(z:cu b)(s:cu v)(N:a+d<=Z b)(P:Z v<=d)(Q:Z b<=1099511627777):
  wG O 220 [.c (.W 0 a d),e ao v] 142 ao b (.t []) (dt b a<|cp d<|val ((az a b).take d)+val v):=by
 refine KI Tryz.func220 J J J J J S ?_
 refine U J<|U J ?_
 refine ay<|bq (α:=G×V) (λx=>⟨[(0,.c<|.W 0 a d),(1,e ao v),(4,cU x.2),(5,c x.1)],[(0,.vec 142 ao<|dt b a<|cp x.1<|val ((az a b).take x.1)+val (r x.1 v))],3,[]⟩) (λx=>x.1<=d/\(val ((az a b).take x.1)+val (r x.1 v))/4294967296^x.1=x.2/\(x.2=0\/x.2=1)) (λx=>d-x.1) (0,0) ⟨bg _,zO,.inl J⟩ (wk (bK J) ⟨bE J ?_,j⟩) ?_
 .exact bm (aA.vec 142 ao) (P3 b a).symm
 rintro⟨i,p⟩ ⟨A,h2,B⟩
 simp only at A h2 B
 refine h<|U J ?_
 refine F J (λf=>?_)<|λf=>?_
 .have f:i<d:=by simpa using f
  have K:=dI s i;have T:=dI z<|a+i;have g:=afc b v a i (c:=p) J h2;simp only at g;let ⟨s1,s2⟩:=g;have k:Z (cp i<|val ((az a b).take i)+val (r i v))=i:=vo _ _;have C:=zW (U:=b) (j:=a) (ws:=cp i<|val ((az a b).take i)+val (r i v)) Y;have l:=P4 (U:=b) (j:=a) (ws:=cp i<|val ((az a b).take i)+val (r i v)) Y;have m:=λw=>P5 (U:=b) (j:=a) (ws:=cp i<|val ((az a b).take i)+val (r i v)) w Y
  rw[k]at l m;generalize o:dt b a (cp i<|val ((az a b).take i)+val (r i v))=X at*;have u:af (i:V)=i:=cC i;refine aE<|h<|ay<|R<|rc J J (D0 v i s) (hp:=lQ)<|M J ?_;have D:ax .u64 (ax .u64 (ax .u64 (X.getD (a+af (i:V)) 0)+I v i 0)+p)=I b (a+i) 0+I v i 0+p:=by rw[u,l,bf (I b (a+i) 0) Y Y,bf (_+I v i 0) Y Y,bf _ Y Y]
  generalize ht:I b (a+i) 0+I v i 0+p=t at*;have n:0<=t/\t<8589934592:=Y;refine fq (st':=⟨[(0,.c<|.W 0 a d),(1,e ao v),(5,c i),(6,cU t)],[(0,.vec 142 ao X)],5,[]⟩) (wk ⟨sR J,sR J,sR J,⟨_,J,bu.of_eq<|cj D⟩,j⟩ ⟨bR J,j⟩)<|U J (hp:=lQ)<|rt J<|bP<|rt J<|a4 (i+1,t/4294967296) ⟨f,s2,(Y:t/4294967296=0\/t/4294967296=1)⟩ (Y:d-(i+1)<d-i)<|wk ⟨sR J,sR J,sE J ?_,sE J<|bm c Y,j⟩ ⟨bE J ?_,j⟩
  .refine cj ?_;show ax .u64 (t.tdiv 4294967296)=t/4294967296;rw[HA n.1,bf (t/4294967296) Y Y]
  .refine bm (aA.vec 142 ao) ?_;show X.set (a+af (i:V)) (ax .u32<|t.tmod 4294967296)=dt b a (cp (i+1) _);rw[s1,u,K1 n.1,oo _ Y Y,m]
 .have f:¬i<d:=by simpa using f
  have H:i=d:=Y;subst H;rw[om v i Y];exact bs<|ael cq J (bu.refl _) J
def WK{v}{n}(d:Z v=n+2):val v=(I v (n+1) 0*4294967296+I v n 0)*4294967296^n+val (r n v):=by
 have a:=lP v<|n+1;rw[om v (n+1+1) Y,rv]at a;rw[a,lP v n,pJ];have e:I v (n+1) 0*(4294967296^n*4294967296)=I v (n+1) 0*4294967296*4294967296^n:=by rw[fL (4294967296^n),ko]
 rw[e];omega
def arv d f n:val ((az f d).take<|n+3)=((I d (f+(n+2)) 0*4294967296+I d (f+(n+1)) 0)*4294967296+I d (f+n) 0)*4294967296^n+val ((az f d).take n):=by have k:=lP (az f d) n;have g:=lP (az f d)<|n+1;have i:=lP (az f d)<|n+2;rw[WJ]at k g i;rw[rv]at g;rw[rv (n+1),rv]at i;rw[show n+3=n+2+1 from J,i,g,k];generalize (4294967296:V)^n=M;generalize I d (f+(n+2)) 0=a;generalize I d (f+(n+1)) 0=b;generalize I d (f+n) 0=c;grind
def aff{U v}{j n}(a:cu U)(d:cu v)(m:Z v=n+2)(s:j+n+3<=Z U)(b:2147483648<=I v (n+1) 0)(f:val ((az j U).take<|n+3)<val v*4294967296):
  Kn1 (4294967296^n) (I v (n+1) 0) (I v n 0) (val<|r n v) (val v) (I U (j+(n+2)) 0*4294967296+I U (j+(n+1)) 0) (I U (j+n) 0) (val<|(az j U).take n) (val<|(az j U).take<|n+3):=by
 have g:=dI d n
 have t:=dI a<|j+(n+2)
 have u:=dI a<|j+(n+1)
 have i:=dI a<|j+n
 have k:=oT<|kj d n
 have l:=oT<|kj (BH a j) n
 rw[(cd:(r n v).length=n)]at k
 rw[(cd:Z ((az j U).take n)=n)]at l
 exact⟨k4 n,b,(dI d<|n+1).2,g.1,g.2,nF<|kj d n,k,Y,i.1,i.2,nF<|kj (BH a j) n,l,WK m,arv U j n,f⟩
structure wT(A v:V)(lb M:G)(x:G×E V×E V):Prop where
 k:x.1<=M+1
 ul:x.2.1.length=M+lb+1
 ur:cu x.2.1
 ub:val (x.2.1.drop x.1)<v
 ql:x.2.2.length=M+1
 qr:cu x.2.2
 qz:∀i,i<x.1->x.2.2.getD i 0=0
 eq:A=val x.2.1+v*val x.2.2
def BN a b(d:b<=Z a):val a=val (r b a)+4294967296^b*val (az b a):=by have:=Hp (r b a)<|az b a;rw[uX]at this;rw[this];congr 3;simp;omega
def afg{a}(b:cu a) n(d:n<=Z a)(f:val a<4294967296^n):val (az n a)=0:=by
 have g:=BN a n d;have i:=nF<|kj b n;have k:=nF<|BH b n;by_cases e:val (az n a)=0
 .exact e
 .exfalso;have:4294967296^n*1<=4294967296^n*val (az n a):=mq Y (kw<|k4 n);omega
def wT.WL{A v}{d g a}{b Q}(f:wT A v d g (a+1,b,Q))(p:v<4294967296^d):val (az a b)=val ((az a b).take<|d+1)/\val ((az a b).take<|d+1)<v*4294967296:=by
 have s:a+1<=g+1:=f.k;have t:Z b=g+d+1:=f.ul;have i:cu b:=f.ur;have u:val (az (a+1) b)<v:=f.ub;have n:az a b=I b a 0::az (a+1) b:=by rw[tU Y];simp[aO,df (Y:a<Z b)]
 have l:val ((az (a+1) b).drop d)=0:=afg (BH i _) d cd Y;have m:val (az a b)=val ((az a b).take<|d+1):=by have:=BN (az a b) (d+1) cd;rw[se]at this;rw[se]at l;rw[this,(Y:a+(d+1)=a+1+d),l];simp
 refine⟨m,?_⟩;rw[<-m,n,val];have:=dI i a;omega
def wT.next{A v}{b l a}{d Q}(g:wT A v b l (a+1,d,Q))(m:0<v)(N:v<4294967296^b):
  wT A v b l (a,dt d a<|cp (b+1)<|val ((az a d).take<|b+1)%v,Q.set a<|val ((az a d).take<|b+1)/v):=by
 let ⟨H,P⟩:=g.WL N
 have F:a+1<=l+1:=g.k
 have T:Z d=l+b+1:=g.ul
 have K:cu d:=g.ur
 have s:Z Q=l+1:=g.ql
 have t:cu Q:=g.qr
 have n:∀i,i<a+1->I Q i 0=0:=g.qz
 have heq:A=val d+v*val Q:=g.eq
 have z:0<=val ((az a d).take<|b+1):=nF<|kj (BH K _) _
 generalize hu:val ((az a d).take<|b+1)=u at*
 have X:=jH u m
 have c:0<=u/v:=BM z Y
 have o:u/v<4294967296:=Hv m (by rw[fL];exact P)
 have C:Z (cp (b+1)<|u%v)=b+1:=vo _ _
 have f:a+Z (cp (b+1)<|u%v)<=Z d:=Y
 have D:u%v<4294967296^(b+1):=by rw[rv];have:=k4 b;omega
 have q:val (az (a+(b+1)) d)=0:=by
  have:=BN (az a d) (b+1) cd;rw[se,hu,H]at this;have G:=k4<|b+1;have r:4294967296^(b+1)*val (az (a+(b+1)) d)=0:=Y;rcases Int.mul_eq_zero.1 r with e|e
  .omega
  .exact e
 have p:val (az a<|dt d a<|cp (b+1)<|u%v)=u%v:=by rw[WI f,Hp,K4,iN (jG u (Y:v≠0)) D,C,q];simp
 refine⟨(Y:a<=l+1),by show Z (dt _ _ _)=_;rw[zW f];exact T,WH K<|K3 _ _,by show val (az a<|dt d a _)<v;rw[p];exact X,by show(Q.set _ _).length=_;simp[s],BI t _ ⟨c,o⟩,?_,?_⟩
 .intro i J;show(Q.set a _).getD i 0=0;rw[aO,List.getElem?_set_ne Y,<-aO];exact n i Y
 .show A=val (dt d a _)+v*val (Q.set a _);rw[Wf Q a _ Y,n a Y,BN (dt d a _) a (by rw[zW f];omega),afa f,p,heq,BN d a Y,H];have w:v*(val Q+(u/v-0)*4294967296^a)=v*val Q+4294967296^a*(v*(u/v)):=by generalize u/v=x;generalize (4294967296:V)^a=y;grind
  have E:4294967296^a*u=4294967296^a*(u%v)+4294967296^a*(v*(u/v)):=by rw[<-qt,pM u v]
  rw[w,E];omega
def wT.fin{A v}{g i}{a Q}(b:wT A v g i (0,a,Q)):val Q=A/v/\val a=A%v:=by have f:val a<v:=b.ub;have d:=nF b.ur;have heq:A=val a+v*val Q:=b.eq;simp only at d;have k:0<v:=Y;rw[heq,Int.add_mul_ediv_left _ _ Y,Hw d f,P7,iN d f];exact⟨Y,J⟩
def arw{b1:V}(f:1<=b1)(g:b1<4294967296):2147483648<=b1*(4294967296/(b1+1)):=by
 have i:=pM 4294967296<|b1+1;have k:=jH 4294967296 (Y:0<b1+1);generalize 4294967296/(b1+1)=d at*;generalize (4294967296:V)%(b1+1)=r at*;by_cases l:2147483648<=b1
 .have a:1<=d:=by
   by_cases e:1<=d
   .exact e
   .have:(b1+1)*d<=(b1+1)*0:=mq Y Y;omega
  have:b1*1<=b1*d:=mq a Y;omega
 .have b:0<=(b1-1)*(4294967296-2*b1-2):=kL Y Y;have m:(b1-1)*(4294967296-2*b1-2)=b1*4294967296-2*(b1*b1)-4294967296+2:=by grind
  have n:(b1+1)*(b1*d)=b1*(4294967296-r):=by rw[show(b1+1)*(b1*d)=b1*((b1+1)*d)by grind];congr 1;omega
  have p:b1*(4294967296-b1)<=b1*(4294967296-r):=mq Y Y;have s:b1*(4294967296-b1)=b1*4294967296-b1*b1:=by rw[HC]
  by_cases e:2147483648<=b1*d
  .exact e
  .exfalso;have:(b1+1)*(b1*d)<=(b1+1)*2147483647:=mq Y Y;omega
def arx{k n}(b:Z (al k)=n+2){a}(g:a=I (al k) (n+1) 0){d:G}(B:(d:V)=4294967296/(a+1)):
  1<=a/\a<4294967296/\1<=d/\d<4294967296/\((k*d:G):V)<4294967296^(n+2)/\Z (al<|k*d)=n+2/\2147483648<=I (al<|k*d) (n+1) 0:=by
 have i:=dI (fc k)<|n+1
 have C:=yf k
 have h:a≠0:=by
  rcases C with e|e
  .rw[e]at b;simp at b
  .rw[b]at e;rw[g];exact e
 rw[<-g]at i
 have D:=pM 4294967296<|a+1
 have H:=jG 4294967296 (Y:a+1≠0)
 have j:=jH 4294967296 (Y:0<a+1)
 have l:=arw (b1:=a) Y i.2
 rw[<-B]at D l
 have o:(1:V)<=d:=by
  by_cases e:(1:V)<=d
  .exact e
  .have:(d:V)=0:=by omega
   rw[this]at l;simp at l
 have q:(d:V)<4294967296:=by have:2*(d:V)<=(a+1)*d:=ja Y Y;omega
 have K:=WK b
 rw[fv,<-g]at K
 have N:=oT<|kj (fc k) n
 rw[(cd:Z (r n<|al k)=n)]at N
 have w:=nF<|kj (fc k) n
 have P:=dI (fc k) n
 have E:=k4 n
 generalize I (al k) n 0=f at*
 generalize val (r n<|al k)=F at*
 have p:(4294967296:V)^(n+1)=4294967296^n*4294967296:=rv n
 have Q:a*4294967296^(n+1)<=(k:V):=by have:(a*4294967296)*4294967296^n<=(a*4294967296+f)*4294967296^n:=ja Y Y;rw[p,show a*(4294967296^n*4294967296)=a*4294967296*4294967296^n by rw[fL (4294967296^n),ko]];omega
 have T:(k:V)<(a+1)*4294967296^(n+1):=by
  have s:(a*4294967296+f+1)*4294967296^n<=(a*4294967296+4294967296)*4294967296^n:=ja Y Y;have t:(a*4294967296+f+1)*4294967296^n=(a*4294967296+f)*4294967296^n+4294967296^n:=by rw[pJ _ 1,mu]
  have u:(a*4294967296+4294967296)*4294967296^n=(a+1)*(4294967296^n*4294967296):=by generalize (4294967296:V)^n=y;grind
  rw[p,<-u];omega
 have z:((k*d:G):V)<4294967296^(n+2):=by
  rw[gM,rv];have s:(k:V)*d<(a+1)*4294967296^(n+1)*d:=K5 T Y;have t:(a+1)*4294967296^(n+1)*d=4294967296^(n+1)*((a+1)*d):=by generalize (4294967296:V)^(n+1)=y;grind
  have u:4294967296^(n+1)*((a+1)*d)<=4294967296^(n+1)*4294967296:=mq Y Y;omega
 have A:Z (al<|k*d)=n+2:=by have s:Z (al<|k*d)<=n+2:=DZ z;have t:=vn (m:=k) (k:=k*d)<|qv _ Y;omega
 refine⟨Y,i.2,Y,Y,z,A,?_⟩
 have v:=WK A
 have W:=oT<|kj (fc<|k*d) n
 rw[(cd:Z (r n<|al<|k*d)=n)]at W
 have X:=dI (fc<|k*d) n
 have c:=dI (fc<|k*d)<|n+1
 rw[fv,gM]at v
 generalize I (al<|k*d) n 0=x at*
 generalize I (al<|k*d) (n+1) 0=c1 at*
 generalize val (r n<|al<|k*d)=J at*
 by_cases e:2147483648<=c1
 .exact e
 .exfalso;have s:(c1*4294967296+x+1)*4294967296^n<=(c1*4294967296+4294967296)*4294967296^n:=ja Y Y;have t:(c1*4294967296+x+1)*4294967296^n=(c1*4294967296+x)*4294967296^n+4294967296^n:=by rw[pJ _ 1,mu]
  have u:(c1*4294967296+4294967296)*4294967296^n=(c1+1)*4294967296^(n+1):=by rw[p];generalize (4294967296:V)^n=y;grind
  have L:a*4294967296^(n+1)*d<=(k:V)*d:=ja Q Y;have M:(c1+1)*4294967296^(n+1)<=a*d*4294967296^(n+1):=ja Y Y;have O:a*4294967296^(n+1)*d=a*d*4294967296^(n+1):=by generalize (4294967296:V)^(n+1)=y;grind
  omega
def afh{b}{a}{d f}(g:a+Z d<=Z b)(i:Z f=Z d):dt (dt b a d) a f=dt b a f:=by unfold dt;rw[show(r a b++(d++az (a+Z d) b)).take a=r a b from afa g,i];have k:(r a b).length=a:=cd;rw[List.drop_append,k,vX Y,vW,(Y:a+Z d-a=Z d),List.drop_left'];rfl
def ary m k n(D:Z (al k)=n+2)(nW:k<=m)(lm:Z (al m)<=1099511627776):w O 186 [e ao (al m),e ao<|al k] (.t [(ah,[.S ao (al<|m/k)]),(ah,[.S ao (al<|m%k)])]):=by
 refine aK Tryz.func186 ?_;generalize L:I (al k) (n+1) 0=b1;obtain⟨d,hd⟩:∃d:G,(d:V)=4294967296/(b1+1):=⟨af<|4294967296/(b1+1),xS<|BM S<|by have:=dI (fc k)<|n+1;omega⟩;let ⟨f1,f2,f3,f4,f5,f6,f7⟩:=arx D L.symm hd;have oL:0<k:=by
  rcases sS k with p|p
  .subst p;rw[Hq]at D;simp at D
  .exact p
 have WM:n+2<=Z (al m):=by rw[<-D];exact vn nW
 obtain⟨f,hM⟩:∃f,Z (al m)=f+(n+2):=⟨Z (al m)-(n+2),Y⟩;have WN:((m*d:G):V)<4294967296^(f+(n+2)+1):=by have h1:=wN (n:=m);rw[hM]at h1;rw[rv,gM];have:=k4<|f+(n+2);have h2:(m:V)*d<=(m:V)*4294967296:=mq Y Y;omega
 have aAi:Z (al<|m*d)<=f+(n+2)+1:=DZ WN;have arz:¬eR (m:V) (k:V)<0:=by unfold eR;rw[y Y];split<;>decide
 refine U J<|bI<|bQ J J (KW m k) J<|F J (λh=>aF fg arz)<|λ_=>aE<|bI<|U J<|F J (λh=>?_)<|λ_=>aE ?_
 .exfalso;have h:(Z (al k):V)=1:=fg;omega
 have a2:af ((Z (al k):V)-1)=n+1:=Y;have x1:ax .u64 (ax .u64 (I (al k) (af<|(Z (al k):V)-1) 0)+1)=b1+1:=by rw[a2,L,bf b1 Y Y,bf _ Y Y]
 have x2:ax .u64 ((4294967296:V).tdiv<|ax .u64<|ax .u64 (I (al k) (af<|(Z (al k):V)-1) 0)+1)=(d:V):=by rw[x1,HA S,<-hd,bf _ Y Y]
 refine U J<|U J (hp:=by simp only[Pr.an,Pr.h,num,ia,true_and,and_true];rw[x1];omega)<|fq (st':=⟨[(0,e ao<|al m),(1,e ao<|al k),(8,c ((n+2:G):V)),(9,cU d)],[],5,[]⟩) (wk ⟨sR J,sR J,⟨_,J,bu.of_eq<|bm (λz:G=>c (z:V)) D⟩,⟨_,J,bu.of_eq<|cj x2⟩,j⟩ j)<|R<|rc J J (Hr d Y)<|rc J J (Wo k d Y<|by have:=KX (m:=d) Y;omega)<|M J<|R<|rm ao (Z (al m)+1) J J J J J J (oe .u32) Y ?_ ?_<|M J ?_
 .show _*4<=_;omega
 .show _*1<=_;omega
 refine R<|rc J J (Hr d Y)<|rc J J (Wo m d Y<|by have:=KX (m:=d) Y;omega)<|Ps J J J J J WO au<|M J ?_;generalize N:al (m*d)++az (Z<|al<|m*d) (bx (Z (al m)+1) (0:V))=s;refine R<|rm ao (f+1) J J J J J J (oe .u32) Y ?_ ?_<|M J ?_
 .show _*4<=_;omega
 .show _*1<=_;omega
 have H:val s=((m*d:G):V):=by rw[<-N,Hp,fv,(au:az (Z<|al<|m*d) (bx (Z (al m)+1) (0:V))=bx (Z (al m)+1-Z (al<|m*d)) 0),PB];simp
 have K:cu s:=by rw[<-N];exact We (fc _)<|BH (tT _) _
 have WQ:Z s=f+(n+2)+1:=by rw[<-N];simp;omega
 have BO:(0:V)<((k*d:G):V):=by have:0<k*d:=BP oL Y;omega
 have yc:wT ((m*d:G):V) ((k*d:G):V) (n+2) f (f+1,s,bx (f+1) 0):=by
  refine⟨aL _,WQ,K,?_,au,tT _,λi hi=>?_,?_⟩
  .show val (az (f+1) s)<_;have h1:=BN s (f+1) Y;have h2:=nF<|kj K<|f+1;have hp:=k4<|f+1;by_cases p:val (az (f+1) s)<((k*d:G):V)
   .exact p
   .exfalso;have h3:4294967296^(f+1)*((k*d:G):V)<=4294967296^(f+1)*val (az (f+1) s):=mq Y Y;have h4:=PC (fc k) (yf k) (by intro p;rw[p]at D;simp at D);rw[fv,D,(Y:n+2-1=n+1)]at h4;have h5:=wN (n:=m);rw[hM,(Y:f+(n+2)=f+1+(n+1)),Int.pow_add]at h5;have h6:4294967296^(f+1)*4294967296^(n+1)*(d:V)<=4294967296^(f+1)*((k*d:G):V):=by rw[gM,ko];exact mq (ja h4 Y) Y
    have h7:(m:V)*d<4294967296^(f+1)*4294967296^(n+1)*(d:V):=K5 h5 Y;rw[H,gM m d]at h1;omega
  .show I (bx (f+1) (0:V)) i 0=0;rw[aO,nG];split<;>rfl
  .show _=val s+_*val (bx (f+1) 0);rw[PB,H];omega
 refine bI<|U J<|ay<|bq (α:=G×E V×E V) (λx=>⟨[(8,c ((n+2:G):V)),(9,cU d),(10,e ao<|al<|k*d),(11,.c<|.X 6003000),(12,.c<|.X 8005000),(13,c<|(x.1:V)-1)],[(6003000,.vec 142 ao x.2.1),(8005000,.vec 142 ao x.2.2)],10,[]⟩) (wT ((m*d:G):V) ((k*d:G):V) (n+2) f) (λx=>x.1) (f+1,s,bx (f+1) 0) yc (wk ⟨sR J,sR J,sR J,sR J,sR J,sE J ?_,j⟩<|n5 J) ?_
 .exact bm c Y
 rintro⟨o,b,Q⟩ A;have lA:Z b=f+(n+2)+1:=A.ul;have l:cu b:=A.ur;have P8:Z Q=f+1:=A.ql;have Og:o<=f+1:=A.k;refine bI<|U J<|F J (λh=>?_)<|λh=>?_
 .have h:(o:V)-1>=0:=by simpa using h
  obtain⟨a,rfl⟩:∃a,o=a+1:=⟨o-1,Y⟩;have ej:((a+1:G):V)-1=(a:V):=Y;rw[ej];have g:=A.next BO f5;let ⟨_,zC⟩:=A.WL f5;have hK:=aff (U:=b) (v:=al<|k*d) (j:=a) (n:=n) l (fc _) f6 Y f7 (by rw[fv];exact zC);have qu:=dI (fc<|k*d)<|n+1;have P:=PU hK 2 ((I b (a+(n+2)) 0*4294967296+I b (a+(n+1)) 0)/I (al<|k*d) (n+1) 0)<|(I b (a+(n+2)) 0*4294967296+I b (a+(n+1)) 0)%I (al<|k*d) (n+1) 0;have T:=hK.first;generalize WR:I (al<|k*d) (n+1) 0=v1 at P qu f7 T;generalize hte:I b (a+(n+2)) 0*4294967296+I b (a+(n+1)) 0=t at P T;have BQ:=jG t (Y:v1≠0);have tP:=jH t (Y:0<v1);have P:=P (by have h1:=pM t v1;have h2:=fL (t/v1) v1;omega) BQ Y Y T;rw[<-hte,<-WR]at P;have Vq:=arn b (al<|k*d) a n l (fc _) f6 Y Y hK;have K2:=hK.q0;generalize tW 2 ((I b (a+(n+2)) 0*4294967296+I b (a+(n+1)) 0)/I (al<|k*d) (n+1) 0) ((I b (a+(n+2)) 0*4294967296+I b (a+(n+1)) 0)%I (al<|k*d) (n+1) 0) (I (al<|k*d) (n+1) 0) (I (al<|k*d) n 0) (I b (a+n) 0)=q at*;rw[fv]at P K2;have hls:=art b (al<|k*d) a (n+3) q l (fc _) Y Y Y P.2.2 Y;rw[fv]at hls;rw[show n+2+1=n+3 from J]at g zC;generalize hu:val ((az a b).take<|n+3)=u at*;have BR:=pM u ((k*d:G):V);have Ke:=jG u (Y:((k*d:G):V)≠0);have yd:=jH u BO;generalize hv:((k*d:G):V)=v at*;refine aE<|bI<|ay<|R<|rw_ a (a+(n+3)) J J J J J J Y Y (Y:a+(n+3)<=Z b)<|M J ?_
  refine fq (st':=⟨[(8,c ((n+2:G):V)),(9,cU d),(10,e ao<|al<|k*d),(11,.c<|.X 6003000),(12,.c<|.X 8005000),(13,c a),(14,.c<|.W 6003000 a<|n+3)],[(6003000,.vec 142 ao b),(8005000,.vec 142 ao Q)],12,[]⟩) (wk ⟨sR J,sR J,sR J,sR J,sR J,sR J,⟨_,J,bu.of_eq<|bm (λz=>AV.c<|C.W 6003000 a z) Y⟩,j⟩<|n5 J)<|R<|BD 6003000 J Vq J J<|M J<|bI<|R<|BD 6003000 J hls J J<|M J ?_;have HD:∀x,Z (cp (n+3) x)=n+3:=λx=>vo _ _
  refine F J (λh=>?_)<|λh=>?_
  .have h:u-q*v<0:=by simpa using h
   have B:q=u/v+1:=by
    by_cases p:q=u/v
    .subst p;have:=fL (u/v) v;omega
    .omega
   have WS:q*v=v*(u/v)+v:=by rw[B,pJ,mu,fL]
   have hr:cu (dt b a<|cp (n+3)<|u-q*v):=WH l<|K3 _ _;have DL:=aru (dt b a<|cp (n+3)<|u-q*v) (al<|k*d) a (n+3) hr (fc _) (by rw[zW wU];omega) Y (by rw[zW wU];omega);have e1:dt (dt b a<|cp (n+3)<|u-q*v) a (cp (n+3)<|val (r (n+3)<|az a<|dt b a<|cp (n+3)<|u-q*v)+val (al<|k*d))=dt b a (cp (n+3)<|u%v):=by rw[afh wU (by rw[HD,HD]),WI wU,y6 wU,jM wU,K4,fv,hv];refine bm (dt b a)<|P1 _ _ _ ?_;rw[Int.emod_add_emod];congr 1;omega
   rw[e1]at DL;have w1:ax .u64 (q-1)=u/v:=by rw[bf _ Y Y];omega
   refine U J<|cG<|BD 6003000 J DL J J<|M J<|aS<|fq (st':=⟨[(8,c ((n+2:G):V)),(9,cU d),(10,e ao<|al<|k*d),(11,.c<|.X 6003000),(12,.c<|.X 8005000),(13,c a),(15,cU<|u/v)],[(6003000,.vec 142 ao<|dt b a<|cp (n+3)<|u%v),(8005000,.vec 142 ao Q)],16,[]⟩) (wk ⟨sR J,sR J,sR J,sR J,sR J,sR J,⟨_,J,bu.of_eq<|cj w1⟩,j⟩<|n5 J)<|rt J (hp:=lQ)<|bP<|rt J<|a4 (a,dt b a<|cp (n+3)<|u%v,Q.set a<|u/v) g (dV a)<|wk (bK J) ⟨bR J,bE J<|bm (aA.vec 142 ao) ?_,j⟩;show Q.set (af (a:V)) (ax .u32<|u/v)=Q.set a (u/v);rw[cC,oo _ Y Y]
  .have h:¬u-q*v<0:=by simpa using h
   have B:q=u/v:=by
    by_cases p:q=u/v
    .exact p
    .exfalso;have e2:q=u/v+1:=Y;have WS:q*v=v*(u/v)+v:=by rw[e2,pJ,mu,fL]
     omega
   have e1:u-q*v=u%v:=by have:=fL (u/v) v;rw[B];omega
   refine aE<|fq (st':=⟨[(8,c ((n+2:G):V)),(9,cU d),(10,e ao<|al<|k*d),(11,.c<|.X 6003000),(12,.c<|.X 8005000),(13,c a),(15,cU<|u/v)],[(6003000,.vec 142 ao<|dt b a<|cp (n+3)<|u%v),(8005000,.vec 142 ao Q)],16,[]⟩) (wk ⟨sR J,sR J,sR J,sR J,sR J,sR J,⟨_,J,bu.of_eq<|cj B⟩,j⟩ ⟨⟨_,J,mb.of_eq<|bm (λz=>aA.vec 142 ao<|dt b a<|cp (n+3) z) e1⟩,bR J,j⟩)<|rt J (hp:=lQ)<|bP<|rt J<|a4 (a,dt b a<|cp (n+3)<|u%v,Q.set a<|u/v) g (dV a)<|wk (bK J) ⟨bR J,bE J<|bm (aA.vec 142 ao) ?_,j⟩;show Q.set (af (a:V)) (ax .u32<|u/v)=Q.set a (u/v);rw[cC,oo _ Y Y]
 .have h:¬(o:V)-1>=0:=by simpa using h
  have hc:o=0:=Y;subst hc;let ⟨e1,e2⟩:=A.fin;have q1:aU Q=al (m/k):=by
   rw[rf A.qr];show al (af<|val Q)=_;rw[e1];have:((m*d:G):V)/((k*d:G):V)=((m/k:G):V):=by rw[<-zS,Nat.mul_div_mul_right _ _ Y]
   rw[this,cC]
  have q2:al (af<|val (aU b)/(d:V))=al (m%k):=by
   rw[aeN];show al (af<|val b/(d:V))=_;rw[e2];have:((m*d:G):V)%((k*d:G):V)/(d:V)=((m%k:G):V):=by rw[<-K6,Nat.mul_mod_mul_right,<-zS,WT _ Y]
   rw[this,cC]
  have zX:=aeU (aU b) (d:V) (aeO l) Y Y (by
   have h2:Z (aU b)<=n+2:=by rw[rf l];apply DZ;have h3:val b<((k*d:G):V):=A.ub;omega
   omega)
  rw[q2]at zX;refine bs<|aS<|dv 6003000 J J J<|dv 8005000 J J J<|R<|rc J J (BJ b)<|rc J J zX<|M J<|bQ J J (BJ Q) J<|cv J ?_;rw[q1]
def afj m k(b:k≠0)(a:Z (al m)<=1099511627776):w O 186 [e ao (al m),e ao<|al k] (.t [(ah,[.S ao (al<|m/k)]),(ah,[.S ao (al<|m%k)])]):=by
 by_cases h:m<k\/k<4294967296
 .exact aq4 m k b h a
 .have g:2<=Z (al k):=by
   by_cases d:2<=Z (al k)
   .exact d
   .exfalso;have i:=wN (n:=k);have f:=wO (m:=Z<|al k) (n:=1) Y;rw[Int.pow_one]at f;omega
  exact ary m k (Z (al k)-2) Y Y a
def HE a b(n:b≠0)(m:Sm a)(k:Sm b):w O 183 [aZ a,aZ b] (.t [(ae,av .z<|a/b),(ae,av .z<|a%b),(ah,[.I .i64 0])]):=by
 refine aK Tryz.func183 ?_;refine U J<|h<|U J ?_;have d:aC b≠0:=Y;refine F J (λh2=>?_)<|λh2=>?_
 .exfalso;have h2:(Z (fo b):V)=0:=sk;have:=rj.2 d;unfold fo at h2;omega
 .refine aE<|bQ J J (afj _ _ d m) J<|h<|R<|rg 25 J J (λh3=>?_) (λh3=>?_)
  .have h3:a<0:=by simpa[cD]using h3
   refine M J<|F J (λh4=>?_)<|λh4=>?_
   .have h4:aC a%aC b≠0:=by have h4:(Z (al<|aC a%aC b):V)>0:=P9;exact rj.1 Y
    let ⟨e1,f⟩:=aeX (rq d) h3 h4;have hz:cD a=ae:=HG;let ⟨g,i⟩:=Hx a b (aC a/aC b+1) (aC b-aC a%aC b) HH f;have p:aC a%aC b<aC b:=gU _<|rq d;refine R<|rl ao [_] J J (rc J J (aeS (aC a/aC b) 1 ?_ S)<|M J<|cG<|rc J J (Wn (aC b) _ Y k)<|M J<|aS<|R ?_)
    .exact br (vn<|Nat.div_le_self _ _) m
    refine rc J J (sQ _ _)<|rc J J (sQ _ _)<|M J<|cv J ?_;rw[g,i];rfl
   .have h4:aC a%aC b=0:=by have h4:¬(Z (al<|aC a%aC b):V)>0:=P9;exact Wx λl=>by have:=rj.2 l;omega
    let ⟨e1,f⟩:=aeW (rq d) h3 h4;have hz:cD a=ae:=HG;let ⟨g,i⟩:=Hx a b (aC a/aC b) (aC a%aC b) HH (by rw[f,h4];rfl);refine aE<|R<|rc J J (sQ _ _)<|rc J J (sQ _ _)<|M J<|cv J ?_;rw[g,i];rfl
  .have h3:¬a<0:=by simpa[cD]using h3
   refine M J<|F J (λh4=>by simp at h4)<|λh4=>?_;let ⟨e1,f⟩:=aeV (rq d) h3;have hz:cD a=ah:=HG;let ⟨g,i⟩:=Hx a b (aC a/aC b) (aC a%aC b) HH f;refine aE<|R<|rc J J (sQ _ _)<|rc J J (sQ _ _)<|M J<|cv J ?_;rw[g,i];rfl
def arB m k(v:Z (al m)<=1099511627776)(z:Z (al k)<=1099511627776):w O 148 [e ao (al m),e ao<|al k] (e ao<|al<|pK m k):=by
 refine aK Tryz.func148 ?_;refine U J<|bI<|ay<|bq (α:=G×G) (λx=>⟨[(0,e ao<|al x.1),(1,e ao<|al x.2)],[],1,[]⟩) (λx=>pK x.1 x.2=pK m k/\Z (al x.1)<=1099511627776/\Z (al x.2)<=1099511627776) (λx=>x.2) (m,k) ⟨J,v,z⟩ aN ?_;rintro⟨x,y⟩ ⟨hg,lx,i⟩;simp only at hg lx i;refine bI<|U J<|F J (λh=>?_)<|λh=>?_
 .have A:y≠0:=by have h:(Z (al y):V)>0:=fg;exact rj.1 Y
  have a:w O 186 [e ao (al x),e ao<|al y] (.t [(ah,[.S ao (al<|x/y)]),(ah,[.S ao (al<|x%y)])]):=afj x y A lx;have d:pK y (x%y)=pK m k:=by rw[<-hg,BL x y,Nat.gcd_rec y x,BL]
  have f:x%y<y:=gU _ Y;have g:Z (al<|x%y)<=1099511627776:=br (vn Y) i;refine aE<|ay<|bI<|R<|rg 13 J J (λh2=>?_)<|λh2=>?_
  .have h2:Z (al x)<=2:=by have h2:(Z (al x):V)<=2:=sk;omega
   refine M J<|F J (λh3=>?_)<|λh3=>?_
   .have h3:Z (al y)<=2:=by have h3:(Z (al y):V)<=2:=CY;omega
    have l:x<18446744073709551616:=by have B:=wN (n:=x);have p:=wO h2;rw[show(4294967296:V)^2=18446744073709551616 from J]at p;omega
    have b:y<18446744073709551616:=by have B:=wN (n:=y);have p:=wO h3;rw[show(4294967296:V)^2=18446744073709551616 from J]at p;omega
    refine R<|rc J J (Wp x l)<|rc J J (Wp y b)<|rc J J (aq2 x y l b)<|rc J J (Hr _ ?_)<|M J<|bX ?_
    .by_cases s:x=0
     .rw[s,Nat.gcd_zero_left];exact b
     .exact wV (Nat.gcd_le_left y Y) l
    .repeat(first|refine cY ?_|refine ma ?_|refine m0 ?_)
     refine fK J ?_;rw[<-hg]
   .refine aE<|bQ J J a J<|U J<|rt J<|fF<|a4 (y,x%y) ⟨d,i,g⟩ f aN
  .exact M J<|F J (λh3=>by cases h3)<|λ_=>(aE<|bQ J J a J<|U J<|rt J<|fF<|a4 (y,x%y) ⟨d,i,g⟩ f aN)
 .have h:Z (al y)=0:=by have:¬(Z (al y):V)>0:=fg;omega
  have s:y=0:=Wx λu=>by have:=rj.2 u;omega
  subst s;refine bs<|aS<|U J<|cv J ?_;rw[<-hg,PG]
def P' a b(d:Sm a)(f:Sm b):w O 96 [aZ a,aZ b] (aZ<|jl a b):=by refine aK Tryz.func96 ?_;refine U J<|R<|rc J J (arB _ _ d f)<|rc J J (sQ ah _)<|M J<|cv J ?_;rfl
def WU a b(f:Sm a)(g:Sm b):w O 209 [aZ a,aZ b] (aZ<|a-b):=by
 refine aK Tryz.func209 ?_;have d:Sm (-b):=by unfold Sm fo at g⊢;rwa[Qa]
 have e:=zN a (-b) f d;rw[<-WV]at e;exact U J<|R<|rc J J (Wm b)<|rc J J e<|M J<|cN J
def arC a(i:0<=a)(k:a<9223372036854775808):w O 250 [aZ a] (.t [(ah,[.I .i64 a]),(ah,[.B ae])]):=by
 refine aK Tryz.func250 ?_;have d:aC a<18446744073709551616:=Y;have l:=KX d;have f:cD a=ah:=by simp[cD];omega
 refine U J<|bI<|U J<|F J (λh=>?_)<|λ_=>aE ?_
 .exfalso;have h:(Z (fo a):V)>2:=fg;unfold fo at h;omega
 refine bQ J J (Wp (aC a) d) J<|bI<|R<|rg 15 J J (λh=>?_)<|λh=>?_
 .refine M J (F J (λb=>?_)<|λb=>?_)
  .have g: -9223372036854775808<=((aC a:G):V)/\((aC a:G):V)<=9223372036854775807:=by omega
   refine U J (bX<|cY<|fK J ?_) (hp:=g);exact bm (λx=>AV.t [(ah,[C.I .i64 x]),(ah,[C.B ae])]) Y
  .exfalso;have e:decide (((aC a:G):V)<9223372036854775808)=ae:=rA Y;rw[cond_true,e]at b;cases b
 .rw[f]at h;cases h
def qq.fs{P}{f}{args}{bt}{T}{xs}(cA:qq P f args bt T xs):w P f args (.c<|.S T xs):=by
 refine⟨cA.call,J,λH W vs y g F=>?_⟩;let ⟨e,G,I,⟨v,s,X,t,hle,x,i,l⟩,h2⟩:=cA.spec H W vs y g F;refine⟨e,G,I,?_,h2⟩;rcases t with⟨a,A⟩|⟨b,p,B,a,L,M,C,z,q,U,O⟩
 .subst A;refine⟨v,s,X,?_,hle,x,i,l⟩;have a:v= .slice none 0 0:=a;exact⟨none,0,a,au,au,.inl J⟩
 .have a:v= .slice (some ⟨b,0,none⟩) (Z xs) p:=a;have m:cL s (λd o=>if d=b then(if o<Z xs*T.n then B[o]? else none)else s d o):=by
   intro d o v g;by_cases e:d=b
   .subst e;have:s d o=none:=O o;rw[this]at g;cases g
   .simp[e,g]
  refine⟨v,λd o=>if d=b then(if o<Z xs*T.n then B[o]? else none)else s d o,X,?_,cL.trans hle m,?_,?_,l⟩
  .refine⟨some ⟨b,0,none⟩,p,a,C,z,?_⟩;by_cases A:xs=[]
   .exact .inl A
   .refine .inr ⟨b,0,J,λk r=>⟨(az (k*T.n) B).take T.n,dq.length T _ _<|q k r,dq.mono m T _ _<|q k r,λj R=>?_⟩⟩;have D:(k+1)*T.n<=p*T.n:=dS _ Y;have K:(k+1)*T.n<=Z xs*T.n:=dS _ Y;rw[gY,je]at D K;simp only[iC,Dg]at R;have N:k*T.n+j<Z xs*T.n:=Y;simp only[cz,fD,tD,vV,N];exact df Y
  .intro d o Q;have:d≠b:=Y;simp only[this,b8];exact x d o Q
  .intro d o u g;by_cases e:d=b
   .subst e;simp only[cz]at g;split at g
    .simp[World.cell?,L,g]
    .cases g
   .simp only[e,b8]at g;exact i d o u g
def afk{P}{n}{x d}{f}{Q}{g:Type}(b:g->St)(i:g->Prop)(a:∀m,i m->TR P n d (b m) Q)(k:(∀m,i m->gy n .normal (b m) (vY P d Q))->TR P n x f (vY P d Q)):TR P n (.seq x d) f Q:=
 h (k λm l=>aS<|a m l)
def kp{P}{n}{x d}{f}{Q}b(a:TR P n d b Q)(g:gy n .normal b (vY P d Q)->TR P n x f (vY P d Q)):TR P n (.seq x d) f Q:=
 h (g<|aS a)
def eD{n}{b}{d a}{Q}(f:gy n b a Q)(g:Wk d a):gy n b d Q:=Ga g f
end Go.El
