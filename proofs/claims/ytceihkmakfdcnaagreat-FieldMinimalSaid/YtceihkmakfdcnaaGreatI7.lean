/- Own work; no condition. -/
import Derived.Test.YtceihkmakfdcnaaGreatI6
import Derived.Test.YtceihkmakfdcnaaGreatI4
set_option linter.all false
set_option maxHeartbeats 16000000
set_option maxRecDepth 100000
open Bool renaming false->ak,true->af
open Decidable renaming byContradiction->VG
open Go.El renaming rr->e,cS->S,xe->F,iA->L,re->O,bA->h,cI->y,akB->R,rb->w
open Go.IntKind renaming wrap->ay,bits->dj,signed->J0
open Go.Proofs.Tryz renaming prog->r
open Int renaming toNat->ah,natAbs->aD,gcd->iR,neg_ediv_of_dvd->apo,lt_of_mul_lt_mul_right->apC,le_ediv_of_mul_le->apE,ediv_ediv_of_nonneg->apJ
open List renaming getD->I,take->c,length->Z,replicate->bt,drop->az
open Nat renaming gcd->o8
open _root_ renaming List->E,Int->V,Nat->G
namespace Go.El
open Go Go.Proofs Go.RowKit
structure J3(a b:E V)(m:G)(x:G×E V×V):Prop where
 i:x.1<=m
 len:x.2.1.length=m
 r:cc x.2.1
 z:∀d,x.1<=d->x.2.1.getD d 0=0
 c0:0<=x.2.2
 c1:x.2.2<=1
 v:val x.2.1-x.2.2*4294967296^x.1=val (a.take x.1)-val (b.take x.1)
def J3.next{a b}{m}{x}(d:J3 a b m x)(f:x.1<m)(g:cc a)(k:cc b):J3 a b m (x.1+1,x.2.1.set x.1<|(4294967296+I a x.1 0-I b x.1 0-x.2.2)%4294967296,1-(4294967296+I a x.1 0-I b x.1 0-x.2.2)/4294967296):=by
 have t:=dv g x.1;have u:=dv k x.1;have A:=d.c0;have B:=d.c1;refine⟨f,by simp[d.len],A8 d.r _ ⟨Y,Y⟩,?_,(by show 0<=1-_/_;omega),(by show 1-_/_<=1;omega),?_⟩
 .intro i l;simp only at l;rw[we _ _ _ _ (by rw[d.len];exact f),j Y];exact d.z i Y
 .simp only;rw[J1 _ _ _ (by rw[d.len];exact f) (d.z _<|aN _),lA,lA,gG];have n:=d.v;generalize (4294967296:V)^x.1=q at n⊢;generalize ht:4294967296+I a x.1 0-I b x.1 0-x.2.2=s;have p:s%4294967296+s/4294967296*4294967296=s:=Y;have:val x.2.1=val (c x.1 a)-val (c x.1 b)+x.2.2*q:=Y;rw[this];have e:s%4294967296*q+s/4294967296*(q*4294967296)=s*q:=by rw[show s/4294967296*(q*4294967296)=s/4294967296*4294967296*q by grind,<-o0,p]
  have C:s*q=4294967296*q+I a x.1 0*q-I b x.1 0*q-x.2.2*q:=by rw[<-ht];grind
  have D:(1-s/4294967296)*(q*4294967296)=4294967296*q-s/4294967296*(q*4294967296):=by grind
  omega
def apj a b(z:cc a)(p:cc b)(hl:Z b<=Z a)(D:val b<=val a)(la:Z a<=1099511627776):aq r 145 [S ao a,S ao b] (S ao<|R<|ah<|val a-val b):=by
 refine aS Tryz.func145 ?_;refine e J<|w ?_;refine rm ao (Z a) J J J J J J (nJ .u32) J ?_ ?_ ?_
 .show _*4<=_;omega
 .show _*1<=_;omega
 refine O J<|e J<|h<|e J ?_;generalize hM:Z a=M;refine aA<|bx (α:=G×E V×V) (λx=>⟨[(0,S ao a),(1,S ao b),(5,.c<|.X 1002000),(6,cU x.2.2),(7,y x.1)],[(1002000,.vec 142 ao x.2.1)],4,[]⟩) (J3 a b M) (λx=>M-x.1) (0,bt M 0,0) ?_ ?_ ?_
 .refine⟨bm _,ax,te M,?_,iD _,J2,Dm⟩;intro j _;simp only[aO,nc];split<;>rfl
 .exact wk (bP J) ⟨bR J,ll⟩
 .rintro⟨i,o,d⟩ f;have k:Z o=M:=f.len;have C:0<=d:=f.c0;have H:d<=1:=f.c1;have U:=dv z i;have gb:=dv p i;refine h<|e J ?_;refine F J (λg=>?_) (λg=>?_)
  .have g:i<M:=by simpa[hM]using g
   refine aG<|h<|aA<|w ?_;refine rc J J (Dk b i p)<|O J ?_;have K:ay .u64 (ay .u64 (ay .u64 (4294967296+ay .u64 (I a (ah (i:V)) 0))-I b i 0)-d)=4294967296+I a i 0-I b i 0-d:=by rw[cx,be (I a i 0) Y Y,be (4294967296+I a i 0) Y Y,be (4294967296+I a i 0-I b i 0) Y Y,be _ Y Y]
   simp only[K];generalize ht:4294967296+I a i 0-I b i 0-d=s;have N:ay .u32 (s.tmod 4294967296)=s%4294967296:=by rw[l7 Y,nO _ Y Y]
   have P:ay .u64 (1-ay .u64 (s.tdiv 4294967296))=1-s/4294967296:=by rw[wc Y,be (s/4294967296) Y Y,be _ Y Y]
   have A:=f.next g z p;simp only[ht]at A;refine e J<|rt J<|bU<|rt J<|a6 (i+1,o.set i<|s%4294967296,1-s/4294967296) A yY<|wk ⟨sR J,sR J,sR J,sE J ?_,sE J ?_,ll⟩ ⟨bE J ?_,ll⟩
   .exact bY P
   .rfl
   .rw[N,cx]
  .have g:¬i<M:=by simpa[hM]using g
   have Q:i=M:=by have:=f.i;simp only at this;omega
   refine bD<|aR<|dm 1002000 J J J<|w ?_;refine rc J J (A9 _)<|O J<|cd J ?_;have l:=f.v;simp only at l;have t:cc o:=f.r;have u:=ov t;have T:=nb t;have m:val (c i a)=val a:=nM a i Y;have n:val (c i b)=val b:=nM b i Y;have B:=kS M;rw[k]at u;have W:d=0:=by
    rw[m,n,Q]at l;rcases Int.lt_or_le d 1 with q|L
    .omega
    .have:d=1:=by omega
     subst this;omega
   rw[qF t];subst W;rw[m,n]at l;simp only[ox,Dp]at l;rw[l]
structure Vu(a b:E V)(x:G×E V):Prop where
 i:x.1<=a.length
 len:x.2.length=a.length+b.length
 r:cc x.2
 z:∀d,x.1+b.length<=d->x.2.getD d 0=0
 v:val x.2=val (a.take x.1)*val b
structure Dq(a b:E V)(i:G)(x:G×E V×V):Prop where
 k:x.1<=b.length
 len:x.2.1.length=a.length+b.length
 r:cc x.2.1
 z:∀d,i+b.length<=d->x.2.1.getD d 0=0
 c0:0<=x.2.2
 c1:x.2.2<4294967296
 v:val x.2.1+x.2.2*4294967296^(i+x.1)=val (a.take i)*val b+a.getD i 0*val (b.take x.1)*4294967296^i
def J4{x a:V}(f:0<=x)(b:x<=4294967295)(d:0<=a)(g:a<=4294967295):0<=x*a/\x*a<=18446744065119617025:=by refine⟨ku f d,?_⟩;have i:x*a<=4294967295*a:=iE b d;omega
def Dq.next{a b}{i}{x}(d:Dq a b i x)(H:i<Z a)(l:x.1<Z b)(m:cc a)(n:cc b):Dq a b i (x.1+1,x.2.1.set (i+x.1)<|(I a i 0*I b x.1 0+I x.2.1 (i+x.1) 0+x.2.2)%4294967296,(I a i 0*I b x.1 0+I x.2.1 (i+x.1) 0+x.2.2)/4294967296):=by
 have k:=dv m i;have p:=dv n x.1;have K:=d.c0;have N:=d.c1;have P:=dv d.r<|i+x.1;have Q:=J4 k.1 Y p.1 Y;have f:i+x.1<Z x.2.1:=by rw[d.len];omega
 refine⟨l,by simp[d.len],A8 d.r _ ⟨Y,Y⟩,?_,(by show 0<=_/_;omega),(by show _/_<(4294967296:V);omega),?_⟩
 .intro t u;simp only;rw[we _ _ _ _ f,j Y];exact d.z t u
 .simp only;rw[Vq _ _ _ f,lA,<-sJ,gG];have A:=d.v;have g:(4294967296:V)^(i+x.1)=4294967296^i*4294967296^x.1:=Int.pow_add ..;generalize hq:(4294967296:V)^(i+x.1)=q at A g⊢;generalize ht:I a i 0*I b x.1 0+I x.2.1 (i+x.1) 0+x.2.2=s;have B:s%4294967296+s/4294967296*4294967296=s:=Y;have e:s%4294967296*q+s/4294967296*(q*4294967296)=s*q:=by rw[show s/4294967296*(q*4294967296)=s/4294967296*4294967296*q by grind,<-o0,B]
  have T:s*q=I a i 0*I b x.1 0*q+I x.2.1 (i+x.1) 0*q+x.2.2*q:=by rw[<-ht];grind
  have C:(s%4294967296-I x.2.1 (i+x.1) 0)*q=s%4294967296*q-I x.2.1 (i+x.1) 0*q:=by grind
  have D:I a i 0*(val (c x.1 b)+I b x.1 0*4294967296^x.1)*4294967296^i=I a i 0*val (c x.1 b)*4294967296^i+I a i 0*I b x.1 0*q:=by rw[g];grind
  rw[C,D];omega
def Dq.done{a b}{i}{g}{l}(d:Dq a b i (Z b,g,l))(m:i<Z a):Vu a b (i+1,g.set (i+Z b) l):=by
 have f:Z g=Z a+Z b:=d.len;have n:=d.c0;have p:=d.c1;have s:I g (i+Z b) 0=0:=d.z _<|aN _;refine⟨m,by simp[f],A8 d.r _ ⟨n,p⟩,?_,?_⟩
 .intro t u;simp only at u⊢;rw[we _ _ _ _ Y,j Y];exact d.z t Y
 .simp only;rw[J1 _ _ _ Y s,lA];have k:=d.v;simp only[ik]at k;rw[k];grind
def apk a b(B:cc a)(D:cc b)(la:Z a<=1099511627776)(lb:Z b<=1099511627776):aq r 146 [S ao a,S ao b] (S ao<|R<|ah<|val a*val b):=by
 refine aS Tryz.func146 ?_;refine e J<|w ?_;refine rm ao (Z a+Z b) J J J J J J (nJ .u32) J ?_ ?_ ?_
 .show _*4<=_;omega
 .show _*1<=_;omega
 refine O J<|h<|e J ?_;refine aA<|bx (α:=G×E V) (λx=>⟨[(0,S ao a),(1,S ao b),(5,.c<|.X 1005000),(6,y x.1)],[(1005000,.vec 142 ao x.2)],3,[]⟩) (Vu a b) (λx=>Z a-x.1) (0,bt (Z a+Z b) 0) ?_ ?_ ?_
 .refine⟨bm _,ax,te _,?_,Dm⟩;intro j _;simp only[aO,nc];split<;>rfl
 .exact wk (bP J) ⟨bR J,M⟩
 .rintro⟨i,o⟩ g;have f:Z o=Z a+Z b:=g.len;refine h<|e J ?_;refine F J (λl=>?_) (λl=>?_)
  .have l:i<Z a:=by simpa using l
   refine aG<|h<|aA<|e J<|h<|e J ?_;refine aA<|bx (α:=G×E V×V) (λx=>⟨[(0,S ao a),(1,S ao b),(5,.c<|.X 1005000),(6,y i),(7,cU x.2.2),(8,y x.1)],[(1005000,.vec 142 ao x.2.1)],6,[]⟩) (Dq a b i) (λx=>Z b-x.1) (0,o,0) ?_ ?_ ?_
   .refine⟨bm _,f,g.r,g.z,iD _,(by show(0:V)<_;decide),?_⟩;have:=g.v;simp only at this;simp[this,val]
   .exact wk (bP J) ⟨bR J,M⟩
   .rintro⟨k,o,c⟩ m;have f:Z o=Z a+Z b:=m.len;have p:0<=c:=m.c0;have t:c<4294967296:=m.c1;refine h<|e J ?_;refine F J (λn=>?_) (λn=>?_)
    .have n:k<Z b:=by simpa using n
     have K:=dv B i;have N:=dv D k;have P:=dv m.r<|i+k;simp only at P;have L:=J4 K.1 Y N.1 Y;refine aG<|h<|aA<|e J ?_ (hp:=lB);have d:ah ((i:V)+(k:V))=i+k:=Y;have C:ay .u64 (ay .u64 (ay .u64 (ay .u64 (I a (ah (i:V)) 0)*ay .u64 (I b (ah (k:V)) 0))+ay .u64 (I o (ah<|(i:V)+(k:V)) 0))+c)=I a i 0*I b k 0+I o (i+k) 0+c:=by rw[d,cx,cx,be (I a i 0) Y Y,be (I b k 0) Y Y,be (I o (i+k) 0) Y Y,be (I a i 0*I b k 0) Y Y,be (I a i 0*I b k 0+I o (i+k) 0) Y Y,be _ Y Y]
     have u:=m.next l n B D;simp only at u;generalize ht:I a i 0*I b k 0+I o (i+k) 0+c=s at u C;have A:ay .u32 (s.tmod 4294967296)=s%4294967296:=by rw[l7 Y,nO _ Y Y]
     have Q:ay .u64 (s.tdiv 4294967296)=s/4294967296:=by rw[wc Y,be _ Y Y]
     refine fg (st':=⟨[(0,S ao a),(1,S ao b),(5,.c<|.X 1005000),(6,y i),(8,y k),(9,cU s)],[(1005000,.vec 142 ao o)],8,[]⟩) (wk ⟨sR J,sR J,sR J,sR J,sR J,sE J ?_,M⟩ ⟨bR J,M⟩) ?_
     .exact bY C
     refine e J<|rt J<|bU<|rt J<|a6 (k+1,o.set (i+k)<|s%4294967296,s/4294967296) u (Y:Z b-(k+1)<Z b-k)<|wk ⟨sR J,sR J,sR J,sR J,sE J ?_,sE J ?_,M⟩ ⟨bE J ?_,M⟩
     .exact bY Q
     .rfl
     .rw[A,d]
    .have n:¬k<Z b:=by simpa using n
     have T:k=Z b:=by have:=m.k;simp only at this;omega
     subst T;have W:=m.done l;have d:ah ((i:V)+(Z b:V))=i+Z b:=Y;have A:ay .u32 c=c:=nO c p t;refine bD<|aR<|rt J<|bU<|rt J<|a6 (i+1,o.set (i+Z b) c) W r6<|wk ⟨sR J,sR J,sR J,sE J ?_,M⟩ ⟨bE J ?_,M⟩
     .rfl
     .rw[A,d]
  .have l:¬i<Z a:=by simpa using l
   have q:i=Z a:=by have:=g.i;simp only at this;omega
   subst q;refine bD<|aR<|dm 1005000 J J J<|w ?_;refine rc J J (A9 _)<|O J<|cd J ?_;have H:=g.v;simp only[ik]at H;rw[qF g.r];simp only[H]
def Sm(z:V):Prop:=Z (eX z)<=1099511627776
def sg(neg:Bool)(m:G):V:=if neg then-(m:V)else m
def A' z:sg (cv z) (aD z)=z:=by
 unfold sg cv;by_cases h:z<0
 .simp[h];omega
 .simp[h];omega
def qJ{m}:0<Z (R m)↔m≠0:=by
 constructor
 .intro h e;subst e;simp[GA]at h
 .intro h;rw[yX h];simp
def mkZ neg m:(AV.a [.B (neg&&decide (0<Z (R m))),.S ao<|R m])=aZ (sg neg m):=by
 have b:cv (sg neg m)=(neg&&decide (0<Z (R m))):=by
  unfold cv sg;cases neg with
  |false=>simp
  |true=>
   simp only[cr,Bool.true_and]
   rw[Bool.eq_iff_iff]
   simp only[mV]
   rw[qJ];omega
 have d:aD (sg neg m)=m:=by unfold sg;cases neg<;>simp
 unfold aZ;simp only[av,eX,b,d]
def r7 neg m:aq r 135 [cB neg,S ao<|R m] (aZ<|sg neg m):=by have:=apg neg<|R m;rw[Vs,mkZ]at this;exact this
def jO n(g: -9223372036854775808<=n)(i:n<=9223372036854775807):aq r 84 [y n] (aZ n):=by
 refine aS Tryz.func84 ?_;refine e J<|h<|e J ?_;refine F J (λa=>?_)<|λa=>?_
 .have a:n<0:=by simpa using a
  have b:ay .u64 (ay .u64 (0-(n+1))+1)=(ah (-n):G):=by rw[be (0-(n+1)) Y Y,be _ Y Y];omega
  refine w ?_;refine rc J J (f:=136) (r:=S ao<|R<|ah<| -n) (by rw[b];exact GB _ Y) ?_;refine rc J J (r7 af _)<|O J<|bX<|da<|fO J ?_;have d:sg af (ah<| -n)=n:=by unfold sg;simp;omega
  rw[d];rfl
 .have a:¬n<0:=by simpa using a
  have b:ay .u64 n=(ah n:G):=by rw[be _ Y Y];omega
  refine aG<|w ?_;refine rc J J (f:=136) (r:=S ao<|R<|ah n) (by rw[show(AV.c (num .u64 n).1)=cU ((ah n:G):V)from bY b];exact GB _ Y) ?_;refine rc J J (r7 ak _)<|O J<|cd J ?_;have d:sg ak (ah n)=n:=by unfold sg;simp;omega
  rw[d];rfl
def fU(a:V):V:=if a<0 then-1 else if a=0 then 0 else 1
def Dr a:aq r 94 [aZ a] (y<|fU a):=by
 refine aS Tryz.func94 ?_;refine e J<|h<|e J ?_;refine F J (λb=>?_)<|λb=>?_
 .have b:a<0:=by simpa[cv]using b
  refine e J<|bX<|da<|fO J ?_;rw[fU,q b];rfl
 .have b:¬a<0:=by simpa[cv]using b
  refine aG<|e J<|cd J ?_;have f:(if af=ak then(0:V)else if(1:V)<Z (eX a)then 1 else Z (eX a))=fU a:=by
   rw[j o,fU,j b];by_cases d:a=0
   .subst d;rfl
   .have:0<Z (eX a):=qJ.2 Y;rw[j d];split<;>omega
  exact jC f
def Vv a:aq r 97 [aZ a] (aZ<| -a):=by
 refine aS Tryz.func97 ?_;refine e J<|w ?_;refine rc J J (r7 (!cv a)<|aD a)<|O J<|cd J ?_;have b:sg (!cv a) (aD a)= -a:=by
  unfold sg cv;by_cases h:a<0
  .simp[h];omega
  .simp[h];omega
 rw[b];rfl
def J5 m k:aq r 144 [S ao (R m),S ao<|R k] (y<|eE m k):=by have:=aph (R m) (R k) (eO m) (eO k) (xH m)<|xH k;rw[fa,fa]at this;exact this
def OS a b:aq r 95 [aZ a,aZ b] (y<|eE a b):=by
 refine aS Tryz.func95 ?_;refine e J<|h<|w ?_;refine rg 7 J J (λk=>?_)<|λk=>?_
 .have g:a<0:=by simpa[cv]using k
  refine O J<|F J (λf=>?_)<|λf=>?_
  .have l:¬b<0:=by simpa[cv]using f
   refine e J<|bX<|da<|fO J ?_;rw[eE,q Y];rfl
  .have l:b<0:=by simpa[cv]using f
   refine aG<|h<|w ?_;refine rg 15 J J (λi=>?_)<|λi=>?_
   .simp[cv,g]at i
   .refine O J<|F J (λd=>by simp at d)<|λ_=>?_;refine aG<|h<|e J ?_;refine F J (λd=>?_) (λd=>?_)
    .refine bL J J (J5 _ _) J<|bX<|da<|fO J ?_;have m:eE (aD b) (aD a)=eE a b:=by unfold eE;split<;>split<;>(try split)<;>omega
     exact jC m
    .simp[cv,g]at d
 .have g:¬a<0:=by simpa[cv]using k
  refine O J<|F J (λf=>by simp at f)<|λf=>?_;refine aG<|h<|w ?_;refine rg 15 J J (λi=>?_)<|λi=>?_
  .refine O J (F J (λd=>?_)<|λd=>?_)
   .have l:b<0:=by simpa[cv]using d
    refine e J<|bX<|da<|fO J ?_;rw[eE,j Y,q Y];rfl
   .have l:¬b<0:=by simpa[cv]using d
    refine aG<|h<|e J ?_;refine F J (λd=>?_)<|λd=>?_
    .simp[cv,g]at d
    .refine aG<|bL J J (J5 _ _) J<|cd J ?_;have m:eE (aD a) (aD b)=eE a b:=by unfold eE;split<;>split<;>(try split)<;>omega
     exact jC m
  .simp[cv,g]at i
def adB m k(a:Z (R m)<=1099511627776)(b:Z (R k)<=1099511627776):aq r 143 [S ao (R m),S ao<|R k] (S ao<|R<|m+k):=by have:=api (R m) (R k) (eO m) (eO k) a b;rw[fa,fa,(Y:ah ((m:V)+(k:V))=m+k)]at this;exact this
def uE{m k}(a:m<=k):Z (R m)<=Z (R k):=Dj (by have:=wa (n:=k);omega)
def Vw m k(a:k<=m)(b:Z (R m)<=1099511627776):aq r 145 [S ao (R m),S ao<|R k] (S ao<|R<|m-k):=by have:=apj (R m) (R k) (eO m) (eO k) (uE a) (by rw[fa,fa];omega) b;rw[fa,fa,(Y:ah ((m:V)-(k:V))=m-k)]at this;exact this
def Vx m k(a:Z (R m)<=1099511627776)(b:Z (R k)<=1099511627776):aq r 146 [S ao (R m),S ao<|R k] (S ao<|R<|m*k):=by have:=apk (R m) (R k) (eO m) (eO k) a b;rw[fa,fa,show ah ((m:V)*(k:V))=m*k by rw[<-fP];rfl]at this;exact this
def mb a b(k:Sm a)(l:Sm b):aq r 91 [aZ a,aZ b] (aZ<|a*b):=by
 refine Fl Tryz.func91 J J J J J o ?_;refine e J<|w ?_;refine rc J J (Vx _ _ k l)<|rc J J (r7 _ _)<|O J<|bX<|iZ cp J<|bq.of_eq ?_;have m:sg (cv a !=cv b) (aD a*aD b)=a*b:=by have d:=A' a;have f:=A' b;generalize aD a=x at d⊢;generalize aD b=y at f⊢;cases g:cv a<;>cases i:cv b<;>rw[g]at d<;>rw[i]at f<;>simp only[sg,cr,bV,jh]at d f<;>rw[<-d,<-f]<;>simp[sg]<;>grind
 exact bl aZ m
def yZ a b(k:Sm a)(l:Sm b):aq r 90 [aZ a,aZ b] (aZ<|a+b):=by
 refine aS Tryz.func90 ?_;refine e J<|h<|e J ?_;refine F J (λd=>?_)<|λd=>?_
 .have d:cv a=cv b:=by simpa using d
  refine w<|rc J J (adB _ _ k l)<|rc J J (r7 _ _)<|O J<|bX<|da<|fO J ?_;have f:sg (cv a) (aD a+aD b)=a+b:=by unfold cv sg at*;by_cases g:a<0<;>by_cases h2:b<0<;>simp[g,h2]at d⊢<;>omega
  exact bl aZ f
 .have d:cv a≠cv b:=by simpa using d
  refine aG<|h<|bL J J (J5 _ _) J ?_;refine F J (λh2=>?_)<|λh2=>?_
  .have h2:aD a<aD b:=by
    have h2:eE (aD a) (aD b)<0:=rK;unfold eE at h2;split at h2
    .omega
    .split at h2<;>omega
   refine w<|rc J J (Vw _ _ Y l)<|rc J J (r7 _ _)<|O J<|bX<|da<|fO J ?_;have f:sg (cv b) (aD b-aD a)=a+b:=by unfold cv sg at*;by_cases g:a<0<;>by_cases i:b<0<;>simp[g,i]at d⊢<;>omega
   exact bl aZ f
  .have h2:aD b<=aD a:=by
    have h2:¬eE (aD a) (aD b)<0:=rK;unfold eE at h2;split at h2
    .omega
    .omega
   refine aG<|w<|rc J J (Vw _ _ Y k)<|rc J J (r7 _ _)<|O J<|cd J ?_;have f:sg (cv a) (aD a-aD b)=a+b:=by unfold cv sg at*;by_cases g:a<0<;>by_cases i:b<0<;>simp[g,i]at d⊢<;>omega
   exact bl aZ f
def apl(m k:G)(b:m<18446744073709551616)(d:k<18446744073709551616):aq r 184 [cU m,cU k] (cU<|o8 m k):=by
 refine aS Tryz.func184 ?_;refine e J<|bA<|aA<|bx (α:=G×G) (λx=>⟨[(0,cU x.1),(1,cU x.2)],[],1,[]⟩) (λx=>o8 x.1 x.2=o8 m k/\x.1<18446744073709551616/\x.2<18446744073709551616) (λx=>x.2) (m,k) ⟨J,b,d⟩ aY ?_;rintro⟨x,y⟩ ⟨hg,hx,a⟩;simp only at hg hx a;refine bA<|e J ?_;refine F J (λh=>?_)<|λh=>?_
 .have h:0<y:=by have:(y:V)>0:=eQ;omega
  refine aG<|aA<|e J<|e J<|rt J<|fT<|a6 (y,x%y) ⟨?_,a,?_⟩ ?_<|wk ⟨sR J,sE J ?_,M⟩ M
  .rw[<-hg,Ba x y,Nat.gcd_rec y x,Ba]
  .exact fY (gJ _ h)<|Di a
  .exact gJ _ h
  .have f:(x:V).tmod (y:V)=((x%y:G):V):=by rw[l7 Y];omega
   exact bY f
 .have h:y=0:=by have:¬(y:V)>0:=eQ;omega
  subst h;refine bD<|aR<|e J<|cd J ?_;rw[<-hg,OT]
def adC m:I (R m) 0 0=((m%4294967296:G):V):=by
 by_cases h:m=0
 .subst h;rfl
 .rw[yX h];rfl
def apm m(a:m<18446744073709551616):I (R m) 1 0=((m/4294967296:G):V):=by
 by_cases h:m=0
 .subst h;rfl
 .rw[yX h,Vr,adC];congr 1;omega
def Vy m(a:m<18446744073709551616):aq r 185 [S ao (R m)] (cU m):=by
 refine aS Tryz.func185 ?_;refine e J<|w ?_;refine rc J J (Dk _ 1<|eO m)<|rc J J (Dk _ 0<|eO m)<|O J<|cd J ?_;have b:ay .u64 (ay .u64 (I (R m) 1 0*4294967296)+I (R m) 0 0)=m:=by rw[adC,apm m a,be (((m/4294967296:G):V)*4294967296) Y Y,be _ Y Y];omega
 exact bY b
def J6{m}(a:m<18446744073709551616):Z (R m)<=2:=Dj (Y:(m:V)<4294967296^2)
structure GD(a:E V)(d:V)(x:G×E V×V):Prop where
 k:x.1<=a.length
 len:x.2.1.length=a.length
 r:cc x.2.1
 r0:0<=x.2.2
 r1:x.2.2<d
 v:val (a.drop x.1)=val (x.2.1.drop x.1)*d+x.2.2
def drop_cons(l:E V) a(b:a<Z l):az a l=I l a 0::az (a+1) l:=by rw[rZ b];simp[aO,cT b]
def OU{b a d:V}(g:0<=b)(i:b<d)(k:0<=a)(l:a<4294967296)(m:d<4294967296):0<=b*4294967296+a/\b*4294967296+a<18446744073709551616/\0<=(b*4294967296+a)/d/\(b*4294967296+a)/d<4294967296/\0<=(b*4294967296+a)%d/\(b*4294967296+a)%d<d:=by have f:0<d:=Y;refine⟨Y,Y,Bb Y Y,?_,jq _ Y,jr _ f⟩;apply GF f;have:(b+1)*4294967296<=d*4294967296:=iE Y o;omega
def GD.next{a}{d}{b}{l}{f}(i:GD a d (b+1,l,f))(n:cc a)(p:d<4294967296):GD a d (b,l.set b<|(f*4294967296+I a b 0)/d,(f*4294967296+I a b 0)%d):=by have g:=dv n b;have s:0<=f:=i.r0;have t:f<d:=i.r1;have m:=OU s t g.1 g.2 p;have A:b+1<=Z a:=i.k;have u:Z l=Z a:=i.len;refine⟨by show b<=_;omega,by simp[u],A8 i.r _ ⟨m.2.2.1,m.2.2.2.1⟩,m.2.2.2.2.1,m.2.2.2.2.2,?_⟩;have z:val (az (b+1) a)=val (az (b+1) l)*d+f:=i.v;simp only;rw[drop_cons a b Y,drop_cons (l.set b _) b b6,we _ _ _ _ Y,q J,List.drop_set_of_lt Y];simp only[val];rw[z];have:=o9 (f*4294967296+I a b 0) d;generalize (f*4294967296+I a b 0)/d=x at*;generalize (f*4294967296+I a b 0)%d=y at*;grind
def adD a d(p:cc a)(l:0<d)(u:d<4294967296)(T:Z a<=1099511627776):aq r 217 [S ao a,cU d] (.t [(ak,[.S ao (R<|ah<|val a/d)]),(ak,[.I .u64 (val a%d)])]):=by
 refine aS Tryz.func217 ?_;refine e J<|w ?_;refine rm ao (Z a) J J J J J J (nJ .u32) J ?_ ?_ ?_
 .show _*4<=_;omega
 .show _*1<=_;omega
 refine O J<|e J<|h<|e J ?_;refine aA<|bx (α:=G×E V×V) (λx=>⟨[(0,S ao a),(1,cU d),(6,.c<|.X 1002000),(7,cU x.2.2),(8,y<|(x.1:V)-1)],[(1002000,.vec 142 ao x.2.1)],4,[]⟩) (GD a d) (λx=>x.1) (Z a,bt (Z a) 0,0) ?_ ?_ ?_
 .exact⟨aN _,ax,te _,iD _,l,y4⟩
 .exact wk (bP J) ⟨bR J,M⟩
 .rintro⟨k,q,b⟩ f;have z:Z q=Z a:=f.len;have m:0<=b:=f.r0;have n:b<d:=f.r1;have W:k<=Z a:=f.k;refine h<|e J ?_;refine F J (λi=>?_) (λi=>?_)
  .have i:(k:V)-1>=0:=by simpa using i
   obtain⟨j,rfl⟩:∃j,k=j+1:=⟨k-1,Y⟩;have A:ah (((j+1:G):V)-1)=j:=Y;have g:=dv p j;have H:=OU m n g.1 g.2 u;have B:=f.next p u;refine aG<|h<|aA<|e J ?_;have C:ay .u64 (ay .u64 (b*4294967296)+ay .u64 (I a (ah<|((j+1:G):V)-1) 0))=b*4294967296+I a j 0:=by rw[A,be (b*4294967296) Y Y,be (I a j 0) Y Y,be _ Y Y]
   generalize ht:b*4294967296+I a j 0=s at B H C;have K:ay .u32 (ay .u64<|s.tdiv d)=s/d:=by rw[wc Y,be _ Y Y,nO _ Y Y]
   have N:s.tmod d=s%d:=l7 Y;refine fg (st':=⟨[(0,S ao a),(1,cU d),(6,.c<|.X 1002000),(8,y<|((j+1:G):V)-1),(9,cU s)],[(1002000,.vec 142 ao q)],6,[]⟩) (wk ⟨sR J,sR J,sR J,sR J,sE J ?_,M⟩ ⟨bR J,M⟩) ?_
   .exact bY C
   refine e J<|rt J<|bU<|rt J<|a6 (j,q.set j<|s/d,s%d) B uD<|wk ⟨sR J,sR J,sR J,sE J ?_,sE J ?_,M⟩ ⟨bE J ?_,M⟩
   .exact bY N
   .refine jC ?_;show((j+1:G):V)-1-1=(j:V)-1;omega
   .rw[K,A]
  .have i:¬((k:V)-1>=0):=by simpa using i
   have:k=0:=Y;subst this;refine bD<|aR<|dm 1002000 J J J<|w ?_;refine rc J J (A9 _)<|O J<|cd J ?_;have D:val a=val q*d+b:=f.v;have P:cc q:=f.r;have eq:val a/d=val q:=by rw[D,xJ,Ds _ _ Y,GG m n];omega
   have Q:val a%d=b:=by rw[D,xJ,Vz,ix m n]
   rw[qF P,eq,Q];rfl
def bq.t2{x f i}(b:bq (.c x) (.c f)):bq (.t [(ak,[x]),(ak,[i])]) (.t [(ak,[f]),(ak,[i])]):=by
 refine⟨?_,?_⟩
 .rintro g v ⟨vs,rfl,v1,r,rfl,k,d⟩;exact⟨_,J,v1,r,J,b.1 g v1 k,d⟩
 .intro l a;have d:=b.2 l;simp only[AV.al,dX,b8,iO,bg]at a d⊢;exact a.elim (λb=> .inl<|d b) .inr
def apn m k(a:k≠0)(d:m<k\/k<4294967296)(g:Z (R m)<=1099511627776):aq r 186 [S ao (R m),S ao<|R k] (.t [(ak,[.S ao (R<|m/k)]),(ak,[.S ao (R<|m%k)])]):=by
 refine aS Tryz.func186 ?_;refine e J<|h<|bL J J (J5 m k) J ?_;refine F J (λh2=>?_)<|λh2=>?_
 .have h2:m<k:=by
   have h2:eE m k<0:=rK;unfold eE at h2;split at h2
   .omega
   .split at h2<;>omega
  refine e J<|bX<|da<|iZ cp J ?_;rw[Dt h2,qK h2];exact bq.t2<|bq.nil ao
 .have h2:¬m<k:=by have h2:¬eE m k<0:=rK;unfold eE at h2;split at h2<;>omega
  have i:k<4294967296:=d.resolve_left h2;have l:R k=[(k:V)]:=by rw[yX a,(Y:k%4294967296=k),(Y:k/4294967296=0)];rfl
  refine aG<|h<|e J ?_;rw[l];refine F J (λb=>?_) (λb=>by simp at b);refine w ?_;have n:ay .u64 (k:V)=k:=be _ Y Y;refine rc J J (f:=217) (r:= .t [(ak,[.S ao (R<|m/k)]),(ak,[.I .u64 ((m%k:G):V)])]) ?_ ?_
  .have:=adD (R m) k (eO m) Y Y g;rw[fa,show ah ((m:V)/(k:V))=m/k from J,show(m:V)%(k:V)=((m%k:G):V)from J]at this;rw[show(AV.c (num .u64<|[(k:V)].getD (ah (0:V)) 0).1)=cU (k:V)from bY n];exact this
  refine O J<|bL J J (GB _ ?_) J<|bX<|da<|atR J;have:=gJ m<|pT a;omega
def VA a B(b:0<B):(aD a:V)=((aD a%B:G):V)+(B:V)*((aD a/B:G):V)/\aD a%B<B:=by refine⟨?_,gJ _ b⟩;have:=Nat.mod_add_div (aD a) B;rw[<-fP,<-y5,this]
def adF{a}{B:G}(b:0<B)(d:¬a<0):a/(B:V)=((aD a/B:G):V)/\a%(B:V)=((aD a%B:G):V):=by let ⟨f,h2⟩:=VA a B b;exact(VB Y).2 ⟨Y,Y,Y⟩
def adG{a}{B}(b:0<B)(g:a<0)(d:aD a%B=0):a/(B:V)= -((aD a/B:G):V)/\a%(B:V)=0:=by let ⟨f,h2⟩:=VA a B b;refine(VB Y).2 ⟨?_,Y,Y⟩;rw[d]at f;rw[Int.mul_neg];omega
def adH{a}{B}(b:0<B)(d:a<0)(f:aD a%B≠0):a/(B:V)= -((aD a/B+1:G):V)/\a%(B:V)=((B-aD a%B:G):V):=by let ⟨g,h2⟩:=VA a B b;refine(VB Y).2 ⟨?_,Y,Y⟩;rw[Int.mul_neg,y5,pU];omega
def GH a b(i k:G)(d:a/(aD b:V)=sg (cv a) i)(f:a%(aD b:V)=k):a/b=sg (cv a !=cv b) i/\a%b=sg ak k:=by
 by_cases l:b<0
 .have e:b= -(aD b:V):=by omega
  have g:cv b=af:=by simp[cv,l]
  rw[e,Du,Int.emod_neg,<-e,d,f,g];refine⟨?_,J⟩;unfold sg;cases cv a<;>simp
 .have e:b=(aD b:V):=by omega
  have g:cv b=ak:=by simp[cv,l]
  rw[<-e]at d f;rw[d,f,g];refine⟨?_,J⟩;cases cv a<;>rfl
def Sm.of{z}(a:aD z<18446744073709551616):Sm z:=bZ (J6 a) o
def y6 n(a: -9223372036854775808<=n)(b:n<=9223372036854775807):aq r 30 [y n] (aQ (n:Rat)):=by refine aS Tryz.func30 ?_;refine e J<|w<|rc J J (jO n a b)<|rc J J (jO 1 o o)<|O J<|cd J ?_;rfl
def VC a:aq r 40 [aQ a] (y<|fU a.num):=by refine aS Tryz.func40 ?_;refine e J<|bL J J (Dr a.num) J<|di J
def OV n d(f:d≠0):(Rat.divInt n d).num=n/(if d<0 then-((iR n d:G):V)else((iR n d:G):V))/\((Rat.divInt n d).den:V)=d/(if d<0 then-((iR n d:G):V)else((iR n d:G):V)):=by
 have b:((iR n d:G):V)∣n:=Int.gcd_dvd_left ..;have a:((iR n d:G):V)∣d:=VD ..;have g:iR n d≠0:=by intro i;have:=(VE.1 i).2;exact f this
 rw[Rat.num_divInt,Rat.den_divInt,j f,Int.gcd_comm d n];by_cases h:d<0
 .rw[q h,Int.sign_eq_neg_one_of_neg h,Du,Du];refine⟨?_,?_⟩
  .rw[Int.neg_mul,mc,apo b]
  .rw[y7,(Y:((aD d:G):V)= -d),apo a]
 .rw[j h,Int.sign_eq_one_of_pos Y,mc];refine⟨J,?_⟩;rw[y7,(Y:((aD d:G):V)=d)]
def J7(a:E V)(i:G):aq r 256 [S .z a,y i] (aZ<|I a i 0):=by
 refine aS Tryz.func256 ?_;refine e J<|h<|e J ?_;refine F J (λb=>?_)<|λb=>?_
 .have b:i<Z a:=by simpa using b
  refine e J<|bX<|da<|fO J ?_;rfl
 .have b:¬i<Z a:=by simpa using b
  refine aG<|bL J J (jO 0 o o) J<|cd J ?_;have d:I a i 0=0:=by simp[aO,jB<|yW b]
  rw[d];rfl
def adI{a}:fU a=0↔a=0:=by
 unfold fU;split
 .omega
 .split<;>omega
def OW(a:E V):aq r 255 [S .z a] (S .z<|aU a):=by
 refine aS Tryz.func255<|xj 0 J λg=>?_;have g:Z a*2<=140737488355328:=g;refine e J<|bA<|aA<|bx (α:=G) (λk=>⟨[(0,S .z<|c k a)],[],1,[]⟩) (λk=>k<=Z a/\gR a k=gR a (Z a)) (λk=>k) (Z a) ⟨aN _,J⟩ (wk ⟨⟨_,J,bq.of_eq<|by rw[ik]⟩,M⟩ M) ?_;rintro k ⟨l,b⟩;have d:(c k a).length=k:=b6;refine bA<|w ?_;refine rg 6 J J (λh=>?_)<|λh=>?_
 .have h:0<k:=by have h:(((c k a).length:G):V)>0:=eQ;rw[d]at h;omega
  obtain⟨j,rfl⟩:∃j,k=j+1:=⟨k-1,Y⟩;have f:ah (((c (j+1) a).length:V)-1)=j:=by rw[d];omega
  have ev:(c (j+1) a).getD j 0=I a j 0:=by rw[aO,Iw Y,<-aO]
  refine mD J J J J J (Dr<|(c (j+1) a).getD (ah<|((c (j+1) a).length:V)-1) 0) (O J ?_) (hp:=lB);refine F J (λh2=>?_)<|λh2=>?_
  .have h2:I a j 0=0:=by have h2:fU ((c (j+1) a).getD (ah<|((c (j+1) a).length:V)-1) 0)=0:=rK;rw[f,ev]at h2;exact adI.1 h2
   refine aG<|aA<|rt J (fT<|a6 j ⟨Y,?_⟩ uD<|wk ⟨sE J ?_,M⟩ M) (hp:=lB)
   .rw[<-b,gR,q h2]
   .rw[f];simp only[qx,List.take_take];rw[uk Y]
  .have h2:I a j 0≠0:=by have h2:¬fU ((c (j+1) a).getD (ah<|((c (j+1) a).length:V)-1) 0)=0:=rK;rw[f,ev]at h2;exact λi=>h2 (adI.2 i)
   refine bD<|aR<|e J<|cd J ?_;unfold aU;rw[<-b,gR,ma h2]
 .have h:k=0:=by have h:¬(((c k a).length:G):V)>0:=eQ;rw[d]at h;omega
  subst h;refine O J<|F J (λh2=>by simp at h2)<|λ_=>?_;refine bD<|aR<|e J<|cd J ?_;unfold aU;rw[<-b];rfl
def ln(l:E Rat):G->G
 |0=>0
 |n+1=>if(I l n 0).num=0 then ln l n else n+1
def gH(l:E Rat):E Rat:=c (ln l<|Z l) l
def lC(A B:G->V)(n:G):G->V
 |0=>0
 |i+1=>lC A B n i+A i*B (n-i)
def conv(A B:G->V)(n:G):V:=lC A B n<|n+1
def VF(A B:G->V)(n:G):∀k,(∀i,i<k->A i*B (n-i)=0)->lC A B n k=0
 |0,_=>rfl
 |k+1,a=>by simp only[lC,VF A B n k<|λi b=>a i Y,a k Y];rfl
def OX(A B:G->V)(n d:G):∀k,d<k->(∀i,i<k->i≠d->A i*B (n-i)=0)->lC A B n k=A d*B (n-d)
 |0,b,_=>by omega
 |k+1,b,h2=>by
  simp only[lC];by_cases a:k=d
  .subst a;rw[VF A B n k (λi f=>h2 i Y Y)];omega
  .rw[OX A B n d k Y (λi f=>h2 i Y),h2 k Y a];omega
def apq{A B:G->V}{a b}(d:∀i,a<i->A i=0)(f:∀i,b<i->B i=0):conv A B (a+b)=A a*B b:=by
 unfold conv
 rw[OX A B (a+b) a _ Y]
 .congr 2;omega
 .intro i g k;by_cases h:i<a
  .rw[f (a+b-i) Y];simp
  .rw[d i Y];simp
def mE(a b:E V):E V:=(List.range<|Z a+Z b-1).map<|conv (λi=>I a i 0)<|λi=>I b i 0
def OY(m:G)(a:m<18446744073709551616):aq r 154 [cU m] (S ao<|R m):=by
 refine aS Tryz.func154 ?_;refine e J<|w ?_;have b:ay .u32 (m:V)=((m%4294967296:G):V):=OZ;have d:ay .u32 ((m:V).fdiv<|2^(min (ah (32:V))<|dj .u64))=((m/4294967296:G):V):=by
  have:(m:V).fdiv (2^(min (ah (32:V))<|dj .u64))=((m/4294967296:G):V):=by rw[Dv _ o];rfl
  rw[this,nO _ Y Y]
 refine rl ao [_,_] J J ?_;refine rc J J (xI _) ?_;refine O J<|cd J ?_;rw[b,d,ady m a]
def qL neg m:aq r 153 [cB neg,S ao<|R m] (aZ<|sg neg m):=by
 refine aS Tryz.func153 ?_;have f:=xI<|R m;rw[Vs]at f;refine e J<|bL J J f J<|bA<|e J ?_;refine F J (λh=>?_)<|λh=>?_
 .have h:Z (R m)=0:=by have h:(Z (R m):V)=0:=eQ;omega
  have i:m=0:=VG λa=>by have:=qJ.2 a;omega
  subst i;refine e J<|bX<|da<|iZ cp J ?_;have b:sg neg 0=0:=by cases neg<;>rfl
  rw[b];refine⟨?_,λl bc=>yj⟩;rintro g v ⟨vs,rfl,v1,n,rfl,k,v2,p,rfl,d,rfl⟩;have d:v2= .slice none 0 0:=d;exact⟨_,J,v1,_,J,k,v2,_,J,by rw[d];exact acY g.H,J⟩
 .have h:Z (R m)≠0:=by have h:¬(Z (R m):V)=0:=eQ;omega
  refine aG<|e J<|cd J ?_;rw[<-mkZ];have b:(neg&&decide (0<Z (R m)))=neg:=by have:0<Z (R m):=Y;simp[this]
  rw[b];rfl
def O0(a:E V)(b:Z a<=1099511627776):aq r 155 [S ao a] (S ao a):=by
 refine aS Tryz.func155 ?_;refine e J<|w<|ran J J J J J J J J ?_ ?_<|O J<|dm 1001000 J J J<|di J
 .show(_+_/4+192)*4<=_;omega
 .show _*1<=_;omega
def VH n(g: -9223372036854775808<=n)(i:n<=9223372036854775807):aq r 124 [y n] (aZ n):=by
 refine aS Tryz.func124 ?_;refine e J<|e J<|h<|e J ?_;refine F J (λa=>?_)<|λa=>?_
 .have a:n<0:=by simpa using a
  have b:ay .u64 (0-ay .u64 n)=(ah (-n):G):=by simp[ay,dj,J0];omega
  refine rt J<|aR<|w ?_;refine rc J J (f:=154) (r:=S ao<|R<|ah<| -n) (by rw[show(AV.c (num .u64<|0-ay .u64 n).1)=cU ((ah (-n):G):V)from bY b];exact OY _ Y) ?_;refine rc J J (qL _ _)<|O J<|cd J ?_;have d:sg (decide<|n<0) (ah<| -n)=n:=by unfold sg;simp[a];omega
  exact bl aZ d
 .have a:¬n<0:=by simpa using a
  have b:ay .u64 n=(ah n:G):=by rw[be _ Y Y];omega
  refine aG<|w ?_;refine rc J J (f:=154) (r:=S ao<|R<|ah n) (by rw[show(AV.c (num .u64 n).1)=cU ((ah n:G):V)from bY b];exact OY _ Y) ?_;refine rc J J (qL _ _)<|O J<|cd J ?_;have d:sg (decide<|n<0) (ah n)=n:=by unfold sg;simp[a];omega
  exact bl aZ d
def adJ a:aq r 152 [aZ a] (y<|fU a):=by
 refine aS Tryz.func152 ?_;refine e J<|bA<|e J ?_;refine F J (λh=>?_)<|λh=>?_
 .have h:a=0:=by
   have h:(Z (eX a):V)=0:=eQ;have:aD a=0:=VG λd=>by have:=qJ.2 d;unfold eX at h;omega
   omega
  refine e J<|bX<|da<|fO J ?_;rw[h];rfl
 .have h:a≠0:=by have h:¬(Z (eX a):V)=0:=eQ;intro f;subst f;exact h J
  refine aG<|bA<|e J ?_;refine F J (λb=>?_)<|λb=>?_
  .have b:a<0:=by simpa[cv]using b
   refine e J<|bX<|da<|fO J ?_;rw[fU,q b];rfl
  .have b:¬a<0:=by simpa[cv]using b
   refine aG<|e J<|cd J ?_;rw[fU,j b,j h];rfl
def VI a(b:Sm a):aq r 125 [aZ a] (aZ<| -a):=by
 refine aS Tryz.func125 ?_;refine e J<|w<|rc J J (O0 _ b)<|rc J J (qL (!cv a)<|aD a)<|O J<|cd J ?_;have d:sg (!cv a) (aD a)= -a:=by
  unfold sg cv;by_cases h:a<0
  .simp[h];omega
  .simp[h];omega
 exact bl aZ d
def apr a b(Q:cc a)(T:cc b)(W:Z a<=1099511627776)(lb:Z b<=1099511627776):aq r 160 [S ao a,S ao b] (S ao<|R<|ah<|val a+val b):=by
 refine aS Tryz.func160 ?_;refine e J<|bA<|e J ?_;refine F J (λh=>?_)<|λh=>?_
 .have n:Z a<=Z b:=by have h:Z a<Z b:=eQ;omega
  rw[xJ (val a)];refine rt J<|aR ?_;revert Q T W lb n;generalize b=X;generalize a=d;intro u A q L n;refine fg (st':=⟨[(0,S ao X),(1,S ao d)],[],30,[]⟩) aY<|w ?_;refine rm ao (X.length+1) J J J J J J (nJ .u32) J ?_ ?_ ?_
  .show _*4<=_;omega
  .show _*1<=_;omega
  refine O J<|e J<|bA<|e J ?_;refine aA<|bx (α:=G×E V×V) (λx=>⟨[(0,S ao X),(1,S ao d),(5,.c<|.X 30003000),(6,cU x.2.2),(21,y X.length),(22,y x.1)],[(30003000,.vec 142 ao x.2.1)],33,[]⟩) (λx=>GC X d (X.length+1) x/\x.1<=X.length) (λx=>X.length-x.1) (0,bt (X.length+1) 0,0) ?_ ?_ ?_
  .refine⟨⟨bm _,ax,te _,?_,iD _,J2,Dm⟩,bm _⟩;intro j _;simp only[aO,nc];split<;>rfl
  .exact wk (bP J) ⟨bR J,M⟩
  .rintro⟨i,f,c⟩ ⟨g,l⟩;have l:i<=X.length:=l;have B:Z f=X.length+1:=g.len;have k:0<=c:=g.c0;have H:c<=1:=g.c1;have U:=dv A i;have gb:=dv u i;refine e J<|bA ?_;refine F J (λh=>?_) (λh=>?_)
   .have h:i<X.length:=by simpa using h
    have m:=g.next (Y:i<X.length+1) A u;simp only at m;generalize ht:X.getD i 0+I d i 0+c=s at m;have C:ay .u32 s=s%4294967296:=by simp[ay,dj,J0]
    have D:s.fdiv (2^(min (ah (32:V))<|dj .u64))=s/4294967296:=by rw[Dv _ o];rfl
    refine aG<|bA<|aA<|e J<|e J<|bA<|e J ?_;refine F J (λh2=>?_)<|λh2=>?_
    .have h2:i<Z d:=by simpa using h2
     refine rt J<|aR ?_;have p:ay .u64 (ay .u64 (ay .u64 (X.getD (ah (i:V)) 0)+c)+ay .u64 (I d (ah (i:V)) 0))=s:=by rw[cx,be (X.getD i 0) Y Y,be (I d i 0) Y Y,be (X.getD i 0+c) Y Y,be _ Y Y];omega
     refine fg (st':=⟨[(0,S ao X),(1,S ao d),(5,.c<|.X 30003000),(7,y i),(8,cU s),(21,y X.length),(22,y i)],[(30003000,.vec 142 ao f)],40,[]⟩) (wk ⟨sR J,sR J,sR J,sR J,⟨_,J,bq.of_eq<|bY p⟩,sR J,sR J,M⟩ ⟨bR J,M⟩) ?_;refine e J<|rt J<|bU<|rt J<|a6 (i+1,f.set i<|s%4294967296,s/4294967296) ⟨m,O1⟩ O2<|wk ⟨sR J,sR J,sR J,sE J ?_,sR J,sE J J,M⟩ ⟨bE J ?_,M⟩
     .exact bY D
     .rw[C,cx]
    .have h2:¬i<Z d:=by simpa using h2
     have K:I d i 0=0:=VJ;refine aG ?_;have p:ay .u64 (ay .u64 (X.getD (ah (i:V)) 0)+c)=s:=by rw[cx,be (X.getD i 0) Y Y,be _ Y Y];omega
     refine fg (st':=⟨[(0,S ao X),(1,S ao d),(5,.c<|.X 30003000),(7,y i),(8,cU s),(21,y X.length),(22,y i)],[(30003000,.vec 142 ao f)],40,[]⟩) (wk ⟨sR J,sR J,sR J,sR J,⟨_,J,bq.of_eq<|bY p⟩,sR J,sR J,M⟩ ⟨bR J,M⟩) ?_;refine e J<|rt J<|bU<|rt J<|a6 (i+1,f.set i<|s%4294967296,s/4294967296) ⟨m,O1⟩ O2<|wk ⟨sR J,sR J,sR J,sE J ?_,sR J,sE J J,M⟩ ⟨bE J ?_,M⟩
     .exact bY D
     .rw[C,cx]
   .have h:¬i<X.length:=by simpa using h
    have l:i=X.length:=Y;subst l;have N:ay .u32 c=c:=nO c k Y;refine bD<|aR<|e J ?_;refine fg (st':=⟨[(5,.c<|.X 30003000)],[(30003000,.vec 142 ao<|f.set X.length c)],40,[]⟩) (wk ⟨sR J,M⟩ ⟨bE J ?_,M⟩) ?_
    .rw[N,cx]
    refine dm 30003000 J J J<|bL J J (xI _) J<|cd J ?_;have P:cc (f.set X.length c):=A8 g.r _ ⟨k,Y⟩;have t:=g.v;simp only[ik]at t;rw[nM d X.length n]at t;rw[qF P,J1 f X.length c Y<|g.z X.length<|aN _,t]
 .have n:Z b<=Z a:=by have h:¬Z a<Z b:=eQ;omega
  refine aG ?_;revert Q T W lb n;generalize a=X;generalize b=d;intro A u L q n;refine fg (st':=⟨[(0,S ao X),(1,S ao d)],[],30,[]⟩) aY<|w ?_;refine rm ao (X.length+1) J J J J J J (nJ .u32) J ?_ ?_ ?_
  .show _*4<=_;omega
  .show _*1<=_;omega
  refine O J<|e J<|bA<|e J ?_;refine aA<|bx (α:=G×E V×V) (λx=>⟨[(0,S ao X),(1,S ao d),(5,.c<|.X 30003000),(6,cU x.2.2),(21,y X.length),(22,y x.1)],[(30003000,.vec 142 ao x.2.1)],33,[]⟩) (λx=>GC X d (X.length+1) x/\x.1<=X.length) (λx=>X.length-x.1) (0,bt (X.length+1) 0,0) ?_ ?_ ?_
  .refine⟨⟨bm _,ax,te _,?_,iD _,J2,Dm⟩,bm _⟩;intro j _;simp only[aO,nc];split<;>rfl
  .exact wk (bP J) ⟨bR J,M⟩
  .rintro⟨i,f,c⟩ ⟨g,l⟩;have l:i<=X.length:=l;have B:Z f=X.length+1:=g.len;have k:0<=c:=g.c0;have H:c<=1:=g.c1;have U:=dv A i;have gb:=dv u i;refine e J<|bA ?_;refine F J (λh=>?_) (λh=>?_)
   .have h:i<X.length:=by simpa using h
    have m:=g.next (Y:i<X.length+1) A u;simp only at m;generalize ht:X.getD i 0+I d i 0+c=s at m;have C:ay .u32 s=s%4294967296:=by simp[ay,dj,J0]
    have D:s.fdiv (2^(min (ah (32:V))<|dj .u64))=s/4294967296:=by rw[Dv _ o];rfl
    refine aG<|bA<|aA<|e J<|e J<|bA<|e J ?_;refine F J (λh2=>?_)<|λh2=>?_
    .have h2:i<Z d:=by simpa using h2
     refine rt J<|aR ?_;have p:ay .u64 (ay .u64 (ay .u64 (X.getD (ah (i:V)) 0)+c)+ay .u64 (I d (ah (i:V)) 0))=s:=by rw[cx,be (X.getD i 0) Y Y,be (I d i 0) Y Y,be (X.getD i 0+c) Y Y,be _ Y Y];omega
     refine fg (st':=⟨[(0,S ao X),(1,S ao d),(5,.c<|.X 30003000),(7,y i),(8,cU s),(21,y X.length),(22,y i)],[(30003000,.vec 142 ao f)],40,[]⟩) (wk ⟨sR J,sR J,sR J,sR J,⟨_,J,bq.of_eq<|bY p⟩,sR J,sR J,M⟩ ⟨bR J,M⟩) ?_;refine e J<|rt J<|bU<|rt J<|a6 (i+1,f.set i<|s%4294967296,s/4294967296) ⟨m,O1⟩ O2<|wk ⟨sR J,sR J,sR J,sE J ?_,sR J,sE J J,M⟩ ⟨bE J ?_,M⟩
     .exact bY D
     .rw[C,cx]
    .have h2:¬i<Z d:=by simpa using h2
     have K:I d i 0=0:=VJ;refine aG ?_;have p:ay .u64 (ay .u64 (X.getD (ah (i:V)) 0)+c)=s:=by rw[cx,be (X.getD i 0) Y Y,be _ Y Y];omega
     refine fg (st':=⟨[(0,S ao X),(1,S ao d),(5,.c<|.X 30003000),(7,y i),(8,cU s),(21,y X.length),(22,y i)],[(30003000,.vec 142 ao f)],40,[]⟩) (wk ⟨sR J,sR J,sR J,sR J,⟨_,J,bq.of_eq<|bY p⟩,sR J,sR J,M⟩ ⟨bR J,M⟩) ?_;refine e J<|rt J<|bU<|rt J<|a6 (i+1,f.set i<|s%4294967296,s/4294967296) ⟨m,O1⟩ O2<|wk ⟨sR J,sR J,sR J,sE J ?_,sR J,sE J J,M⟩ ⟨bE J ?_,M⟩
     .exact bY D
     .rw[C,cx]
   .have h:¬i<X.length:=by simpa using h
    have l:i=X.length:=Y;subst l;have N:ay .u32 c=c:=nO c k Y;refine bD<|aR<|e J ?_;refine fg (st':=⟨[(5,.c<|.X 30003000)],[(30003000,.vec 142 ao<|f.set X.length c)],40,[]⟩) (wk ⟨sR J,M⟩ ⟨bE J ?_,M⟩) ?_
    .rw[N,cx]
    refine dm 30003000 J J J<|bL J J (xI _) J<|cd J ?_;have P:cc (f.set X.length c):=A8 g.r _ ⟨k,Y⟩;have t:=g.v;simp only[ik]at t;rw[nM d X.length n]at t;rw[qF P,J1 f X.length c Y<|g.z X.length<|aN _,t]
def adK:ByteArray:={data:=(([0,1,2,2,3,3,3,3,4,4,4,4,4,4,4,4,5,5,5,5,5,5,5,5,5,5,5,5,5,5,5,5,6,6,6,6,6,6,6,6,6,6,6,6,6,6,6,6,6,6,6,6,6,6,6,6,6,6,6,6,6,6,6,6].append [7,7,7,7,7,7,7,7,7,7,7,7,7,7,7,7,7,7,7,7,7,7,7,7,7,7,7,7,7,7,7,7,7,7,7,7,7,7,7,7,7,7,7,7,7,7,7,7,7,7,7,7,7,7,7,7,7,7,7,7,7,7,7,7]).append<|[8,8,8,8,8,8,8,8,8,8,8,8,8,8,8,8,8,8,8,8,8,8,8,8,8,8,8,8,8,8,8,8,8,8,8,8,8,8,8,8,8,8,8,8,8,8,8,8,8,8,8,8,8,8,8,8,8,8,8,8,8,8,8,8].append [8,8,8,8,8,8,8,8,8,8,8,8,8,8,8,8,8,8,8,8,8,8,8,8,8,8,8,8,8,8,8,8,8,8,8,8,8,8,8,8,8,8,8,8,8,8,8,8,8,8,8,8,8,8,8,8,8,8,8,8,8,8,8,8]).toArray}
def adL(n:G):Bool:=match Ji adK (n:V)with
 |some l=>decide (0<=l)&&decide (l<=8)&&Nat.blt n (2^ah l)&&(Nat.ble (2^ah l) (2*n)||Nat.beq n 0)
 |none=>ak
def aps:((List.range 256).all adL)=af:=e9
def apt{n:G}(f:n<256):∃l:G,Ji adK (n:V)=some (l:V)/\l<=8/\n<2^l/\(2^l<=2*n\/n=0):=by
 have a:=nw.1 aps n<|ru.2 f;unfold adL at a;split at a
 .rename_i l e;simp only[cG,Ap,mV]at a;let ⟨⟨⟨h2,g⟩,d⟩,b⟩:=a;have d:=cQ d;refine⟨ah l,by rw[xp h2];exact e,Y,d,?_⟩;rcases b with b|b
  .exact .inl<|cQ b
  .exact .inr<|lX b
 .cases a
def O3{a}{t:TypeId}{x i}{f}{k}{d b}{g}(l:a.ev x=some (.c<|.V<|.string f))(m:a.ev i=some (.c<|.I k d))(n:L t dE=some g)(p:g.kind= .str)(s:Ji f d=some b):xq dE a (.index t x i)=some (.c<|.I .u8 b,.le 0 d):=by simp[xq,l,m,n,p,s]
def apu a b(D:cc a)(H:cc b)(la:Z a<=1099511627776)(lb:Z b<=1099511627776):aq r 191 [S ao a,S ao b] (S ao<|R<|ah<|val a*val b):=by
 refine aS Tryz.func191 ?_;refine e J<|w ?_;refine rm ao (Z a+Z b) J J J J J J (nJ .u32) J ?_ ?_ ?_
 .show _*4<=_;omega
 .show _*1<=_;omega
 refine O J<|h<|e J ?_;refine aA<|bx (α:=G×E V) (λx=>⟨[(0,S ao a),(1,S ao b),(5,.c<|.X 1005000),(18,y<|Z a),(19,y x.1)],[(1005000,.vec 142 ao x.2)],3,[]⟩) (Vu a b) (λx=>Z a-x.1) (0,bt (Z a+Z b) 0) ?_ ?_ ?_
 .refine⟨bm _,ax,te _,?_,Dm⟩;intro j _;simp only[aO,nc];split<;>rfl
 .exact wk (bP J) ⟨bR J,M⟩
 .rintro⟨i,d⟩ l;have g:Z d=Z a+Z b:=l.len;refine e J<|h ?_;refine F J (λm=>?_) (λm=>?_)
  .have m:i<Z a:=by simpa using m
   have N:=dv D i;refine aG<|h<|aA<|e J<|e J<|e J<|h<|e J ?_;have P:ay .u64 (I a (ah (i:V)) 0)=I a i 0:=by rw[cx,be _ Y Y]
   refine aA<|bx (α:=G×E V×V) (λx=>⟨[(0,S ao a),(1,S ao b),(5,.c<|.X 1005000),(6,y i),(7,cU x.2.2),(8,cU<|I a i 0),(18,y<|Z a),(19,y i),(28,y<|Z b),(29,y x.1)],[(1005000,.vec 142 ao x.2.1)],8,[]⟩) (Dq a b i) (λx=>Z b-x.1) (0,d,0) ?_ ?_ ?_
   .refine⟨bm _,g,l.r,l.z,iD _,(by show(0:V)<_;decide),?_⟩;have:=l.v;simp only at this;simp[this,val]
   .exact wk ⟨sR J,sR J,sR J,sR J,sR J,⟨_,J,bq.of_eq<|bY P⟩,sR J,sR J,sR J,sR J,M⟩ ⟨bR J,M⟩
   .rintro⟨k,d,c⟩ n;have g:Z d=Z a+Z b:=n.len;have t:0<=c:=n.c0;have u:c<4294967296:=n.c1;refine e J<|h ?_;refine F J (λp=>?_) (λp=>?_)
    .have p:k<Z b:=by simpa using p
     have Q:=dv H k;have T:=dv n.r<|i+k;simp only at T;have gm:=J4 N.1 Y Q.1 Y;refine aG<|h<|aA<|e J<|e J ?_ (hp:=lB);have f:ah ((i:V)+(k:V))=i+k:=Y;have C:ay .u64 (ay .u64 (ay .u64 (I a i 0*ay .u64 (I b (ah (k:V)) 0))+ay .u64 (I d (ah<|(i:V)+(k:V)) 0))+c)=I a i 0*I b k 0+I d (i+k) 0+c:=by rw[f,cx,be (I b k 0) Y Y,be (I d (i+k) 0) Y Y,be (I a i 0*I b k 0) Y Y,be (I a i 0*I b k 0+I d (i+k) 0) Y Y,be _ Y Y]
     have A:=n.next m p D H;simp only at A;generalize ht:I a i 0*I b k 0+I d (i+k) 0+c=s at A C;have B:ay .u32 s=s%4294967296:=by simp[ay,dj,J0]
     have W:s.fdiv (2^(min (ah (32:V))<|dj .u64))=s/4294967296:=by rw[Dv _ o];rfl
     refine fg (st':=⟨[(0,S ao a),(1,S ao b),(5,.c<|.X 1005000),(6,y i),(8,cU<|I a i 0),(9,y k),(10,cU s),(18,y<|Z a),(19,y i),(28,y<|Z b),(29,y k)],[(1005000,.vec 142 ao d)],12,[]⟩) (wk ⟨sR J,sR J,sR J,sR J,sR J,sR J,sE J ?_,sR J,sR J,sR J,sR J,M⟩ ⟨bR J,M⟩) ?_
     .exact bY C
     refine e J<|rt J<|bU<|rt J<|a6 (k+1,d.set (i+k)<|s%4294967296,s/4294967296) A (Y:Z b-(k+1)<Z b-k)<|wk ⟨sR J,sR J,sR J,sR J,sE J ?_,sR J,sR J,sR J,sR J,sE J ?_,M⟩ ⟨bE J ?_,M⟩
     .exact bY W
     .rfl
     .rw[B,f]
    .have p:¬k<Z b:=by simpa using p
     have q:k=Z b:=by have:=n.k;simp only at this;omega
     subst q;have L:=n.done m;have f:ah ((i:V)+(Z b:V))=i+Z b:=Y;have B:ay .u32 c=c:=nO c t u;refine bD<|aR<|rt J<|bU<|rt J<|a6 (i+1,d.set (i+Z b) c) L r6<|wk ⟨sR J,sR J,sR J,sR J,sE J ?_,M⟩ ⟨bE J ?_,M⟩
     .rfl
     .rw[B,f]
  .have m:¬i<Z a:=by simpa using m
   have U:i=Z a:=by have:=l.i;simp only at this;omega
   subst U;refine bD<|aR<|dm 1005000 J J J<|w ?_;refine rc J J (xI _)<|O J<|cd J ?_;have K:=l.v;simp only[ik]at K;rw[qF l.r];simp only[K]
def adM m k(a:Z (R m)<=1099511627776)(b:Z (R k)<=1099511627776):aq r 160 [S ao (R m),S ao<|R k] (S ao<|R<|m+k):=by have:=apr (R m) (R k) (eO m) (eO k) a b;rw[fa,fa,(Y:ah ((m:V)+(k:V))=m+k)]at this;exact this
def apv m k(a:Z (R m)<=1099511627776)(b:Z (R k)<=1099511627776):aq r 191 [S ao (R m),S ao<|R k] (S ao<|R<|m*k):=by have:=apu (R m) (R k) (eO m) (eO k) a b;rw[fa,fa,show ah ((m:V)*(k:V))=m*k by rw[<-fP];rfl]at this;exact this
def apw a b(k:Sm a)(l:Sm b):aq r 159 [aZ a,aZ b] (aZ<|a*b):=by
 refine aS Tryz.func159 ?_;refine e J<|w ?_;refine rc J J (apv _ _ k l)<|rc J J (qL _ _)<|O J<|cd J ?_;have m:sg (cv a !=cv b) (aD a*aD b)=a*b:=by have d:=A' a;have f:=A' b;generalize aD a=x at d⊢;generalize aD b=y at f⊢;cases g:cv a<;>cases i:cv b<;>rw[g]at d<;>rw[i]at f<;>simp only[sg,cr,bV,jh]at d f<;>rw[<-d,<-f]<;>simp[sg]<;>grind
 exact bl aZ m
def nf(a:E V):G->G
 |0=>0
 |i+1=>nf a i+aD (I a i 0)
def il(a:E V):G:=nf a (Z a)*2^(Z a-1)
structure Kn1(M a b d v t u2 f u:V):Prop where
 hM:0<M
 pV:2147483648<=a
 apx:a<4294967296
 yV:0<=b
 adN:b<4294967296
 vH:0<=d
 adO:d<M
 ht:0<=t
 jz:0<=u2
 apy:u2<4294967296
 yI:0<=f
 apz:f<M
 ev:v=(a*4294967296+b)*M+d
 eu:u=(t*4294967296+u2)*M+f
 lt:u<v*4294967296
namespace Kn1
variable{M v1 v2 v' v t u2 u' u:V}(h:Kn1 M v1 v2 v' v t u2 u' u)
include h
def GJ:0<v:=by have a:=h.ev;have:0<(v1*4294967296+v2)*M:=Dw (by have:=h.pV;have:=h.yV;omega) h.hM;have:=h.vH;omega
def vge:4294967296*M<=v:=by have a:=h.ev;have b:4294967296*M<=(v1*4294967296+v2)*M:=iE (by have:=h.pV;have:=h.yV;omega) xK;have:=h.vH;omega
def vlt:v<(v1+1)*4294967296*M:=by have a:=h.ev;have b:(v1*4294967296+v2+1)*M<=(v1+1)*4294967296*M:=iE (by have:=h.adN;omega) xK;have d:(v1*4294967296+v2+1)*M=(v1*4294967296+v2)*M+M:=J8;have:=h.adO;omega
def adP:t*4294967296*M<=u:=by have a:=h.eu;have b:t*4294967296*M<=(t*4294967296+u2)*M:=iE (by have:=h.jz;omega) xK;have:=h.yI;omega
def adQ:u<(t*4294967296+u2+1)*M:=by have a:=h.eu;have b:(t*4294967296+u2+1)*M=(t*4294967296+u2)*M+M:=J8;have:=h.apz;omega
def tlt:t<(v1+1)*4294967296:=by
 have f:=h.adP;have g:=h.lt;have i:=h.vlt;have a:t*(4294967296*M)<(v1+1)*4294967296*(4294967296*M):=by
  have b:t*(4294967296*M)=t*4294967296*M:=by rw[jP]
  have d:(v1+1)*4294967296*(4294967296*M)=(v1+1)*4294967296*M*4294967296:=by rw[jP _ M,fo M]
  rw[b,d];omega
 exact apC a xK
def GK:u/v<4294967296:=GF h.GJ (by rw[fo];exact h.lt)
def q0:0<=u/v:=by refine Bb ?_ (by have:=h.GJ;omega);have:=h.adP;have:0<=t*4294967296*M:=ku (by have:=h.ht;omega) xK;omega
def apD:u/v*v<=u:=Int.ediv_mul_le u (by have:=h.GJ;omega)
def first:u/v<=t/v1:=by
 apply apE (by have:=h.pV;omega);have a:=h.apD;have i:u/v*(v1*4294967296*M)<=u/v*v:=l6 (by have a:=h.ev;have b:v1*4294967296*M<=(v1*4294967296+v2)*M:=iE (by have:=h.yV;omega) xK;have:=h.vH;omega) h.q0;have b:=h.adQ;have k:(t*4294967296+u2+1)*M<=(t+1)*4294967296*M:=iE (by have:=h.apy;omega) xK;have d:u/v*v1*(4294967296*M)<(t+1)*(4294967296*M):=by
  have f:u/v*v1*(4294967296*M)=u/v*(v1*4294967296*M):=by simp only[jP]
  have g:(t+1)*(4294967296*M)=(t+1)*4294967296*M:=by simp only[jP]
  rw[f,g];omega
 have:=apC d xK;omega
def down{a b:V}(f:t=a*v1+b)(d:0<=a)(g:a*v2>b*4294967296+u2):u/v<a:=by
 apply GF h.GJ;have i:=h.adQ;have k:(t*4294967296+u2+1)*M<=a*(v1*4294967296+v2)*M:=iE (by
  have e:a*(v1*4294967296+v2)=a*v1*4294967296+a*v2:=by rw[pU,jP]
  rw[e];generalize a*v1=x at*;generalize a*v2=y at*;omega) xK
 have l:a*v=a*(v1*4294967296+v2)*M+a*v':=by rw[h.ev,pU,jP a]
 have m:0<=a*v':=ku d h.vH;omega
def close{a b:V}(d:t=a*v1+b)(f:0<=a)(g:a<4294967296)(i:a*v2<=b*4294967296+u2):a-1<=u/v:=by
 apply apE h.GJ;have k:a*(v1*4294967296+v2)*M<=(t*4294967296+u2)*M:=iE (by
  have e:a*(v1*4294967296+v2)=a*v1*4294967296+a*v2:=by rw[pU,jP]
  rw[e];generalize a*v1=x at*;generalize a*v2=y at*;omega) xK
 have l:a*v=a*(v1*4294967296+v2)*M+a*v':=by rw[h.ev,pU,jP a]
 have m:a*v'<=4294967296*M:=y8 Y (by have:=h.adO;omega) h.vH o;have n:=h.vge;have p:=h.eu;have s:=h.yI;have z:(a-1)*v=a*v-v:=by rw[J9,mc]
 omega
def apF{a b:V}(f:t=a*v1+b)(g:4294967296<=b):a<4294967296:=by
 have d:=h.tlt;have i:=h.pV;by_cases hq:a<4294967296
 .exact hq
 .exfalso;have:4294967296*v1<=a*v1:=iE Y Y;have e:(v1+1)*4294967296=v1*4294967296+4294967296:=J8;rw[e]at d;omega
def small{a b:V}(g:t=a*v1+b)(i:0<=b):a<=4294967297:=by
 have d:=h.tlt;have k:=h.pV;have f:=h.apx;by_cases hq:a<=4294967297
 .exact hq
 .exfalso;have:4294967298*v1<=a*v1:=iE Y Y;have e:(v1+1)*4294967296=v1*4294967296+4294967296:=J8;rw[e]at d;omega
end Kn1
def th:G->V->V->V->V->V->V
 |0,a,_,_,_,_=>a
 |f+1,a,b,v1,v2,u2=>if a>=4294967296\/a*v2>b*4294967296+u2 then(if b+v1>=4294967296 then a-1 else th f (a-1) (b+v1) v1 v2 u2)else a
def O4{z g k A v t m B u:V}(d:Kn1 z g k A v t m B u):∀(f:G)(a b:V),t=a*g+b->0<=b->b<4294967296->4294967296<=b+f*2147483648->u/v<=a->u/v<=th f a b g k m/\th f a b g k m<=u/v+1/\th f a b g k m<4294967296
 |0,a,b,_,_,h2,D,_=>by omega
 |f+1,a,b,ht,N,h2,D,hq=>by
  have q0:=d.q0;have GK:=d.GK;have C:=d.pV;rw[th];split
  .rename_i i;have H:u/v<a:=by
    rcases i with i|i
    .omega
    .exact d.down ht Y i
   have l:t=(a-1)*g+(b+g):=by rw[J9,mc];omega
   split
   .rename_i s;have x:=d.apF l s;have i:a-1-1<=u/v:=d.close l Y x (by have K:(a-1)*k<=4294967296*4294967296:=y8 Y (by have:=d.adN;omega) d.yV o;have:=d.jz;omega);exact⟨Y,Y,x⟩
   .rename_i s;exact O4 d f (a-1) (b+g) l Y Y Y Y
  .rename_i i;have n:a<4294967296:=by
    by_cases e:a<4294967296
    .exact e
    .exact aJ (.inl Y) i
   have p:a*k<=b*4294967296+m:=by
    by_cases e:a*k<=b*4294967296+m
    .exact e
    .exact aJ (.inr Y) i
   have:=d.close ht Y n p;exact⟨hq,Y,n⟩
def GL{a b:V}(d:0<=a):a.tdiv b=a/b:=wc d
def J'{a b:V}(d:0<=a):a.tmod b=a%b:=l7 d
def apG a v b n(D:cc a)(hv:cc v)(hn:Z v=n+2)(hj:b+n+3<=Z a)(hl:Z a<=1099511627777){v' u' u}
  (K:Kn1 (4294967296^n) (I v (n+1) 0) (I v n 0) v' (val v) (I a (b+(n+2)) 0*4294967296+I a (b+(n+1)) 0) (I a (b+n) 0) u' u):
  vX Tryz.prog 218 [.c (.W 0 b<|n+3),S ao v] 142 ao a (cU<|th 2 ((I a (b+(n+2)) 0*4294967296+I a (b+(n+1)) 0)/I v (n+1) 0) ((I a (b+(n+2)) 0*4294967296+I a (b+(n+1)) 0)%I v (n+1) 0) (I v (n+1) 0) (I v n 0)<|I a (b+n) 0) a:=by
 refine JP Tryz.func218 J J J J J o ?_
 have g1:=dv D<|b+(n+2)
 have g2:=dv D<|b+(n+1)
 have g3:=dv D<|b+n
 have k1:=dv hv<|n+1
 have k2:=dv hv n
 have pV:=K.pV
 have a1:ah ((Z v:V))=n+2:=Y
 have a2:ah ((Z v:V)-1)=n+1:=Y
 have a3:ah ((Z v:V)-2)=n:=Y
 generalize hQ:th 2 ((I a (b+(n+2)) 0*4294967296+I a (b+(n+1)) 0)/I v (n+1) 0) ((I a (b+(n+2)) 0*4294967296+I a (b+(n+1)) 0)%I v (n+1) 0) (I v (n+1) 0) (I v n 0) (I a (b+n) 0)=Q0
 refine e J<|e J<|e J (hp:=lB) ?_
 rw[a1,a2]
 have e6:ay .u64 (ay .u64 (ay .u64 (I a (b+(n+2)) 0)*4294967296)+ay .u64 (I a (b+(n+1)) 0))=I a (b+(n+2)) 0*4294967296+I a (b+(n+1)) 0:=by rw[be (I a (b+(n+2)) 0) Y Y,be (I a (b+(n+1)) 0) Y Y,be (_*_) Y Y,be _ Y Y]
 have H:ay .u64 (I v (n+1) 0)=I v (n+1) 0:=be _ Y Y
 have N:ay .u64 (I v n 0)=I v n 0:=be _ Y Y
 have P:ay .u64 (I a (b+n) 0)=I a (b+n) 0:=be _ Y Y
 have k:0<=I a (b+(n+2)) 0*4294967296+I a (b+(n+1)) 0:=Y
 have ht1:I a (b+(n+2)) 0*4294967296+I a (b+(n+1)) 0<18446744073709551616:=Y
 have Q:=@Kn1.small _ _ _ _ _ _ _ _ _ K
 have dn:=@O4 _ _ _ _ _ _ _ _ _ K
 have T:=K.first
 generalize I a (b+(n+2)) 0*4294967296+I a (b+(n+1)) 0=t at*
 generalize m:I v (n+1) 0=v1 at*
 generalize p:I v n 0=v2 at*
 generalize s:I a (b+n) 0=u2 at*
 have z:ay .u64 (I v (ah<|(Z v:V)-1) 0)=v1:=by rw[a2,m];exact H
 have x2:ay .u64 (I v (ah<|(Z v:V)-2) 0)=v2:=by rw[a3,p];exact N
 have x3:ay .u64 (I a (b+ah ((Z v:V)-2)) 0)=u2:=by rw[a3,s];exact P
 have X:0<=t/v1:=Bb k Y
 have E:0<=t%v1:=jq _ Y
 have s8:t%v1<v1:=jr _ Y
 have cC:=o9 t v1
 refine fg (st':=⟨[(0,.c<|.W 0 b<|n+3),(1,S ao v),(5,y<|Z v),(6,cU t)],[(0,.vec 142 ao a)],4,[]⟩) (wk ⟨sR J,sR J,sR J,⟨_,J,bq.of_eq<|bY e6⟩,M⟩ ⟨bR J,M⟩) ?_
 have VK:((-9223372036854775808<=(Z v:V)-1/\(Z v:V)-1<=9223372036854775807)/\0<=(Z v:V)-1/\(Z v:V)-1<(Z v:V))/\ay .u64 (I v (ah<|(Z v:V)-1) 0)≠0:=by rw[z];omega
 refine e J (hp:=adT)<|e J (hp:=adT) ?_
 refine bA<|aA<|bx (α:=G×V×V) (λx=>⟨[(0,.c<|.W 0 b<|n+3),(1,S ao v),(5,y<|Z v),(6,cU t),(7,cU x.2.1),(8,cU x.2.2)],[(0,.vec 142 ao a)],6,[]⟩) (λx=>th x.1 x.2.1 x.2.2 v1 v2 u2=Q0/\t=x.2.1*v1+x.2.2/\0<=x.2.2/\x.2.2<4294967296/\4294967296<=x.2.2+x.1*2147483648/\u/val v<=x.2.1) (λx=>x.1) (2,t/v1,t%v1) ⟨hQ,by show t=t/v1*v1+t%v1;rw[fo];omega,E,(Y:t%v1<4294967296),VL,T⟩ (wk ⟨sR J,sR J,sR J,sR J,sE J ?_,sE J ?_,M⟩ ⟨bR J,M⟩) ?_
 .refine bY ?_;show ay .u64 (t.tdiv<|ay .u64<|I v (ah<|(Z v:V)-1) 0)=t/v1;have:=Int.ediv_le_self v1 k;rw[z,GL k,be _ X Y]
 .refine bY ?_;show(t.tmod<|ay .u64<|I v (ah<|(Z v:V)-1) 0)=t%v1;rw[z,J' k]
 .rintro⟨f,q,r⟩ ⟨i,h2,h3,h4,h5,h6⟩;simp only at i h2 h3 h4 h5 h6;have Ka:=K.q0;have hqs:=Q h2 h3;cases f with
  |zero=>omega
  |succ f=>
  rw[th]at i;have A:0<=q*v2/\q*v2<18446744073709551616:=by refine⟨ku Y Y,?_⟩;have:q*v2<=4294967297*4294967295:=y8 Y Y Y o;omega
  refine bA<|w<|rg 42 J J (λh=>?_)<|λh=>?_
  .have B:q>=4294967296:=by simpa using h
   have g:q>=4294967296\/q*v2>r*4294967296+u2:= .inl B;refine O J (F J (λ_=>?_)<|λd=>by cases d);have L:u/val v<q:=by
    rcases g with g|g
    .have:=K.GK;omega
    .exact K.down h2 Y g
   have C:ay .u64 (q-1)=q-1:=be _ Y Y;have R:ay .u64 (r+ay .u64 (I v (ah<|(Z v:V)-1) 0))=r+v1:=by rw[z,be _ Y Y]
   refine aG<|aA<|e J<|e J (hp:=lB)<|e J<|F J (λd=>?_)<|λd=>?_
   .have d:r+v1>=4294967296:=by
     have d:4294967296<=ay .u64 (r+ay .u64 (I v (ah<|(Z v:V)-1) 0)):=by simpa using d
     omega
    rw[gT g,gT d]at i;refine oc<|IF<|oS<|oe<|aR<|e J<|bX<|AZ cp J (bq.of_eq ?_) J;refine bY ?_;rw[<-i];exact C
   .have d:¬r+v1>=4294967296:=by
     have d:ay .u64 (r+ay .u64 (I v (ah<|(Z v:V)-1) 0))<4294967296:=by simpa using d
     omega
    rw[gT g,j d]at i;refine dk<|fT<|a6 (f,q-1,r+v1) ⟨i,O5,O6,O7,O8,O9⟩ (dO f)<|wk ⟨sR J,sR J,sR J,sR J,⟨_,J,bq.of_eq<|bY C⟩,⟨_,J,bq.of_eq<|bY R⟩,M⟩ ⟨bR J,M⟩
  .have B:¬q>=4294967296:=by have:q<4294967296:=eQ;omega
   have w3:ay .u64 (q*ay .u64 (I v (ah<|(Z v:V)-2) 0))=q*v2:=by rw[x2,be _ A.1 A.2]
   have w4:ay .u64 (ay .u64 (r*4294967296)+ay .u64 (I a (b+ah ((Z v:V)-2)) 0))=r*4294967296+u2:=by rw[x3,be (r*4294967296) Y Y,be _ Y Y]
   refine O J (hp:=lB)<|F J (λl=>?_)<|λl=>?_
   .have g:q>=4294967296\/q*v2>r*4294967296+u2:= .inr (by
     have l:ay .u64 (q*ay .u64 (I v (ah<|(Z v:V)-2) 0))>ay .u64 (ay .u64 (r*4294967296)+ay .u64 (I a (b+ah ((Z v:V)-2)) 0)):=by simpa using l
     rw[w3,w4]at l;exact l)
    have L:u/val v<q:=by
     rcases g with g|g
     .have:=K.GK;omega
     .exact K.down h2 Y g
    have C:ay .u64 (q-1)=q-1:=be _ Y Y;have R:ay .u64 (r+ay .u64 (I v (ah<|(Z v:V)-1) 0))=r+v1:=by rw[z,be _ Y Y]
    refine aG<|aA<|e J<|e J (hp:=lB)<|e J<|F J (λd=>?_)<|λd=>?_
    .have d:r+v1>=4294967296:=by
      have d:4294967296<=ay .u64 (r+ay .u64 (I v (ah<|(Z v:V)-1) 0)):=by simpa using d
      omega
     rw[gT g,gT d]at i;refine oc<|IF<|oS<|oe<|aR<|e J<|bX<|AZ cp J (bq.of_eq ?_) J;refine bY ?_;rw[<-i];exact C
    .have d:¬r+v1>=4294967296:=by
      have d:ay .u64 (r+ay .u64 (I v (ah<|(Z v:V)-1) 0))<4294967296:=by simpa using d
      omega
     rw[gT g,j d]at i;refine dk<|fT<|a6 (f,q-1,r+v1) ⟨i,O5,O6,O7,O8,O9⟩ (dO f)<|wk ⟨sR J,sR J,sR J,sR J,⟨_,J,bq.of_eq<|bY C⟩,⟨_,J,bq.of_eq<|bY R⟩,M⟩ ⟨bR J,M⟩
   .have g:¬(q>=4294967296\/q*v2>r*4294967296+u2):=by
     have l:¬ay .u64 (q*ay .u64 (I v (ah<|(Z v:V)-2) 0))>ay .u64 (ay .u64 (r*4294967296)+ay .u64 (I a (b+ah ((Z v:V)-2)) 0)):=by simpa using l
     rw[w3,w4]at l;omega
    rw[j g]at i;subst i;exact bD<|aR<|e J<|bX<|AZ cp J (bq.refl _) J
def b7:G->V->E V
 |0,_=>[]
 |n+1,x=>x%4294967296::b7 n (x/4294967296)
def uF:∀(n:G)(x:V),Z (b7 n x)=n
 |0,_=>rfl
 |n+1,x=>by rw[b7,iK,uF n]
def Kb:∀(n:G)(x:V),cc (b7 n x)
 |0,_=>Vn
 |n+1,x=>A6.2 ⟨⟨jq _ o,jr _ o⟩,Kb n _⟩
def qM n:(4294967296:V)^(n+1)=4294967296^n*4294967296:=gG _ _
def O'(x:V) n:x/4294967296^(n+1)=x/4294967296^n/4294967296:=by rw[qM,apJ<|by have:=kS n;omega]
def adU(x:V) n:x/4294967296^(n+1)=x/4294967296/4294967296^n:=by rw[qM,fo,apJ o]
def VM(x:V) n:x%4294967296^(n+1)=x%4294967296+4294967296*(x/4294967296%4294967296^n):=by
 have f:=o9 x<|4294967296^(n+1);have g:=o9 x 4294967296;have i:=o9 (x/4294967296)<|4294967296^n;rw[adU,qM]at f;rw[qM];generalize x/4294967296/4294967296^n=a at*;generalize x/4294967296%4294967296^n=b at*;generalize x/4294967296=c at*;have e:4294967296^n*4294967296*a=4294967296*(4294967296^n*a):=by rw[fo (4294967296^n) 4294967296,jP]
 rw[e]at f;generalize (4294967296:V)^n*a=d at*;omega
def Kc:∀(n:G)(x:V),val (b7 n x)=x%4294967296^n
 |0,x=>by rw[qN,Int.emod_one];rfl
 |n+1,x=>by rw[b7,val,Kc n,VM]
def GM:∀(n:G)(x:V),b7 (n+1) x=b7 n x++[x/4294967296^n%4294967296]
 |0,x=>by rw[qN,wg];rfl
 |n+1,x=>by rw[b7,GM n,b7,adU];rfl
def Pa:∀(n:G)(x a:V),x%4294967296^n=a%4294967296^n->b7 n x=b7 n a
 |0,_,_,_=>rfl
 |n+1,x,a,b=>by rw[VM,VM]at b;rw[b7,b7,Pa n (x/4294967296) (a/4294967296) Y,(Y:x%4294967296=a%4294967296)]
def VN n x a:b7 n (x+a*4294967296^n)=b7 n x:=Pa n _ _<|Vz _ _ _
def adV:∀{a:E V},cc a->b7 (Z a) (val a)=a
 |[],_=>rfl
 |b::a,d=>by let ⟨f,h2⟩:=A6.1 d;rw[iK,b7,val];rw[(Y:(b+4294967296*val a)%4294967296=b),(Y:(b+4294967296*val a)/4294967296=val a),adV h2]
def df(a:E V)(b:G)(d:E V):E V:=c b a++(d++az (b+Z d) a)
def Pb a b:df a b []=a:=by simp[df]
def y'{U}{j}{ws}(a:j+Z ws<=Z U):Z (df U j ws)=Z U:=by simp[df];omega
def Pc{U}{j}{ws}(b:j+Z ws<=Z U):I (df U j ws) (j+Z ws) 0=I U (j+Z ws) 0:=by unfold df;have a:(c j U).length=j:=b6;rw[aO,E4 Y,a,E4 Y,vn,aO];congr 2;omega
def Pe{U}{j}{ws}a(b:j+Z ws<Z U):(df U j ws).set (j+Z ws) a=df U j (ws++[a]):=by unfold df;have d:(c j U).length=j:=b6;rw[Pf _ _ Y,d,Pf _ _ Y,(Y:j+Z ws-j-Z ws=0)];rw[rZ b,VO,mX,iL];rfl
def VP{a}{f}{b}(d:cc a)(g:cc b):cc (df a f b):=Vp (jN d _)<|Vp g<|A7 d _
def VQ{b}{a}{d}(f:a+Z d<=Z b):az a (df b a d)=d++az (a+Z d) b:=by unfold df;have g:(c a b).length=a:=b6;rw[Cj Y,vo Y,tZ]
def adW{b}{a}{d}(f:a+Z d<=Z b):c a (df b a d)=c a b:=by unfold df;have g:(c a b).length=a:=b6;rw[yo Y,jy Y]
def VR(a:E V) b i:(az b a).getD i 0=I a (b+i) 0:=by rw[aO,vn,aO]
def adX a v d i f{D c b}(m:D=val ((az d a).take i)-f*val (List.take i v))(n:D/4294967296^i= -(c+b)):
  (let p:=f*List.getD v i 0+c
   let t:=4294967296+List.getD a (d+i) 0-p%4294967296-b
   let g:=val ((az d a).take<|i+1)-f*val (List.take (i+1) v)
   b7 (i+1) g=b7 i D++[t%4294967296]/\g/4294967296^(i+1)= -(p/4294967296+(1-t/4294967296))):=by
 intro p t g
 have k:g=D+(I a (d+i) 0-f*I v i 0)*4294967296^i:=by show val ((az d a).take<|i+1)-f*val (List.take (i+1) v)=_;rw[lA,lA,VR,m,pU,J9,jP];omega
 have l:g/4294967296^i= -(c+b)+(I a (d+i) 0-f*I v i 0):=by rw[k,Ds _ _ (by have:=kS i;omega),n]
 have s:p=f*I v i 0+c:=rfl
 have u:t=4294967296+I a (d+i) 0-p%4294967296-b:=rfl
 clear_value p t
 refine⟨?_,?_⟩
 .rw[GM,k,VN,<-k,l];congr 2;omega
 .rw[O',l];omega
def adY a v b i{D c}(k:D=val ((az b a).take i)+val (List.take i v))(l:D/4294967296^i=c):
  (let t:=List.getD a (b+i) 0+List.getD v i 0+c
   let d:=val ((az b a).take<|i+1)+val (List.take (i+1) v)
   b7 (i+1) d=b7 i D++[t%4294967296]/\d/4294967296^(i+1)=t/4294967296):=by
 intro t d
 have f:d=D+(I a (b+i) 0+I v i 0)*4294967296^i:=by show val ((az b a).take<|i+1)+val (List.take (i+1) v)=_;rw[lA,lA,VR,k,o0];omega
 have g:d/4294967296^i=c+(I a (b+i) 0+I v i 0):=by rw[f,Ds _ _ (by have:=kS i;omega),l]
 have m:t=I a (b+i) 0+I v i 0+c:=rfl
 clear_value t
 refine⟨?_,?_⟩
 .rw[GM,f,VN,<-f,g];congr 2;omega
 .rw[O',g];omega
def adZ{v}(d:cc v){a}(b:0<=a)(l:a<4294967296) i:0<=a*val (c i v)/4294967296^i/\a*val (c i v)/4294967296^i<4294967296:=by have f:=nb<|jN d i;have p:=ov<|jN d i;have s:=wb (m:=(c i v).length) (n:=i) b6;have g:=kS i;have k:0<=a*val (c i v):=ku b f;refine⟨Bb k Y,GF g ?_⟩;have t:a*val (c i v)<=4294967296*val (c i v):=iE Y f;have u:4294967296*val (c i v)<4294967296*4294967296^i:=Int.mul_lt_mul_of_pos_left Y o;omega
def ad0{v}{q a}i(b:a=q*val (c i v)/4294967296^i):q*val (c (i+1) v)/4294967296^(i+1)=(q*I v i 0+a)/4294967296:=by rw[O',lA,pU,<-jP,Ds _ _ (by have:=kS i;omega),b,xJ]
def apK{v}(f:cc v){b}(d:0<=b)(k:b<4294967296){a}(l:Z v<a):b*val (c a v)/4294967296^a=0:=by
 rw[nM v a Y];have g:=nb f;have p:=ov f;have s:=wb (m:=Z v) (n:=a-1) Y;have i:(4294967296:V)^a=4294967296^(a-1)*4294967296:=by rw[<-qM];congr 1;omega
 have t:b*val v<=4294967296*val v:=iE Y g;exact GG (ku d g) (by rw[i];omega)
def apL d v a g f(hU:cc d)(H:cc v)(hj:a+g<=Z d)(hL:Z v<g)(k:0<=f)(P:f<4294967296)(hl:Z d<=1099511627777):
  vX r 219 [.c (.W 0 a g),S ao v,cU f] 142 ao d (cB<|decide<|val ((az a d).take g)-f*val v<0) (df d a<|b7 g<|val ((az a d).take g)-f*val v):=by
 refine JP Tryz.func219 J J J J J o ?_
 refine e J<|e J<|e J<|h<|e J ?_
 refine aA<|bx (α:=G×V×V) (λx=>⟨[(0,.c<|.W 0 a g),(1,S ao v),(2,cU f),(7,cU x.2.1),(8,cU x.2.2),(9,y x.1)],[(0,.vec 142 ao<|df d a<|b7 x.1<|val ((az a d).take x.1)-f*val (c x.1 v))],5,[]⟩) (λx=>x.1<=g/\(val ((az a d).take x.1)-f*val (c x.1 v))/4294967296^x.1= -(x.2.1+x.2.2)/\x.2.1=f*val (c x.1 v)/4294967296^x.1/\(x.2.2=0\/x.2.2=1)) (λx=>g-x.1) (0,0,0) ⟨bm _,y4,y4,.inl J⟩ (wk (bP J) ⟨bE J ?_,M⟩) ?_
 .exact bl (aC.vec 142 ao) (Pb d a).symm
 rintro⟨i,K,b⟩ ⟨E,h2,l,m⟩
 simp only at E h2 l m
 have O:=adZ H k P i
 rw[<-l]at O
 refine h<|e J ?_
 refine F J (λn=>?_)<|λn=>?_
 .have n:i<g:=by simpa using n
  have R:=dv H i;have gu:=dv hU<|a+i;have hm:0<=f*I v i 0/\f*I v i 0<=18446744065119617025:=J4 k Y R.1 Y;have s:=adX d v a i f (c:=K) (b:=b) J h2;have N:=ad0 (v:=v) (q:=f) i l;simp only at s;let ⟨s1,s2⟩:=s;have u:Z (b7 i<|val ((az a d).take i)-f*val (c i v))=i:=uF _ _;have xD:=y' (U:=d) (j:=a) (ws:=b7 i<|val ((az a d).take i)-f*val (c i v)) Y;have z:=Pc (U:=d) (j:=a) (ws:=b7 i<|val ((az a d).take i)-f*val (c i v)) Y;have A:=λw=>Pe (U:=d) (j:=a) (ws:=b7 i<|val ((az a d).take i)-f*val (c i v)) w Y
  rw[u]at z A;refine aG<|h<|aA<|bL J J (Dk v i H) J ?_;have w1:ay .u64 (ay .u64 (f*I v i 0)+K)=f*I v i 0+K:=by rw[be (f*I v i 0) Y Y,be _ Y Y]
  generalize Q:f*I v i 0+K=p at*;have B:0<=p/\p<18446744073709551616:=Y;refine fg (st':=⟨[(0,.c<|.W 0 a g),(1,S ao v),(2,cU f),(8,cU b),(9,y i),(10,cU p)],[(0,.vec 142 ao<|df d a<|b7 i<|val ((az a d).take i)-f*val (c i v))],7,[]⟩) (wk ⟨sR J,sR J,sR J,sR J,sR J,⟨_,J,bq.of_eq<|bY w1⟩,M⟩ ⟨bR J,M⟩) ?_;generalize hX:df d a (b7 i<|val ((az a d).take i)-f*val (c i v))=X at*;refine e J<|e J (hp:=lB) ?_;have T:ah (i:V)=i:=cx i;have w2:ay .u64 (p.tdiv 4294967296)=p/4294967296:=by rw[GL B.1,be _ Y Y]
  have w3:ay .u64 (ay .u64 (ay .u64 (4294967296+ay .u64 (X.getD (a+ah (i:V)) 0))-p.tmod 4294967296)-b)=4294967296+I d (a+i) 0-p%4294967296-b:=by rw[T,z,J' B.1,be (I d (a+i) 0) Y Y,be (4294967296+_) Y Y,be (_-p%4294967296) Y Y,be _ Y Y]
  generalize ht:4294967296+I d (a+i) 0-p%4294967296-b=t at*;have C:0<=t/\t<8589934592:=Y;refine fg (st':=⟨[(0,.c<|.W 0 a g),(1,S ao v),(2,cU f),(7,cU<|p/4294967296),(9,y i),(11,cU t)],[(0,.vec 142 ao X)],9,[]⟩) (wk ⟨sR J,sR J,sR J,⟨_,J,bq.of_eq<|bY w2⟩,sR J,⟨_,J,bq.of_eq<|bY w3⟩,M⟩ ⟨bR J,M⟩) ?_;refine e J (hp:=lB)<|rt J ?_;refine bU<|rt J<|a6 (i+1,p/4294967296,1-t/4294967296) ⟨n,s2,N.symm,(Y:1-t/4294967296=0\/1-t/4294967296=1)⟩ (Y:g-(i+1)<g-i)<|wk ⟨sR J,sR J,sR J,sR J,sE J ?_,sE J ?_,M⟩ ⟨bE J ?_,M⟩
  .refine bY ?_;show ay .u64 (1-ay .u64 (t.tdiv 4294967296))=1-t/4294967296;rw[GL C.1,be (t/4294967296) Y Y,be _ Y Y]
  .exact bl y Y
  .refine bl (aC.vec 142 ao) ?_;show X.set (a+ah (i:V)) (ay .u32<|t.tmod 4294967296)=df d a (b7 (i+1) _);rw[s1,T,J' C.1,nO _ Y Y,A]
 .have n:¬i<g:=by simpa using n
  have cJ:i=g:=Y;subst cJ;rw[apK H k P hL]at l;rw[nM v i Y]at h2⊢;refine bD<|aR<|e J<|bX<|AZ cp J (bq.of_eq ?_) J;refine bl cB ?_;show(b==1)=_;have Q:=kS i;rcases m with m|m
  .subst m l;have:0<=val ((az a d).take i)-f*val v:=by have D:=o9 (val ((az a d).take i)-f*val v)<|4294967296^i;have h6:=jq (val ((az a d).take i)-f*val v) (Y:(4294967296:V)^i≠0);rw[h2]at D;simp at D;omega
   rw[tj Y];rfl
  .subst m l;have:val ((az a d).take i)-f*val v<0:=by have D:=o9 (val ((az a d).take i)-f*val v)<|4294967296^i;have h6:=jr (val ((az a d).take i)-f*val v) Q;rw[h2]at D;simp at D;omega
   rw[tk Y];rfl
def apM b v a d(z:cc b)(s:cc v)(N:a+d<=Z b)(P:Z v<=d)(Q:Z b<=1099511627777):
  vX r 220 [.c (.W 0 a d),S ao v] 142 ao b (.t []) (df b a<|b7 d<|val ((az a b).take d)+val v):=by
 refine JP Tryz.func220 J J J J J o ?_
 refine e J<|e J ?_
 refine aA<|bx (α:=G×V) (λx=>⟨[(0,.c<|.W 0 a d),(1,S ao v),(4,cU x.2),(5,y x.1)],[(0,.vec 142 ao<|df b a<|b7 x.1<|val ((az a b).take x.1)+val (c x.1 v))],3,[]⟩) (λx=>x.1<=d/\(val ((az a b).take x.1)+val (c x.1 v))/4294967296^x.1=x.2/\(x.2=0\/x.2=1)) (λx=>d-x.1) (0,0) ⟨bm _,y4,.inl J⟩ (wk (bP J) ⟨bE J ?_,M⟩) ?_
 .exact bl (aC.vec 142 ao) (Pb b a).symm
 rintro⟨i,p⟩ ⟨A,h2,B⟩
 simp only at A h2 B
 refine h<|e J ?_
 refine F J (λf=>?_)<|λf=>?_
 .have f:i<d:=by simpa using f
  have T:=dv s i;have q:=dv z<|a+i;have g:=adY b v a i (c:=p) J h2;simp only at g;let ⟨s1,s2⟩:=g;have k:Z (b7 i<|val ((az a b).take i)+val (c i v))=i:=uF _ _;have C:=y' (U:=b) (j:=a) (ws:=b7 i<|val ((az a b).take i)+val (c i v)) Y;have l:=Pc (U:=b) (j:=a) (ws:=b7 i<|val ((az a b).take i)+val (c i v)) Y;have m:=λD=>Pe (U:=b) (j:=a) (ws:=b7 i<|val ((az a b).take i)+val (c i v)) D Y
  rw[k]at l m;generalize E:df b a (b7 i<|val ((az a b).take i)+val (c i v))=X at*;have u:ah (i:V)=i:=cx i;refine aG<|h<|aA<|w<|rc J J (Dk v i s) (hp:=lB)<|O J ?_;have H:ay .u64 (ay .u64 (ay .u64 (X.getD (a+ah (i:V)) 0)+I v i 0)+p)=I b (a+i) 0+I v i 0+p:=by rw[u,l,be (I b (a+i) 0) Y Y,be (_+I v i 0) Y Y,be _ Y Y]
  generalize ht:I b (a+i) 0+I v i 0+p=t at*;have n:0<=t/\t<8589934592:=Y;refine fg (st':=⟨[(0,.c<|.W 0 a d),(1,S ao v),(5,y i),(6,cU t)],[(0,.vec 142 ao X)],5,[]⟩) (wk ⟨sR J,sR J,sR J,⟨_,J,bq.of_eq<|bY H⟩,M⟩ ⟨bR J,M⟩) ?_;refine e J (hp:=lB)<|rt J ?_;refine bU<|rt J<|a6 (i+1,t/4294967296) ⟨f,s2,(Y:t/4294967296=0\/t/4294967296=1)⟩ (Y:d-(i+1)<d-i)<|wk ⟨sR J,sR J,sE J ?_,sE J ?_,M⟩ ⟨bE J ?_,M⟩
  .refine bY ?_;show ay .u64 (t.tdiv 4294967296)=t/4294967296;rw[GL n.1,be (t/4294967296) Y Y]
  .exact bl y Y
  .refine bl (aC.vec 142 ao) ?_;show X.set (a+ah (i:V)) (ay .u32<|t.tmod 4294967296)=df b a (b7 (i+1) _);rw[s1,u,J' n.1,nO _ Y Y,m]
 .have f:¬i<d:=by simpa using f
  have K:i=d:=Y;subst K;rw[nM v i Y];exact bD<|ac2 cp J (bq.refl _) J
def VS{v}{n}(d:Z v=n+2):val v=(I v (n+1) 0*4294967296+I v n 0)*4294967296^n+val (c n v):=by
 have b:=lA v n;have a:=lA v<|n+1;rw[nM v (n+1+1) Y,qM]at a;rw[a,b,o0];have e:I v (n+1) 0*(4294967296^n*4294967296)=I v (n+1) 0*4294967296*4294967296^n:=by rw[fo (4294967296^n),jP]
 rw[e];omega
def apN d f n:val ((az f d).take<|n+3)=((I d (f+(n+2)) 0*4294967296+I d (f+(n+1)) 0)*4294967296+I d (f+n) 0)*4294967296^n+val ((az f d).take n):=by have k:=lA (az f d) n;have g:=lA (az f d)<|n+1;have i:=lA (az f d)<|n+2;rw[VR]at k g i;rw[qM]at g;rw[qM (n+1),qM]at i;rw[show n+3=n+2+1 from J,i,g,k];generalize (4294967296:V)^n=M;generalize I d (f+(n+2)) 0=a;generalize I d (f+(n+1)) 0=b;generalize I d (f+n) 0=c;grind
def ad1{U v}{j n}(a:cc U)(d:cc v)(m:Z v=n+2)(s:j+n+3<=Z U)(b:2147483648<=I v (n+1) 0)(f:val ((az j U).take<|n+3)<val v*4294967296):
  Kn1 (4294967296^n) (I v (n+1) 0) (I v n 0) (val<|c n v) (val v) (I U (j+(n+2)) 0*4294967296+I U (j+(n+1)) 0) (I U (j+n) 0) (val<|(az j U).take n) (val<|(az j U).take<|n+3):=by
 have p:=dv d<|n+1
 have g:=dv d n
 have t:=dv a<|j+(n+2)
 have u:=dv a<|j+(n+1)
 have i:=dv a<|j+n
 have k:=ov<|jN d n
 have l:=ov<|jN (A7 a j) n
 rw[(b6:(c n v).length=n)]at k
 rw[(b6:Z ((az j U).take n)=n)]at l
 exact⟨kS n,b,p.2,g.1,g.2,nb<|jN d n,k,Y,i.1,i.2,nb<|jN (A7 a j) n,l,VS m,apN U j n,f⟩
structure wh(A v:V)(lb M:G)(x:G×E V×E V):Prop where
 k:x.1<=M+1
 ul:x.2.1.length=M+lb+1
 ur:cc x.2.1
 ub:val (x.2.1.drop x.1)<v
 ql:x.2.2.length=M+1
 qr:cc x.2.2
 qz:∀i,i<x.1->x.2.2.getD i 0=0
 eq:A=val x.2.1+v*val x.2.2
def Bc a b(d:b<=Z a):val a=val (c b a)+4294967296^b*val (az b a):=by have:=Gz (c b a)<|az b a;rw[uj]at this;rw[this];congr 3;simp;omega
def ad2{a}(b:cc a) n(d:n<=Z a)(f:val a<4294967296^n):val (az n a)=0:=by
 have g:=Bc a n d;have i:=nb<|jN b n;have k:=nb<|A7 b n;by_cases e:val (az n a)=0
 .exact e
 .exfalso;have:4294967296^n*1<=4294967296^n*val (az n a):=l6 Y (by have:=kS n;omega);omega
def wh.VT{A v}{d g a}{b Q}(f:wh A v d g (a+1,b,Q))(p:v<4294967296^d):val (az a b)=val ((az a b).take<|d+1)/\val ((az a b).take<|d+1)<v*4294967296:=by
 have s:a+1<=g+1:=f.k;have t:Z b=g+d+1:=f.ul;have i:cc b:=f.ur;have u:val (az (a+1) b)<v:=f.ub;have n:az a b=I b a 0::az (a+1) b:=by rw[rZ Y];simp[aO,cT (Y:a<Z b)]
 have l:val ((az (a+1) b).drop d)=0:=ad2 (A7 i _) d b6 Y;have m:val (az a b)=val ((az a b).take<|d+1):=by have:=Bc (az a b) (d+1) b6;rw[rF]at this;rw[rF]at l;rw[this,(Y:a+(d+1)=a+1+d),l];simp
 refine⟨m,?_⟩;rw[<-m,n,val];have:=dv i a;omega
def wh.next{A v}{b l a}{d Q}(g:wh A v b l (a+1,d,Q))(m:0<v)(N:v<4294967296^b):
  wh A v b l (a,df d a<|b7 (b+1)<|val ((az a d).take<|b+1)%v,Q.set a<|val ((az a d).take<|b+1)/v):=by
 let ⟨H,P⟩:=g.VT N
 have F:a+1<=l+1:=g.k
 have T:Z d=l+b+1:=g.ul
 have K:cc d:=g.ur
 have s:Z Q=l+1:=g.ql
 have t:cc Q:=g.qr
 have n:∀i,i<a+1->I Q i 0=0:=g.qz
 have heq:A=val d+v*val Q:=g.eq
 have z:0<=val ((az a d).take<|b+1):=nb<|jN (A7 K _) _
 generalize hu:val ((az a d).take<|b+1)=u at*
 have W:=jq u (Y:v≠0)
 have X:=jr u m
 have c:0<=u/v:=Bb z Y
 have o:u/v<4294967296:=GF m (by rw[fo];exact P)
 have B:=o9 u v
 have C:Z (b7 (b+1)<|u%v)=b+1:=uF _ _
 have f:a+Z (b7 (b+1)<|u%v)<=Z d:=Y
 have D:u%v<4294967296^(b+1):=by rw[qM];have:=kS b;omega
 have q:val (az (a+(b+1)) d)=0:=by
  have:=Bc (az a d) (b+1) b6;rw[rF,hu,H]at this;have G:=kS<|b+1;have r:4294967296^(b+1)*val (az (a+(b+1)) d)=0:=Y;rcases Int.mul_eq_zero.1 r with e|e
  .omega
  .exact e
 have p:val (az a<|df d a<|b7 (b+1)<|u%v)=u%v:=by rw[VQ f,Gz,Kc,ix W D,C,q];simp
 refine⟨(Y:a<=l+1),by show Z (df _ _ _)=_;rw[y' f];exact T,VP K<|Kb _ _,by show val (az a<|df d a _)<v;rw[p];exact X,by show(Q.set _ _).length=_;simp[s],A8 t _ ⟨c,o⟩,?_,?_⟩
 .intro i J;show(Q.set a _).getD i 0=0;rw[aO,List.getElem?_set_ne Y,<-aO];exact n i Y
 .show A=val (df d a _)+v*val (Q.set a _);rw[Vq Q a _ Y,n a Y,Bc (df d a _) a (by rw[y' f];omega),adW f,p,heq,Bc d a Y,H];have w:v*(val Q+(u/v-0)*4294967296^a)=v*val Q+4294967296^a*(v*(u/v)):=by generalize u/v=x;generalize (4294967296:V)^a=y;grind
  have E:4294967296^a*u=4294967296^a*(u%v)+4294967296^a*(v*(u/v)):=by rw[<-pU,B]
  rw[w,E];omega
def wh.fin{A v}{g i}{a Q}(b:wh A v g i (0,a,Q)):val Q=A/v/\val a=A%v:=by have f:val a<v:=b.ub;have d:=nb b.ur;have heq:A=val a+v*val Q:=b.eq;simp only at d;have k:0<v:=Y;rw[heq,Int.add_mul_ediv_left _ _ Y,GG d f,Pg,ix d f];exact⟨Y,J⟩
def apO{b1:V}(f:1<=b1)(g:b1<4294967296):2147483648<=b1*(4294967296/(b1+1)):=by
 have i:=o9 4294967296<|b1+1;have k:=jr 4294967296 (Y:0<b1+1);generalize 4294967296/(b1+1)=d at*;generalize (4294967296:V)%(b1+1)=r at*;by_cases l:2147483648<=b1
 .have a:1<=d:=by
   by_cases e:1<=d
   .exact e
   .have:(b1+1)*d<=(b1+1)*0:=l6 Y Y;omega
  have:b1*1<=b1*d:=l6 a Y;omega
 .have b:0<=(b1-1)*(4294967296-2*b1-2):=ku Y Y;have m:(b1-1)*(4294967296-2*b1-2)=b1*4294967296-2*(b1*b1)-4294967296+2:=by grind
  have n:(b1+1)*(b1*d)=b1*(4294967296-r):=by rw[show(b1+1)*(b1*d)=b1*((b1+1)*d)by grind];congr 1;omega
  have p:b1*(4294967296-b1)<=b1*(4294967296-r):=l6 Y Y;have s:b1*(4294967296-b1)=b1*4294967296-b1*b1:=by rw[GN]
  by_cases e:2147483648<=b1*d
  .exact e
  .exfalso;have:(b1+1)*(b1*d)<=(b1+1)*2147483647:=l6 Y Y;omega
def apP{k n}(b:Z (R k)=n+2){a}(g:a=I (R k) (n+1) 0){d:G}(B:(d:V)=4294967296/(a+1)):
  1<=a/\a<4294967296/\1<=d/\d<4294967296/\((k*d:G):V)<4294967296^(n+2)/\Z (R<|k*d)=n+2/\2147483648<=I (R<|k*d) (n+1) 0:=by
 have i:=dv (eO k)<|n+1
 have C:=xH k
 have j:a≠0:=by
  rcases C with e|e
  .rw[e]at b;simp at b
  .rw[b]at e;rw[g];exact e
 rw[<-g]at i
 have D:=o9 4294967296<|a+1
 have H:=jq 4294967296 (Y:a+1≠0)
 have o:=jr 4294967296 (Y:0<a+1)
 have l:=apO (b1:=a) Y i.2
 rw[<-B]at D l
 have q:(1:V)<=d:=by
  by_cases e:(1:V)<=d
  .exact e
  .have:(d:V)=0:=by omega
   rw[this]at l;simp at l
 have r:(d:V)<4294967296:=by have:2*(d:V)<=(a+1)*d:=iE Y Y;omega
 have K:=VS b
 rw[fa,<-g]at K
 have N:=ov<|jN (eO k) n
 rw[(b6:Z (c n<|R k)=n)]at N
 have w:=nb<|jN (eO k) n
 have P:=dv (eO k) n
 have E:=kS n
 generalize I (R k) n 0=f at*
 generalize val (c n<|R k)=F at*
 have p:(4294967296:V)^(n+1)=4294967296^n*4294967296:=qM n
 have Q:a*4294967296^(n+1)<=(k:V):=by have:(a*4294967296)*4294967296^n<=(a*4294967296+f)*4294967296^n:=iE Y Y;rw[p,show a*(4294967296^n*4294967296)=a*4294967296*4294967296^n by rw[fo (4294967296^n),jP]];omega
 have T:(k:V)<(a+1)*4294967296^(n+1):=by
  have s:(a*4294967296+f+1)*4294967296^n<=(a*4294967296+4294967296)*4294967296^n:=iE Y Y;have t:(a*4294967296+f+1)*4294967296^n=(a*4294967296+f)*4294967296^n+4294967296^n:=by rw[o0 _ 1,mc]
  have u:(a*4294967296+4294967296)*4294967296^n=(a+1)*(4294967296^n*4294967296):=by generalize (4294967296:V)^n=y;grind
  rw[p,<-u];omega
 have z:((k*d:G):V)<4294967296^(n+2):=by
  rw[fP,qM];have s:(k:V)*d<(a+1)*4294967296^(n+1)*d:=Kd T Y;have t:(a+1)*4294967296^(n+1)*d=4294967296^(n+1)*((a+1)*d):=by generalize (4294967296:V)^(n+1)=y;grind
  have u:4294967296^(n+1)*((a+1)*d)<=4294967296^(n+1)*4294967296:=l6 Y Y;omega
 have A:Z (R<|k*d)=n+2:=by have s:Z (R<|k*d)<=n+2:=Dj z;have t:=uE (m:=k) (k:=k*d)<|Ke _ Y;omega
 refine⟨Y,i.2,Y,Y,z,A,?_⟩
 have v:=VS A
 have W:=ov<|jN (eO<|k*d) n
 rw[(b6:Z (c n<|R<|k*d)=n)]at W
 have X:=dv (eO<|k*d) n
 have h:=dv (eO<|k*d)<|n+1
 rw[fa,fP]at v
 generalize I (R<|k*d) n 0=x at*
 generalize I (R<|k*d) (n+1) 0=c1 at*
 generalize val (c n<|R<|k*d)=J at*
 by_cases e:2147483648<=c1
 .exact e
 .exfalso;have s:(c1*4294967296+x+1)*4294967296^n<=(c1*4294967296+4294967296)*4294967296^n:=iE Y Y;have t:(c1*4294967296+x+1)*4294967296^n=(c1*4294967296+x)*4294967296^n+4294967296^n:=by rw[o0 _ 1,mc]
  have u:(c1*4294967296+4294967296)*4294967296^n=(c1+1)*4294967296^(n+1):=by rw[p];generalize (4294967296:V)^n=y;grind
  have L:a*4294967296^(n+1)*d<=(k:V)*d:=iE Q Y;have M:(c1+1)*4294967296^(n+1)<=a*d*4294967296^(n+1):=iE Y Y;have O:a*4294967296^(n+1)*d=a*d*4294967296^(n+1):=by generalize (4294967296:V)^(n+1)=y;grind
  omega
def ad3{b}{a}{d f}(g:a+Z d<=Z b)(i:Z f=Z d):df (df b a d) a f=df b a f:=by unfold df;rw[show(c a b++(d++az (a+Z d) b)).take a=c a b from adW g,i];have k:(c a b).length=a:=b6;rw[List.drop_append,k,vo Y,tZ,(Y:a+Z d-a=Z d),List.drop_left'];rfl
def apQ m k n(B:Z (R k)=n+2)(nt:k<=m)(lm:Z (R m)<=1099511627776):aq r 186 [S ao (R m),S ao<|R k] (.t [(ak,[.S ao (R<|m/k)]),(ak,[.S ao (R<|m%k)])]):=by
 refine aS Tryz.func186 ?_;generalize L:I (R k) (n+1) 0=b1;obtain⟨d,hd⟩:∃d:G,(d:V)=4294967296/(b1+1):=⟨ah<|4294967296/(b1+1),xp<|Bb o<|by have:=dv (eO k)<|n+1;omega⟩;let ⟨f1,f2,f3,f4,f5,f6,f7⟩:=apP B L.symm hd;have og:0<k:=by
  rcases r8 k with l|l
  .subst l;rw[GA]at B;simp at B
  .exact l
 have hla:n+2<=Z (R m):=by rw[<-B];exact uE nt
 obtain⟨b,hM⟩:∃b,Z (R m)=b+(n+2):=⟨Z (R m)-(n+2),Y⟩;have VU:((m*d:G):V)<4294967296^(b+(n+2)+1):=by have h1:=wa (n:=m);rw[hM]at h1;rw[qM,fP];have:=kS<|b+(n+2);have h2:(m:V)*d<=(m:V)*4294967296:=l6 Y Y;omega
 have ayJ:Z (R<|m*d)<=b+(n+2)+1:=Dj VU;have apS:¬eE (m:V) (k:V)<0:=by unfold eE;rw[j Y];split<;>decide
 refine e J<|bA<|bL J J (J5 m k) J<|F J (λh=>aJ eQ apS)<|λ_=>aG ?_;refine bA<|e J<|F J (λh=>?_)<|λ_=>aG ?_
 .exfalso;have h:(Z (R k):V)=1:=eQ;omega
 have a2:ah ((Z (R k):V)-1)=n+1:=Y;have x1:ay .u64 (ay .u64 (I (R k) (ah<|(Z (R k):V)-1) 0)+1)=b1+1:=by rw[a2,L,be b1 Y Y,be _ Y Y]
 have x2:ay .u64 ((4294967296:V).tdiv<|ay .u64<|ay .u64 (I (R k) (ah<|(Z (R k):V)-1) 0)+1)=(d:V):=by rw[x1,GL o,<-hd,be _ Y Y]
 refine e J<|e J (hp:=by simp only[Pr.an,Pr.h,num,gy,true_and,and_true];rw[x1];omega) ?_;refine fg (st':=⟨[(0,S ao<|R m),(1,S ao<|R k),(8,y ((n+2:G):V)),(9,cU d)],[],5,[]⟩) (wk ⟨sR J,sR J,⟨_,J,bq.of_eq<|bl (λz:G=>y (z:V)) B⟩,⟨_,J,bq.of_eq<|bY x2⟩,M⟩ M) ?_;refine w<|rc J J (GB d Y)<|rc J J (Vx k d Y<|by have:=J6 (m:=d) Y;omega)<|O J ?_;refine w<|rm ao (Z (R m)+1) J J J J J J (nJ .u32) Y ?_ ?_<|O J ?_
 .show _*4<=_;omega
 .show _*1<=_;omega
 refine w<|rc J J (GB d Y)<|rc J J (Vx m d Y<|by have:=J6 (m:=d) Y;omega) ?_;refine OF J J J J J VV ax<|O J ?_;generalize K:R (m*d)++az (Z<|R<|m*d) (bt (Z (R m)+1) (0:V))=p;refine w<|rm ao (b+1) J J J J J J (nJ .u32) Y ?_ ?_<|O J ?_
 .show _*4<=_;omega
 .show _*1<=_;omega
 have D:val p=((m*d:G):V):=by rw[<-K,Gz,fa,(ax:az (Z<|R<|m*d) (bt (Z (R m)+1) (0:V))=bt (Z (R m)+1-Z (R<|m*d)) 0),OO];simp
 have H:cc p:=by rw[<-K];exact Vp (eO _)<|A7 (te _) _
 have VW:Z p=b+(n+2)+1:=by rw[<-K];simp;omega
 have Bd:(0:V)<((k*d:G):V):=by have:0<k*d:=Be og Y;omega
 have xG:wh ((m*d:G):V) ((k*d:G):V) (n+2) b (b+1,p,bt (b+1) 0):=by
  refine⟨aN _,VW,H,?_,ax,te _,λi hi=>?_,?_⟩
  .show val (az (b+1) p)<_;have h1:=Bc p (b+1) Y;have h2:=nb<|jN H<|b+1;have hp:=kS<|b+1;by_cases l:val (az (b+1) p)<((k*d:G):V)
   .exact l
   .exfalso;have h3:4294967296^(b+1)*((k*d:G):V)<=4294967296^(b+1)*val (az (b+1) p):=l6 Y Y;have h4:=OP (eO k) (xH k) (by intro l;rw[l]at B;simp at B);rw[fa,B,(Y:n+2-1=n+1)]at h4;have h5:=wa (n:=m);rw[hM,(Y:b+(n+2)=b+1+(n+1)),Int.pow_add]at h5;have h6:4294967296^(b+1)*4294967296^(n+1)*(d:V)<=4294967296^(b+1)*((k*d:G):V):=by rw[fP,jP];exact l6 (iE h4 Y) Y
    have h7:(m:V)*d<4294967296^(b+1)*4294967296^(n+1)*(d:V):=Kd h5 Y;rw[D,fP m d]at h1;omega
  .show I (bt (b+1) (0:V)) i 0=0;rw[aO,nc];split<;>rfl
  .show _=val p+_*val (bt (b+1) 0);rw[OO,D];omega
 refine bA<|e J ?_;refine aA<|bx (α:=G×E V×E V) (λx=>⟨[(8,y ((n+2:G):V)),(9,cU d),(10,S ao<|R<|k*d),(11,.c<|.X 6003000),(12,.c<|.X 8005000),(13,y<|(x.1:V)-1)],[(6003000,.vec 142 ao x.2.1),(8005000,.vec 142 ao x.2.2)],10,[]⟩) (wh ((m*d:G):V) ((k*d:G):V) (n+2) b) (λx=>x.1) (b+1,p,bt (b+1) 0) xG (wk ⟨sR J,sR J,sR J,sR J,sR J,sE J ?_,M⟩<|ny J) ?_
 .exact bl y Y
 rintro⟨T,U,Q⟩ s;have lV:Z U=b+(n+2)+1:=s.ul;have g:cc U:=s.ur;have Ph:Z Q=b+1:=s.ql;have Nt:T<=b+1:=s.k;refine bA<|e J ?_;refine F J (λh=>?_)<|λh=>?_
 .have h:(T:V)-1>=0:=by simpa using h
  obtain⟨a,rfl⟩:∃a,T=a+1:=⟨T-1,Y⟩;have ej:((a+1:G):V)-1=(a:V):=Y;rw[ej];have f:=s.next Bd f5;let ⟨_,xD⟩:=s.VT f5;have hK:=ad1 (U:=U) (v:=R<|k*d) (j:=a) (n:=n) g (eO _) f6 Y f7 (by rw[fa];exact xD);have pV:=dv (eO<|k*d)<|n+1;have N:=O4 hK 2 ((I U (a+(n+2)) 0*4294967296+I U (a+(n+1)) 0)/I (R<|k*d) (n+1) 0)<|(I U (a+(n+2)) 0*4294967296+I U (a+(n+1)) 0)%I (R<|k*d) (n+1) 0;have P:=hK.first;generalize VX:I (R<|k*d) (n+1) 0=v1 at N pV f7 P;generalize hte:I U (a+(n+2)) 0*4294967296+I U (a+(n+1)) 0=t at N P;have Pj:=jq t (Y:v1≠0);have s8:=jr t (Y:0<v1);have N:=N (by have h1:=o9 t v1;have h2:=fo (t/v1) v1;omega) Pj Y Y P;rw[<-hte,<-VX]at N;have Ux:=apG U (R<|k*d) a n g (eO _) f6 Y Y hK;have Ka:=hK.q0;generalize th 2 ((I U (a+(n+2)) 0*4294967296+I U (a+(n+1)) 0)/I (R<|k*d) (n+1) 0) ((I U (a+(n+2)) 0*4294967296+I U (a+(n+1)) 0)%I (R<|k*d) (n+1) 0) (I (R<|k*d) (n+1) 0) (I (R<|k*d) n 0) (I U (a+n) 0)=q at*;rw[fa]at N Ka;have hls:=apL U (R<|k*d) a (n+3) q g (eO _) Y Y Y N.2.2 Y;rw[fa]at hls;rw[show n+2+1=n+3 from J]at f xD;generalize hu:val ((az a U).take<|n+3)=u at*;have GO:=o9 u ((k*d:G):V);have Jt:=jq u (Y:((k*d:G):V)≠0);have A3:=jr u Bd;generalize hv:((k*d:G):V)=v at*;refine aG<|bA<|aA ?_;refine w<|rw_ a (a+(n+3)) J J J J J J Y Y (Y:a+(n+3)<=Z U)<|O J ?_
  refine fg (st':=⟨[(8,y ((n+2:G):V)),(9,cU d),(10,S ao<|R<|k*d),(11,.c<|.X 6003000),(12,.c<|.X 8005000),(13,y a),(14,.c<|.W 6003000 a<|n+3)],[(6003000,.vec 142 ao U),(8005000,.vec 142 ao Q)],12,[]⟩) (wk ⟨sR J,sR J,sR J,sR J,sR J,sR J,⟨_,J,bq.of_eq<|bl (λz=>AV.c<|C.W 6003000 a z) Y⟩,M⟩<|ny J) ?_;refine w<|A0 6003000 J Ux J J<|O J ?_;refine bA<|w<|A0 6003000 J hls J J<|O J ?_;have GP:∀x,Z (b7 (n+3) x)=n+3:=λx=>uF _ _
  refine F J (λh=>?_)<|λh=>?_
  .have h:u-q*v<0:=by simpa using h
   have A:q=u/v+1:=by
    by_cases l:q=u/v
    .subst l;have:=fo (u/v) v;omega
    .omega
   have VY:q*v=v*(u/v)+v:=by rw[A,o0,mc,fo]
   have hr:cc (df U a<|b7 (n+3)<|u-q*v):=VP g<|Kb _ _;have C5:=apM (df U a<|b7 (n+3)<|u-q*v) (R<|k*d) a (n+3) hr (eO _) (by rw[y' wi];omega) Y (by rw[y' wi];omega);have e1:df (df U a<|b7 (n+3)<|u-q*v) a (b7 (n+3)<|val (c (n+3)<|az a<|df U a<|b7 (n+3)<|u-q*v)+val (R<|k*d))=df U a (b7 (n+3)<|u%v):=by rw[ad3 wi (by rw[GP,GP]),VQ wi,yo wi,jy wi,Kc,fa,hv];refine bl (df U a)<|Pa _ _ _ ?_;rw[Int.emod_add_emod];congr 1;omega
   rw[e1]at C5;have w1:ay .u64 (q-1)=u/v:=by rw[be _ Y Y];omega
   refine e J<|cL<|A0 6003000 J C5 J J<|O J<|aR ?_;refine fg (st':=⟨[(8,y ((n+2:G):V)),(9,cU d),(10,S ao<|R<|k*d),(11,.c<|.X 6003000),(12,.c<|.X 8005000),(13,y a),(15,cU<|u/v)],[(6003000,.vec 142 ao<|df U a<|b7 (n+3)<|u%v),(8005000,.vec 142 ao Q)],16,[]⟩) (wk ⟨sR J,sR J,sR J,sR J,sR J,sR J,⟨_,J,bq.of_eq<|bY w1⟩,M⟩<|ny J) ?_;refine rt J (hp:=lB) ?_;refine bU<|rt J<|a6 (a,df U a<|b7 (n+3)<|u%v,Q.set a<|u/v) f (dO a)<|wk (bP J) ⟨bR J,bE J ?_,M⟩;refine bl (aC.vec 142 ao) ?_;show Q.set (ah (a:V)) (ay .u32<|u/v)=Q.set a (u/v);rw[cx,nO _ Y Y]
  .have h:¬u-q*v<0:=by simpa using h
   have A:q=u/v:=by
    by_cases l:q=u/v
    .exact l
    .exfalso;have e2:q=u/v+1:=Y;have VY:q*v=v*(u/v)+v:=by rw[e2,o0,mc,fo]
     omega
   have e1:u-q*v=u%v:=by have:=fo (u/v) v;rw[A];omega
   refine aG ?_;refine fg (st':=⟨[(8,y ((n+2:G):V)),(9,cU d),(10,S ao<|R<|k*d),(11,.c<|.X 6003000),(12,.c<|.X 8005000),(13,y a),(15,cU<|u/v)],[(6003000,.vec 142 ao<|df U a<|b7 (n+3)<|u%v),(8005000,.vec 142 ao Q)],16,[]⟩) (wk ⟨sR J,sR J,sR J,sR J,sR J,sR J,⟨_,J,bq.of_eq<|bY A⟩,M⟩ ⟨⟨_,J,lS.of_eq<|bl (λz=>aC.vec 142 ao<|df U a<|b7 (n+3) z) e1⟩,bR J,M⟩) ?_;refine rt J (hp:=lB) ?_;refine bU<|rt J<|a6 (a,df U a<|b7 (n+3)<|u%v,Q.set a<|u/v) f (dO a)<|wk (bP J) ⟨bR J,bE J ?_,M⟩;refine bl (aC.vec 142 ao) ?_;show Q.set (ah (a:V)) (ay .u32<|u/v)=Q.set a (u/v);rw[cx,nO _ Y Y]
 .have h:¬(T:V)-1>=0:=by simpa using h
  have hc:T=0:=Y;subst hc;let ⟨e1,e2⟩:=s.fin;have q1:aU Q=R (m/k):=by
   rw[qF s.qr];show R (ah<|val Q)=_;rw[e1];have:((m*d:G):V)/((k*d:G):V)=((m/k:G):V):=by rw[<-y7,Nat.mul_div_mul_right _ _ Y]
   rw[this,cx]
  have q2:R (ah<|val (aU U)/(d:V))=R (m%k):=by
   rw[adw];show R (ah<|val U/(d:V))=_;rw[e2];have:((m*d:G):V)%((k*d:G):V)/(d:V)=((m%k:G):V):=by rw[<-Kf,Nat.mul_mod_mul_right,<-y7,VZ _ Y]
   rw[this,cx]
  have za:=adD (aU U) (d:V) (adx g) Y Y (by
   have h2:Z (aU U)<=n+2:=by rw[qF g];apply Dj;have h3:val U<((k*d:G):V):=s.ub;omega
   omega)
  rw[q2]at za;refine bD<|aR<|dm 6003000 J J J<|dm 8005000 J J J ?_;refine w<|rc J J (A9 U)<|rc J J za<|O J ?_;refine bL J J (A9 Q) J<|cd J ?_;rw[q1]
def ad5 m k(b:k≠0)(a:Z (R m)<=1099511627776):aq r 186 [S ao (R m),S ao<|R k] (.t [(ak,[.S ao (R<|m/k)]),(ak,[.S ao (R<|m%k)])]):=by
 by_cases h:m<k\/k<4294967296
 .exact apn m k b h a
 .have f:2<=Z (R k):=by
   by_cases e:2<=Z (R k)
   .exact e
   .exfalso;have g:=wa (n:=k);have d:=wb (m:=Z<|R k) (n:=1) Y;rw[Int.pow_one]at d;omega
  exact apQ m k (Z (R k)-2) Y Y a
def GQ a b(n:b≠0)(m:Sm a)(k:Sm b):aq r 183 [aZ a,aZ b] (.t [(af,av .z<|a/b),(af,av .z<|a%b),(ak,[.I .i64 0])]):=by
 refine aS Tryz.func183 ?_;refine e J<|h<|e J ?_;have d:aD b≠0:=Y;refine F J (λh2=>?_)<|λh2=>?_
 .exfalso;have h2:(Z (eX b):V)=0:=rK;have:=qJ.2 d;unfold eX at h2;omega
 .refine aG<|bL J J (ad5 _ _ d m) J<|h<|w ?_;refine rg 25 J J (λh3=>?_) (λh3=>?_)
  .have h3:a<0:=by simpa[cv]using h3
   refine O J<|F J (λh4=>?_)<|λh4=>?_
   .have h4:aD a%aD b≠0:=by have h4:(Z (R<|aD a%aD b):V)>0:=Pk;exact qJ.1 Y
    let ⟨e1,f⟩:=adH (pT d) h3 h4;have hz:cv a=af:=GR;let ⟨g,i⟩:=GH a b (aD a/aD b+1) (aD b-aD a%aD b) GS f;have p:aD a%aD b<aD b:=gJ _<|pT d;refine w<|rl ao [_] J J (rc J J (adB (aD a/aD b) 1 ?_ o)<|O J<|cL<|rc J J (Vw (aD b) _ Y k)<|O J<|aR<|w ?_)
    .exact bZ (uE<|Nat.div_le_self _ _) m
    refine rc J J (r7 _ _)<|rc J J (r7 _ _)<|O J<|cd J ?_;rw[g,i];rfl
   .have h4:aD a%aD b=0:=by have h4:¬(Z (R<|aD a%aD b):V)>0:=Pk;exact VG λl=>by have:=qJ.2 l;omega
    let ⟨e1,f⟩:=adG (pT d) h3 h4;have hz:cv a=af:=GR;let ⟨g,i⟩:=GH a b (aD a/aD b) (aD a%aD b) GS (by rw[f,h4];rfl);refine aG<|w<|rc J J (r7 _ _)<|rc J J (r7 _ _)<|O J<|cd J ?_;rw[g,i];rfl
  .have h3:¬a<0:=by simpa[cv]using h3
   refine O J<|F J (λh4=>by simp at h4)<|λh4=>?_;let ⟨e1,f⟩:=adF (pT d) h3;have hz:cv a=ak:=GR;let ⟨g,i⟩:=GH a b (aD a/aD b) (aD a%aD b) GS f;refine aG<|w<|rc J J (r7 _ _)<|rc J J (r7 _ _)<|O J<|cd J ?_;rw[g,i];rfl
def apU m k(v:Z (R m)<=1099511627776)(z:Z (R k)<=1099511627776):aq r 148 [S ao (R m),S ao<|R k] (S ao<|R<|o8 m k):=by
 refine aS Tryz.func148 ?_;refine e J<|bA<|aA<|bx (α:=G×G) (λx=>⟨[(0,S ao<|R x.1),(1,S ao<|R x.2)],[],1,[]⟩) (λx=>o8 x.1 x.2=o8 m k/\Z (R x.1)<=1099511627776/\Z (R x.2)<=1099511627776) (λx=>x.2) (m,k) ⟨J,v,z⟩ aY ?_;rintro⟨x,y⟩ ⟨hg,lx,i⟩;simp only at hg lx i;refine bA<|e J ?_;refine F J (λh=>?_)<|λh=>?_
 .have A:y≠0:=by have h:(Z (R y):V)>0:=eQ;exact qJ.1 Y
  have a:aq r 186 [S ao (R x),S ao<|R y] (.t [(ak,[.S ao (R<|x/y)]),(ak,[.S ao (R<|x%y)])]):=ad5 x y A lx;have d:o8 y (x%y)=o8 m k:=by rw[<-hg,Ba x y,Nat.gcd_rec y x,Ba]
  have f:x%y<y:=gJ _ Y;have g:Z (R<|x%y)<=1099511627776:=bZ (uE Y) i;refine aG<|aA<|bA<|w ?_;refine rg 13 J J (λh2=>?_)<|λh2=>?_
  .have h2:Z (R x)<=2:=by have h2:(Z (R x):V)<=2:=rK;omega
   refine O J<|F J (λh3=>?_)<|λh3=>?_
   .have h3:Z (R y)<=2:=by have h3:(Z (R y):V)<=2:=Cd;omega
    have l:x<18446744073709551616:=by have B:=wa (n:=x);have p:=wb h2;rw[show(4294967296:V)^2=18446744073709551616 from J]at p;omega
    have b:y<18446744073709551616:=by have B:=wa (n:=y);have p:=wb h3;rw[show(4294967296:V)^2=18446744073709551616 from J]at p;omega
    refine w<|rc J J (Vy x l)<|rc J J (Vy y b)<|rc J J (apl x y l b)<|rc J J (GB _ ?_)<|O J<|bX ?_
    .by_cases s:x=0
     .rw[s,Nat.gcd_zero_left];exact b
     .exact tm (Nat.gcd_le_left y Y) l
    .repeat(first|refine da ?_|refine mz ?_|refine m0 ?_)
     refine fO J ?_;rw[<-hg]
   .refine aG<|bL J J a J<|e J<|rt J<|fT<|a6 (y,x%y) ⟨d,i,g⟩ f aY
  .refine O J<|F J (λh3=>by cases h3)<|λ_=>?_;refine aG<|bL J J a J<|e J<|rt J<|fT<|a6 (y,x%y) ⟨d,i,g⟩ f aY
 .have h:Z (R y)=0:=by have:¬(Z (R y):V)>0:=eQ;omega
  have s:y=0:=VG λu=>by have:=qJ.2 u;omega
  subst s;refine bD<|aR<|e J<|cd J ?_;rw[<-hg,OT]
def Pl a b(d:Sm a)(f:Sm b):aq r 96 [aZ a,aZ b] (aZ<|iR a b):=by refine aS Tryz.func96 ?_;refine e J<|w ?_;refine rc J J (apU _ _ d f)<|rc J J (r7 ak _)<|O J<|cd J ?_;rfl
def V0 a b(g:Sm a)(i:Sm b):aq r 209 [aZ a,aZ b] (aZ<|a-b):=by
 refine aS Tryz.func209 ?_;have d:Sm (-b):=by unfold Sm eX at i⊢;rwa[Int.natAbs_neg]
 have f:=yZ a (-b) g d;rw[<-V1]at f;exact e J<|w<|rc J J (Vv b)<|rc J J f<|O J<|di J
def apV a(k:0<=a)(l:a<9223372036854775808):aq r 250 [aZ a] (.t [(ak,[.I .i64 a]),(ak,[.B af])]):=by
 refine aS Tryz.func250 ?_;have d:aD a<18446744073709551616:=Y;have m:=J6 d;have f:cv a=ak:=by simp[cv];omega
 refine e J<|bA<|e J<|F J (λh=>?_)<|λ_=>aG ?_
 .exfalso;have h:(Z (eX a):V)>2:=eQ;unfold eX at h;omega
 refine bL J J (Vy (aD a) d) J ?_;refine bA<|w<|rg 15 J J (λh=>?_)<|λh=>?_
 .refine O J (F J (λb=>?_)<|λb=>?_)
  .have g: -9223372036854775808<=((aD a:G):V)/\((aD a:G):V)<=9223372036854775807:=by omega
   refine e J (bX<|da<|fO J ?_) (hp:=g);exact bl (λx=>AV.t [(ak,[C.I .i64 x]),(ak,[C.B af])]) Y
  .exfalso;have i:decide (((aD a:G):V)<9223372036854775808)=af:=tk Y;rw[cond_true,i]at b;cases b
 .rw[f]at h;cases h
def pS.fs{P}{f}{args}{bp}{T}{xs}(cP:pS P f args bp T xs):aq P f args (.c<|.S T xs):=by
 refine⟨cP.call,J,λH W vs w g y=>?_⟩;let ⟨e,F,G,⟨v,s,X,t,hle,x,i,l⟩,h2⟩:=cP.spec H W vs w g y;refine⟨e,F,G,?_,h2⟩;rcases t with⟨a,A⟩|⟨b,p,B,a,I,L,C,z,q,R,M⟩
 .subst A;refine⟨v,s,X,?_,hle,x,i,l⟩;have a:v= .slice none 0 0:=a;exact⟨none,0,a,ax,ax,.inl J⟩
 .have a:v= .slice (some ⟨b,0,none⟩) (Z xs) p:=a;have m:cD s (λd o=>if d=b then(if o<Z xs*T.n then B[o]? else none)else s d o):=by
   intro d o v g;by_cases e:d=b
   .subst e;have:s d o=none:=M o;rw[this]at g;cases g
   .simp[e,g]
  refine⟨v,λd o=>if d=b then(if o<Z xs*T.n then B[o]? else none)else s d o,X,?_,cD.trans hle m,?_,?_,l⟩
  .refine⟨some ⟨b,0,none⟩,p,a,C,z,?_⟩;by_cases A:xs=[]
   .exact .inl A
   .refine .inr ⟨b,0,J,λk r=>⟨(az (k*T.n) B).take T.n,de.length T _ _<|q k r,de.mono m T _ _<|q k r,λj O=>?_⟩⟩;have D:(k+1)*T.n<=p*T.n:=eB _ Y;have K:(k+1)*T.n<=Z xs*T.n:=eB _ Y;rw[fZ,hY]at D K;simp only[hZ,yx]at O;have N:k*T.n+j<Z xs*T.n:=Y;simp only[cr,fc,sK,vk,N];exact cT Y
  .intro d o Q;have:d≠b:=Y;simp only[this,bV];exact x d o Q
  .intro d o u g;by_cases e:d=b
   .subst e;simp only[cr]at g;split at g
    .simp[World.cell?,I,g]
    .cases g
   .simp only[e,bV]at g;exact i d o u g
def ad6{P}{n}{x d}{f}{Q}{g:Type}(b:g->St)(i:g->Prop)(a:∀m,i m->TR P n d (b m) Q)(k:(∀m,i m->gf n .normal (b m) (vq P d Q))->TR P n x f (vq P d Q)):TR P n (.seq x d) f Q:=
 h (k λm l=>aR<|a m l)
def nP{P}{n}{x d}{f}{Q}b(a:TR P n d b Q)(g:gf n .normal b (vq P d Q)->TR P n x f (vq P d Q)):TR P n (.seq x d) f Q:=
 h (g<|aR a)
def fp{n}{b}{d a}{Q}(f:gf n b a Q)(g:Wk d a):gf n b d Q:=MQ g f
end Go.El
