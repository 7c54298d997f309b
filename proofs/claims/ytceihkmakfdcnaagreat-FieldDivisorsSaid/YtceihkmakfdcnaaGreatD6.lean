/- Contracts: integers of the program: division by one word, shifts. Own work; no condition. -/
import Derived.Test.YtceihkmakfdcnaaGreatD5
import Derived.Test.YtceihkmakfdcnaaGreatD4
import Derived.Test.YtceihkmakfdcnaaGreatD3
set_option linter.all false
set_option maxHeartbeats 16000000
set_option maxRecDepth 100000
open BitVec renaming ofInt->jm
open Bool renaming false->ah,true->ae
open Decidable renaming byContradiction->HX
open Go.El renaming cS->I,rr->N,ja->S,re->z,du->j,jd->r,cI->R,rb->F
open Go.IntKind renaming wrap->ay,bits->dm
open Go.Proofs.Tryz renaming prog->q,func190->ZD
open Int renaming toNat->af,natAbs->aC
open List renaming length->Z,replicate->bc,getD->E,take->c,drop->aA
open _root_ renaming Nat->Y,Int->G,List->V
namespace Go.El
open Go Go.Proofs Go.RowKit
def ak4(x:Y)(a:0<x)(d:x<4294967296):∃s:Y,r q 223 [cW x] (R s)/\s<=31/\2147483648<=x*2^s/\x*2^s<4294967296:=by
 let ⟨l,f,n,h2,g,i⟩:=ak3 x a d;have e:2^l*2^(32-l)=4294967296:=by rw[<-k4,(O:l+(32-l)=32)]
 have k:0<2^(32-l):=gQ D;have o:x*2^(32-l)<2^l*2^(32-l):=R9 g k;have m:2^l*2^(32-l)<=2*x*2^(32-l):=eC _ i;rw[pj]at m;refine⟨32-l,?_,O,O,O⟩;refine aI Tryz.func223 ?_;refine N J<|F<|rc J J f<|z J (hp:=aF)<|bU J<|je ?_;show(32:G)-(l:G)=((32-l:Y):G);omega
def ak5 a d(u:bT a)(o:0<d)(y:d<4294967296)(U:Z a<=1099511627776):r q 222 [I aq a,cU d] (.t [(ah,[.S aq (ao<|af<|val a/d)]),(ah,[.I .u64 (val a%d)])]):=by
 refine aI Tryz.func222 ?_;refine N J<|F ?_;refine rm aq (Z a) J J J J J J (mI .u32) J ?_ ?_ ?_
 .show _*4<=_;omega
 .show _*1<=_;omega
 refine z J<|N J<|du<|N J ?_;refine au<|a8 (α:=Y×V G×G) (λx=>⟨[(0,I aq a),(1,cU d),(6,.c<|.X 1002000),(7,cU x.2.2),(8,R<|(x.1:G)-1)],[(1002000,.vec 142 aq x.2.1)],4,[]⟩) (Es a d) (λx=>x.1) (Z a,bc (Z a) 0,0) ?_ aM ?_
 .exact⟨aO _,az,rf _,hO _,o,xr⟩
 .rintro⟨k,l,f⟩ i;have A:Z l=Z a:=i.len;have n:0<=f:=i.r0;have p:f<d:=i.r1;have W:k<=Z a:=i.k;refine du<|N J ?_;refine al J (λm=>?_) (λm=>?_)
  .have m:(k:G)-1>=0:=by simpa using m
   obtain⟨j,rfl⟩:∃j,k=j+1:=⟨k-1,O⟩;have B:af (((j+1:Y):G)-1)=j:=O;have g:=dt u j;have L:=LV n p g.1 g.2 y;have C:=i.next u y;refine aD<|du<|au<|N J (hp:=aF) ?_;have H:ay .u64 ((jm (dm .u64) (ay .u64<|f*2^(min (af ((32:Y):G))<|dm .u64))|||jm (dm .u64) (ay .u64<|E a (af<|((j+1:Y):G)-1) 0)).toNat:G)=f*4294967296+E a j 0:=by rw[B,zf f 32 n O O,wrap_u64 (E a j 0) O O,BE (f*2^32) (E a j 0) 32 O (EF _ _) O O O,show(2:G)^32=4294967296 from J]
   generalize ht:f*4294967296+E a j 0=s at C L H;have M:ay .u32 (ay .u64<|s.tdiv d)=s/d:=by rw[uj O,wrap_u64 _ O O,wrap_u32 _ O O]
   have P:s.tmod d=s%d:=me O;refine eP (st':=⟨[(0,I aq a),(1,cU d),(6,.c<|.X 1002000),(8,R<|((j+1:Y):G)-1),(9,cU s)],[(1002000,.vec 142 aq l)],6,[]⟩) (wk ⟨sR J,sR J,sR J,sR J,sE J ?_,h⟩ ⟨bR J,h⟩) ?_
   .exact bP H
   refine N J<|rt J<|bw<|rt J<|aT (j,l.set j<|s/d,s%d) C s8<|wk ⟨sR J,sR J,sR J,sE J ?_,sE J ?_,h⟩ ⟨bE J ?_,h⟩
   .exact bP P
   .refine je ?_;show((j+1:Y):G)-1-1=(j:G)-1;omega
   .rw[M,B]
  .have m:¬((k:G)-1>=0):=by simpa using m
   have:k=0:=O;subst this;refine a7<|aL<|cY 1002000 J J J<|F ?_;refine rc J J (vR _)<|z J<|bU J ?_;have K:val a=val l*d+f:=i.v;have Q:bT l:=i.r;have eq:val a/d=val l:=by rw[K,vS,Bz _ _ O,Et n p];omega
   have T:val a%d=f:=by rw[K,vS,RE,gX n p]
   rw[oN Q,eq,T];rfl
def ak6{a}(d:bT a) s i:0<=val (c i a)*2^s/4294967296^i/\val (c i a)*2^s/4294967296^i<2^s:=by have f:=l0<|jk d i;have l:=m8<|jk d i;have o:=tJ (m:=(c i a).length) (n:=i) b8;have g:=jF i;have k:(0:G)<2^s:=nH D;refine⟨yw (jx f O) O,Dg g ?_⟩;rw[eX];exact Int.mul_lt_mul_of_pos_left O k
def ak7 a s i:
  bS (i+1) (val (c (i+1) a)*2^s)=bS i (val (c i a)*2^s)++[(E a i 0*2^s+val (c i a)*2^s/4294967296^i)%4294967296]/\
  val (c (i+1) a)*2^s/4294967296^(i+1)=(E a i 0*2^s+val (c i a)*2^s/4294967296^i)/4294967296:=by
 have f:=jF i
 have e:val (c (i+1) a)*2^s=val (c i a)*2^s+E a i 0*2^s*4294967296^i:=by rw[km,nI,jl,eX<|4294967296^i,<-jl]
 have d:val (c (i+1) a)*2^s/4294967296^i=E a i 0*2^s+val (c i a)*2^s/4294967296^i:=by rw[e,Bz _ _ O,vS]
 refine⟨?_,by rw[L2,d]⟩
 rw[Ew,d,e,RK]
def Zy xs n(a:G):(xs++bc (n+1) 0).set (Z xs) a=(xs++[a])++bc n 0:=by rw[L7 _ _ (aO _),lH,wP,L8,l7];rfl
def Zz a(s:Y)(y:bT a)(B:s<=31)(L:Z a<=1099511627776):ox q 224 [I aq a,R s] 142 aq (bS (Z a+1)<|val a*2^s):=by
 refine HG Tryz.func224 J J J J D ?_;have u:(2:G)^s<=2^31:=by have:=eQ (D:2>0) B;have A:(2:G)^s=((2^s:Y):G):=az;omega
 have C:(0:G)<2^s:=nH D;refine N J<|F ?_;refine rm aq (Z a+1) J J J J J J (mI .u32) J ?_ ?_ ?_
 .show _*4<=_;omega
 .show _*1<=_;omega
 refine z J<|N J<|j<|N J ?_;refine au<|a8 (α:=Y) (λi=>⟨[(0,I aq a),(1,R s),(5,.c<|.X 1003000),(6,cU<|val (c i a)*2^s/4294967296^i),(14,R<|Z a),(15,R i)],[(1003000,.vec 142 aq<|bS i (val (c i a)*2^s)++bc (Z a+1-i) 0)],4,[]⟩) (λi=>i<=Z a) (λi=>Z a-i) 0 (aY _) (wk ⟨sR J,sR J,sR J,sE J ?_,sR J,sR J,h⟩ ⟨bE J ?_,h⟩) ?_
 .simp[val];rfl
 .simp[bS]
 intro i M;have m:=ak6 y s i;have f:=ak7 a s i;have d:Z (bS i<|val (c i a)*2^s)=i:=tb _ _;generalize n:val (c i a)*2^s/4294967296^i=k at m f;refine N J<|j ?_;refine al J (λl=>?_)<|λl=>?_
 .have l:i<Z a:=by simpa using l
  have g:=dt y i;have v:0<=E a i 0*2^s:=jx g.1 O;have H:E a i 0*2^s<=4294967295*2^31:=wT O u O D;refine aD<|j<|au<|N J<|N J (hp:=aF) ?_;have K:ay .u64 ((jm (dm .u64) (ay .u64<|ay .u64 (E a (af (i:G)) 0)*2^(min (af ((s:Y):G))<|dm .u64))|||jm (dm .u64) k).toNat:G)=E a i 0*2^s+k:=by rw[bY i,wrap_u64 (E a i 0) O O,zf _ s g.1 O O,BE _ k s v (EF _ _) m.1 m.2 O]
  generalize ht:E a i 0*2^s+k=t at*;refine eP (st':=⟨[(0,I aq a),(1,R s),(5,.c<|.X 1003000),(7,R i),(8,cU t),(14,R<|Z a),(15,R i)],[(1003000,.vec 142 aq<|bS i (val (c i a)*2^s)++bc (Z a+1-i) 0)],7,[]⟩) (wk ⟨sR J,sR J,sR J,sR J,sE J ?_,sR J,sR J,h⟩ ⟨bR J,h⟩) ?_
  .exact bP K
  have x:Z (bS i (val (c i a)*2^s)++bc (Z a+1-i) (0:G))=Z a+1:=by rw[iq,d,fo];omega
  refine N J (hp:=aF)<|rt J (hp:=aF)<|bw<|rt J<|aT (i+1) l nS<|wk ⟨sR J,sR J,sR J,sE J ?_,sR J,sR J,h⟩ ⟨bE J ?_,h⟩
  .refine bP ?_;rw[f.2];exact zg t 32 O
  .refine be (aG.vec 142 aq) ?_;have A:ay .u32 t=t%4294967296:=Mg;have o:=Zy (bS i<|val (c i a)*2^s) (Z a-i)<|t%4294967296;rw[d,(O:Z a-i+1=Z a+1-i)]at o;rw[A,bY,o,f.1,(O:Z a-i=Z a+1-(i+1))]
 .have l:¬i<Z a:=by simpa using l
  have e:i=Z a:=O;subst e;have p:k<4294967296:=O;have x:Z (bS (Z a) (val (c (Z a) a)*2^s)++bc (Z a+1-Z a) (0:G))=Z a+1:=by rw[iq,d,fo];omega
  refine a7<|aL<|N J (hp:=aF)<|N J ?_;refine eP (st':=⟨[(4,.c<|.X 1003000)],[(1003000,.vec 142 aq<|bS (Z a+1)<|val a*2^s)],20,[]⟩) (wk ⟨sR J,h⟩ ⟨bE J ?_,h⟩)<|bL<|HE (id:=1003000) cv J J;refine be (aG.vec 142 aq) ?_;have o:=Zy (bS (Z a)<|val (c (Z a) a)*2^s) 0 k;rw[d]at o;rw[wrap_u32 k m.1 p,bY,(O:Z a+1-Z a=0+1),o,DV,iD,Ew,fR];rw[fR]at n;rw[n,gX m.1 p]
def ak8 t s(a:0<=t)(k:t<18446744073709551616)(f:s<=31):
  ay .u64 ((jm (dm .u64) t&&& jm (dm .u64) (ay .u64<|ay .u64 (1*2^(min (af ((s:Y):G))<|dm .u64))-1)).toNat:G)=t%2^s:=by
 have l:2^s<=2^31:=eQ D f
 have d:0<2^s:=gQ D
 have g:(2:G)^s=((2^s:Y):G):=az
 obtain⟨T,rfl⟩:=BF a
 rw[zf 1 s D O O,kL,wrap_u64 (2^s-1) O O]
 have i:(2:G)^s-1=((2^s-1:Y):G):=O
 rw[i,Mm,Mm,BitVec.toNat_and,Mn,Mn,show dm .u64=64 from J,o6 O,o6 O,Nat.and_two_pow_sub_one_eq_mod]
 have:=fS T d
 rw[wrap_u64 _ O O,g,HW]
def ak9 a(s:Y)(p:bT a)(u:s<=31)(P:Z a<=1099511627776):r q 226 [I aq a,R s] (I aq<|ao<|af<|val a/2^s):=by
 refine aI Tryz.func226 ?_;have K:(2:G)^s<=2^31:=by have:=eQ (D:2>0) u;have Q:(2:G)^s=((2^s:Y):G):=az;omega
 have m:(0:G)<2^s:=nH D;refine N J<|F ?_;refine rm aq (Z a) J J J J J J (mI .u32) J ?_ ?_ ?_
 .show _*4<=_;omega
 .show _*1<=_;omega
 refine z J<|N J<|du<|N J ?_;refine au<|a8 (α:=Y×V G×G) (λx=>⟨[(0,I aq a),(1,R s),(5,.c<|.X 1002000),(6,cU x.2.2),(7,R<|(x.1:G)-1)],[(1002000,.vec 142 aq x.2.1)],4,[]⟩) (Es a<|2^s) (λx=>x.1) (Z a,bc (Z a) 0,0) ?_ aM ?_
 .exact⟨aO _,az,rf _,hO _,m,xr⟩
 .rintro⟨k,i,d⟩ f;have y:Z i=Z a:=f.len;have n:0<=d:=f.r0;have A:d<2^s:=f.r1;have T:k<=Z a:=f.k;refine du<|N J ?_;refine al J (λl=>?_) (λl=>?_)
  .have l:(k:G)-1>=0:=by simpa using l
   obtain⟨j,rfl⟩:∃j,k=j+1:=⟨k-1,O⟩;have B:af (((j+1:Y):G)-1)=j:=O;have g:=dt p j;have o:=LV n A g.1 g.2 O;have C:=f.next p O;refine aD<|du<|au<|N J (hp:=aF) ?_;have H:ay .u64 ((jm (dm .u64) (ay .u64<|d*2^(min (af ((32:Y):G))<|dm .u64))|||jm (dm .u64) (ay .u64<|E a (af<|((j+1:Y):G)-1) 0)).toNat:G)=d*4294967296+E a j 0:=by rw[B,zf d 32 n O O,wrap_u64 (E a j 0) O O,BE (d*2^32) (E a j 0) 32 O (EF _ _) O O O,show(2:G)^32=4294967296 from J]
   generalize ht:d*4294967296+E a j 0=t at C o H;refine eP (st':=⟨[(0,I aq a),(1,R s),(5,.c<|.X 1002000),(7,R<|((j+1:Y):G)-1),(8,cU t)],[(1002000,.vec 142 aq i)],6,[]⟩) (wk ⟨sR J,sR J,sR J,sR J,sE J ?_,h⟩ ⟨bR J,h⟩) ?_
   .exact bP H
   refine N J (hp:=aF)<|rt J (hp:=aF)<|bw<|rt J<|aT (j,i.set j<|t/2^s,t%2^s) C s8<|wk ⟨sR J,sR J,sR J,sE J ?_,sE J ?_,h⟩ ⟨bE J ?_,h⟩
   .exact bP<|ak8 t s o.1 o.2.1 u
   .refine je ?_;show((j+1:Y):G)-1-1=(j:G)-1;omega
   .refine be (aG.vec 142 aq) ?_;rw[zg t s O,B,wrap_u32 _ O O]
  .have l:¬((k:G)-1>=0):=by simpa using l
   have:k=0:=O;subst this;refine a7<|aL<|cY 1002000 J J J<|F ?_;refine rc J J (vR _)<|z J<|bU J ?_;have L:val a=val i*2^s+d:=f.v;have M:bT i:=f.r;have eq:val a/2^s=val i:=by rw[L,vS,Bz _ _ O,Et n A];omega
   rw[oN M,eq]
def qE n:ay .u64 n=n%18446744073709551616:=Mg
def xy n:ay .u32 n=n%4294967296:=Mg
def xA{x y:G}(h:(x !=y)=ae):x≠y:=et
def vX{x y:G}(h:(x !=y)=ah):x=y:=et
def ak' a d(o:bT a)(p:bT d)(y:can a)(A:can d):r q 161 [I aq a,I aq d] (R<|dR (val a)<|val d):=by
 refine aI Tryz.func161<|vJ 0 J λt=>vJ 1 J λu=>?_;simp only[ET.n,qB]at t u;refine N J<|du<|N J ?_;refine al J (λh=>?_)<|λh=>?_
 .have h:Z a≠Z d:=by have h:=xA h;omega
  refine du<|N J ?_;refine al J (λf=>?_)<|λf=>?_
  .have f:Z a<Z d:=by have f:(Z a:G)<(Z d:G):=aU f;omega
   refine N J<|bL ?_;repeat(first|refine cK ?_|refine kX ?_|refine lI ?_)
   refine eJ J ?_;rw[dR,b<|Kc o p A f];rfl
  .have f:¬Z a<Z d:=by have f:¬(Z a:G)<(Z d:G):=a6 f;omega
   refine aD ?_;refine N J<|bL ?_;repeat(first|refine cK ?_|refine kX ?_|refine lI ?_)
   refine eJ J ?_;have:=Kc p o y O;rw[dR,w O,b this];rfl
 .have v:Z a=Z d:=by have h:=vX h;omega
  refine aD<|du<|N J ?_;refine au<|a8 (α:=Y) (λk=>⟨[(0,I aq a),(1,I aq d),(5,R<|(k:G)-1)],[],3,[]⟩) (λk=>k<=Z a/\aA k a=aA k d) (λk=>k) (Z a) ⟨aO _,by simp[v]⟩ aM ?_;rintro k ⟨C,m⟩;refine du<|N J ?_;refine al J (λx=>?_)<|λx=>?_
  .simp at x;obtain⟨j,rfl⟩:∃j,k=j+1:=⟨k-1,O⟩;have B:(((j+1:Y):G)-1)=j:=O;have i:j<Z a:=O;rw[B];refine aD<|du<|au<|N J ?_;refine al J (λs=>?_) (λs=>?_)
   .have s:E a j 0≠E d j 0:=xA s;refine du<|N J ?_;refine al J (λl=>?_) (λl=>?_)
    .have l:E a j 0<E d j 0:=aU l;refine N J<|bL ?_;repeat(first|refine cK ?_|refine kX ?_|refine lI ?_)
     refine eJ J ?_;rw[dR,b<|Kd o p j m v i l];rfl
    .have l:¬E a j 0<E d j 0:=a6 l;refine aD ?_;refine N J<|bL ?_;repeat(first|refine cK ?_|refine kX ?_|refine lI ?_)
     refine eJ J ?_;have:=Kd p o j m.symm v.symm O O;rw[dR,w O,b this];rfl
   .have e:E a j 0=E d j 0:=vX s;refine cP<|bw<|rt J<|aT j ⟨O,?_⟩ s8 aM;have g:j<Z d:=O;rw[rK i,rK g,m];simp only[aK,cO i,cO g,rh]at e;rw[e]
  .simp at x;have:k=0:=O;subst this;refine a7<|aL ?_;refine N J<|bL ?_;repeat(first|refine cK ?_|refine kX ?_|refine lI ?_)
   refine eJ J ?_;simp only[qu]at m;rw[m,dR,w O,w O];rfl
def Mr m k:r q 161 [I aq (ao m),I aq<|ao k] (R<|dR m k):=by have:=ak' (ao m) (ao k) (dW m) (dW k) (vk m)<|vk k;rw[eN,eN]at this;exact this
def ala a f(s:bT a)(t:bT f)(T:Z f<=Z a)(B:val f<=val a)(U:Z a<=1099511627776):r q 162 [I aq a,I aq f] (I aq<|ao<|af<|val a-val f):=by
 refine aI Tryz.func162 ?_;refine N J<|F ?_;refine rm aq (Z a) J J J J J J (mI .u32) J ?_ ?_ ?_
 .show _*4<=_;omega
 .show _*1<=_;omega
 refine z J<|N J<|j<|N J ?_;generalize hM:Z a=M;refine au<|a8 (α:=Y×V G×G) (λx=>⟨[(0,I aq a),(1,I aq f),(5,.c<|.X 1002000),(6,cU x.2.2),(13,R M),(14,R x.1)],[(1002000,.vec 142 aq x.2.1)],4,[]⟩) (HM a f M) (λx=>M-x.1) (0,bc M 0,0) ?_ ?_ ?_
 .refine⟨aY _,az,rf M,?_,hO _,HL,Bu⟩;intro W _;simp only[aK,lM];split<;>rfl
 .exact aM
 .rintro⟨i,o,g⟩ l;have m:Z o=M:=l.len;have C:0<=g:=l.c0;have H:g<=1:=l.c1;have u:i<=M:=l.i;have w:=dt s i;have D:=dt t i;refine N J<|j ?_;refine al J (λk=>?_) (λk=>?_)
  .have k:i<M:=by have k:(i:G)<(M:G):=aU k;omega
   have p:=l.next k s t;simp only at p;refine aD<|j<|au<|N J<|N J (hp:=aF) ?_;refine j<|N J ?_;refine al J (λh2=>?_)<|λh2=>?_
   .have h2:i<Z f:=by have h2:(i:G)<(Z f:G):=aU h2;omega
    refine rt J (hp:=aF)<|aL ?_;have n:ay .u64 (ay .u64 (ay .u64 (E a (af (i:G)) 0)-g)-ay .u64 (E f (af (i:G)) 0))=(E a i 0-E f i 0-g)%18446744073709551616:=by rw[bY,qE,qE,qE,qE];omega
    generalize K:(E a i 0-E f i 0-g)%18446744073709551616=d at n;refine eP (st':=⟨[(0,I aq a),(1,I aq f),(5,.c<|.X 1002000),(7,R i),(8,cU d),(13,R M),(14,R i)],[(1002000,.vec 142 aq o)],20,[]⟩) (wk ⟨sR J,sR J,sR J,sR J,sE J ?_,sR J,sR J,h⟩ ⟨bR J,h⟩) ?_
    .exact bP n
    refine N J (hp:=aF)<|rt J (hp:=aF)<|bw<|rt J<|aT (i+1,o.set i<|(4294967296+E a i 0-E f i 0-g)%4294967296,1-(4294967296+E a i 0-E f i 0-g)/4294967296) p xp<|wk ⟨sR J,sR J,sR J,sE J ?_,sR J,sR J,h⟩ ⟨bE J ?_,h⟩
    .refine bP ?_;show d.fdiv (2^(min (af ((63:Y):G))<|dm .u64))=1-(4294967296+E a i 0-E f i 0-g)/4294967296;rw[zg d 63 O];omega
    .refine be (aG.vec 142 aq) ?_;show o.set (af (i:G)) (ay .u32 d)=o.set i ((4294967296+E a i 0-E f i 0-g)%4294967296);rw[bY,xy];exact be (o.set i) O
   .have h2:¬i<Z f:=by have h2:¬(i:G)<(Z f:G):=a6 h2;omega
    have L:E f i 0=0:=R7;refine aD ?_;have n:ay .u64 (ay .u64 (E a (af (i:G)) 0)-g)=(E a i 0-E f i 0-g)%18446744073709551616:=by rw[bY,qE,qE];omega
    generalize K:(E a i 0-E f i 0-g)%18446744073709551616=d at n;refine eP (st':=⟨[(0,I aq a),(1,I aq f),(5,.c<|.X 1002000),(7,R i),(8,cU d),(13,R M),(14,R i)],[(1002000,.vec 142 aq o)],20,[]⟩) (wk ⟨sR J,sR J,sR J,sR J,sE J ?_,sR J,sR J,h⟩ ⟨bR J,h⟩) ?_
    .exact bP n
    refine N J (hp:=aF)<|rt J (hp:=aF)<|bw<|rt J<|aT (i+1,o.set i<|(4294967296+E a i 0-E f i 0-g)%4294967296,1-(4294967296+E a i 0-E f i 0-g)/4294967296) p xp<|wk ⟨sR J,sR J,sR J,sE J ?_,sR J,sR J,h⟩ ⟨bE J ?_,h⟩
    .refine bP ?_;show d.fdiv (2^(min (af ((63:Y):G))<|dm .u64))=1-(4294967296+E a i 0-E f i 0-g)/4294967296;rw[zg d 63 O];omega
    .refine be (aG.vec 142 aq) ?_;show o.set (af (i:G)) (ay .u32 d)=o.set i ((4294967296+E a i 0-E f i 0-g)%4294967296);rw[bY,xy];exact be (o.set i) O
  .have k:¬i<M:=by have k:¬(i:G)<(M:G):=a6 k;omega
   have u:i=M:=O;subst u;refine a7<|aL<|cY 1002000 J J J<|F ?_;refine rc J J (vR _)<|z J<|bU J ?_;have y:bT o:=l.r;have A:val o-g*4294967296^i=val (c i a)-val (c i f):=l.v;rw[mA a i O,mA f i O]at A;have P:g=0:=by
    have Q:=m8 y;rw[m]at Q;rcases(O:g=0\/g=1)with e|e
    .exact e
    .subst e;omega
   subst P;rw[oN y,<-A];simp
def R' m k(a:k<=m)(d:Z (ao m)<=1099511627776):r q 162 [I aq (ao m),I aq<|ao k] (I aq<|ao<|m-k):=by have:=ala (ao m) (ao k) (dW m) (dW k) (s' a) (by rw[eN,eN];omega) d;rw[eN,eN,(O:af ((m:G)-(k:G))=m-k)]at this;exact this
def alb f g m k(l:Z (ao m)<=1099511627776)(n:Z (ao k)<=1099511627776):r q 130 [.a [.B f,.S aq<|ao m],.a [.B g,.S aq<|ao k]] (aZ<|sg f m+sg g k):=by
 refine aI Tryz.func130 ?_;refine N J<|j<|N J ?_;refine al J (λh=>?_)<|λh=>?_
 .have h:f=g:=eq_of_beq h;subst h;refine F<|rc J J (Zu _ _ l n)<|rc J J (ph _ _)<|z J<|bL<|cK<|eJ J ?_;have i:sg f (m+k)=sg f m+sg f k:=by unfold sg;split<;>omega
  exact be aZ i
 .have h:f≠g:=λe=>by subst e;simp at h
  refine aD<|j<|bt J J (Mr _ _) J ?_;refine al J (λd=>?_)<|λd=>?_
  .have d:k<=m:=by have d:dR (m:G) (k:G)>=0:=aU d;unfold dR at d;split at d<;>omega
   refine F<|rc J J (R' _ _ d l)<|rc J J (ph _ _)<|z J<|bL<|cK<|eJ J ?_;have i:sg f (m-k)=sg f m+sg g k:=by unfold sg;cases f<;>cases g<;>simp at h⊢<;>omega
   exact be aZ i
  .have d:m<=k:=by
    have d:¬dR (m:G) (k:G)>=0:=a6 d;unfold dR at d;split at d
    .omega
    .split at d<;>omega
   refine aD<|F<|rc J J (R' _ _ d n)<|rc J J (ph _ _)<|z J<|bU J ?_;have i:sg g (k-m)=sg f m+sg g k:=by unfold sg;cases f<;>cases g<;>simp at h⊢<;>omega
   exact be aZ i
def alc a d(f:Sm a)(g:Sm d):r q 130 [aZ a,aZ d] (aZ<|a+d):=by have h:=alb (cd a) (cd d) (aC a) (aC d) f g;rw[y8,y8]at h;exact h
def nV{x y:G}(h:(x==y)=ah):x≠y:=et
def ald U v a n(hU:bT U)(hv:bT v)(hn:Z v=n+2)(hj:a+n+3<=Z U)(hl:Z U<=1099511627777)(ale:2147483648<=E v (n+1) 0)(hZ:val ((aA a U).take<|n+3)<val v*4294967296):
  ui Tryz.prog 225 [.c (.W 0 a<|n+3),I aq v] 142 aq U (cW<|val ((aA a U).take<|n+3)/val v) (dk U a<|bS (n+3)<|val ((aA a U).take<|n+3)%val v):=by
 refine HI Tryz.func225 J J J J J D ?_
 have K:=Zl hU hv hn hj ale hZ
 have g1:=dt hU<|a+(n+2)
 have g2:=dt hU<|a+(n+1)
 have g3:=dt hU<|a+n
 have k1:=dt hv<|n+1
 have k2:=dt hv n
 have qe:=K.qe
 have hvp:=K.Dd
 have a1:af ((Z v:G))=n+2:=O
 have a2:af ((Z v:G)-1)=n+1:=O
 have a3:af ((Z v:G)-2)=n:=O
 generalize hQ:rN 2 ((E U (a+(n+2)) 0*4294967296+E U (a+(n+1)) 0)/E v (n+1) 0) ((E U (a+(n+2)) 0*4294967296+E U (a+(n+1)) 0)%E v (n+1) 0) (E v (n+1) 0) (E v n 0) (E U (a+n) 0)=g
 refine N J<|N J<|N J (hp:=aF) ?_
 rw[a1,a2]
 have e6:ay .u64 ((jm (dm .u64) (ay .u64<|ay .u64 (E U (a+(n+2)) 0)*2^(min (af ((32:Y):G))<|dm .u64))|||jm (dm .u64) (ay .u64<|E U (a+(n+1)) 0)).toNat:G)=E U (a+(n+2)) 0*4294967296+E U (a+(n+1)) 0:=by rw[wrap_u64 (E U (a+(n+2)) 0) O O,wrap_u64 (E U (a+(n+1)) 0) O O,zf _ 32 O O O,BE _ _ 32 O (EF _ _) O O O,show(2:G)^32=4294967296 from J]
 have ev1:ay .u64 (E v (n+1) 0)=E v (n+1) 0:=wrap_u64 _ O O
 have ev2:ay .u64 (E v n 0)=E v n 0:=wrap_u64 _ O O
 have eu2:ay .u64 (E U (a+n) 0)=E U (a+n) 0:=wrap_u64 _ O O
 have L:0<=E U (a+(n+2)) 0*4294967296+E U (a+(n+1)) 0:=O
 have ht1:E U (a+(n+2)) 0*4294967296+E U (a+(n+1)) 0<18446744073709551616:=O
 have HZ:=@Kn1.small _ _ _ _ _ _ _ _ _ K
 have dz:=@LW _ _ _ _ _ _ _ _ _ K
 have ZA:=K.first
 have HS:=K.q0
 refine eP (st':=⟨[(0,.c<|.W 0 a<|n+3),(1,I aq v),(5,R<|Z v),(6,cU<|E U (a+(n+2)) 0*4294967296+E U (a+(n+1)) 0)],[(0,.vec 142 aq U)],4,[]⟩) (wk ⟨sR J,sR J,sR J,sE J ?_,aX⟩ ⟨bR J,aX⟩) ?_
 .exact bP e6
 generalize E U (a+(n+2)) 0*4294967296+E U (a+(n+1)) 0=t at*
 generalize RY:E v (n+1) 0=v1 at*
 generalize alj:E v n 0=v2 at*
 generalize alk:E U (a+n) 0=u2 at*
 generalize H2:val ((aA a U).take<|n+3)=u at*
 have x1:ay .u64 (E v (af<|(Z v:G)-1) 0)=v1:=by rw[a2,RY];exact ev1
 have x2:ay .u64 (E v (af<|(Z v:G)-2) 0)=v2:=by rw[a3,alj];exact ev2
 have x3:ay .u64 (E U (a+af ((Z v:G)-2)) 0)=u2:=by rw[a3,alk];exact eu2
 have Sa:0<=t/v1:=yw L O
 have zd:0<=t%v1:=iN _ O
 have vT:t%v1<v1:=iO _ O
 have di:=nU t v1
 have Q:((-9223372036854775808<=(Z v:G)-1/\(Z v:G)-1<=9223372036854775807)/\0<=(Z v:G)-1/\(Z v:G)-1<(Z v:G))/\ay .u64 (E v (af<|(Z v:G)-1) 0)≠0:=by rw[x1];omega
 have ZB:=dz 2 (t/v1) (t%v1) (by rw[eX];omega) zd O RI ZA
 rw[hQ]at ZB
 let ⟨q1,q2,q3⟩:=ZB
 refine N J (hp:=by simp only[Pr.an,Pr.h,num,gT,true_and,and_true];exact⟨⟨⟨Q,Q.1.1⟩,Q.1.2⟩,Q.2⟩) ?_
 refine jH ⟨[(0,.c<|.W 0 a<|n+3),(1,I aq v),(5,R<|Z v),(7,cU g)],[(0,.vec 142 aq U)],30,[]⟩ ?_<|λS=>au<|a8 (α:=Y×G×G) (λx=>⟨[(0,.c<|.W 0 a<|n+3),(1,I aq v),(5,R<|Z v),(6,cU t),(7,cU x.2.1),(8,cU x.2.2)],[(0,.vec 142 aq U)],6,[]⟩) (λx=>rN x.1 x.2.1 x.2.2 v1 v2 u2=g/\t=x.2.1*v1+x.2.2/\0<=x.2.2/\x.2.2<4294967296/\4294967296<=x.2.2+x.1*2147483648/\u/val v<=x.2.1) (λx=>x.1) (2,t/v1,t%v1) ⟨hQ,by show t=t/v1*v1+t%v1;rw[eX];omega,zd,(O:t%v1<4294967296),RI,ZA⟩ (wk ⟨sR J,sR J,sR J,sR J,sE J ?_,sE J ?_,aX⟩ ⟨bR J,aX⟩) ?_
 .clear dz HZ hQ;refine N J<|j<|N J ?_;refine au (a8 (α:=Y×G×G) (λx=>⟨[(0,.c<|.W 0 a<|n+3),(1,I aq v),(5,R<|Z v),(7,cU g),(9,cU x.2.1),(10,cU x.2.2),(82,R<|Z v),(83,R x.1)],[(0,.vec 142 aq<|dk U a<|bS x.1<|val ((aA a U).take x.1)-g*val (c x.1 v))],32,[]⟩) (λx=>x.1<=n+2/\(val ((aA a U).take x.1)-g*val (c x.1 v))/4294967296^x.1= -(x.2.1+x.2.2)/\x.2.1=g*val (c x.1 v)/4294967296^x.1/\(x.2.2=0\/x.2.2=1)) (λx=>n+2-x.1) (0,0,0) ⟨aY _,xr,xr,.inl J⟩ (wk (bO J) ⟨bE J ?_,aX⟩) ?_)
  .exact be (aG.vec 142 aq) (L4 U a).symm
  rintro⟨i,y,C⟩ ⟨H,h2,V,h4⟩;simp only at H h2 V h4;have k:=Zj hv (O:0<=g) q3 i;rw[<-V]at k;have gu:=dt hU<|a+i;have M:=Zh U v a i g (c:=y) (b:=C) J h2;have P:Z (bS i<|val ((aA a U).take i)-g*val (c i v))=i:=tb _ _;have xw:=xu (U:=U) (j:=a) (ws:=bS i<|val ((aA a U).take i)-g*val (c i v)) O;have A:=L5 (U:=U) (j:=a) (ws:=bS i<|val ((aA a U).take i)-g*val (c i v)) O;have B:=λH3=>L6 (U:=U) (j:=a) (ws:=bS i<|val ((aA a U).take i)-g*val (c i v)) H3 O
  rw[P]at A B;simp only at M;let ⟨s1,s2⟩:=M;refine N J<|j ?_;refine al J (λh=>?_)<|λh=>?_
  .have h:i<n+2:=by have h:(i:G)<(Z v:G):=aU h;omega
   have gv:=dt hv i;have hm:0<=g*E v i 0/\g*E v i 0<=18446744065119617025:=HO O O gv.1 O;have QW:=Zk (v:=v) (q:=g) i V;refine aD<|j<|au<|N J<|N J (hp:=aF) ?_;have ei:af (i:G)=i:=bY i;have T:ay .u64 (ay .u64 (g*ay .u64 (E v (af (i:G)) 0))+y)=g*E v i 0+y:=by rw[ei,wrap_u64 (E v i 0) O O,wrap_u64 (g*E v i 0) O O,wrap_u64 _ O O]
   generalize hp:g*E v i 0+y=p at*;refine eP (st':=⟨[(0,.c<|.W 0 a<|n+3),(1,I aq v),(5,R<|Z v),(7,cU g),(10,cU C),(11,R i),(12,cU p),(82,R<|Z v),(83,R i)],[(0,.vec 142 aq<|dk U a<|bS i<|val ((aA a U).take i)-g*val (c i v))],40,[]⟩) (wk ⟨sR J,sR J,sR J,sR J,sR J,sR J,sE J ?_,sR J,sR J,aX⟩ ⟨bR J,aX⟩) ?_
   .exact bP T
   generalize hX:dk U a (bS i<|val ((aA a U).take i)-g*val (c i v))=X at*;refine N J<|N J (hp:=aF) ?_;have w2:p.fdiv (2^(min (af ((32:Y):G))<|dm .u64))=p/4294967296:=zg p 32 O;have w3:ay .u64 (ay .u64 (ay .u64 (X.getD (a+af (i:G)) 0)-ay .u64 (ay .u32 p))-C)=(E U (a+i) 0-p%4294967296-C)%18446744073709551616:=by rw[ei,A,qE,qE,qE,qE,xy];omega
   generalize hd:(E U (a+i) 0-p%4294967296-C)%18446744073709551616=d at*;refine eP (st':=⟨[(0,.c<|.W 0 a<|n+3),(1,I aq v),(5,R<|Z v),(7,cU g),(9,cU<|p/4294967296),(11,R i),(13,cU d),(82,R<|Z v),(83,R i)],[(0,.vec 142 aq X)],44,[]⟩) (wk ⟨sR J,sR J,sR J,sR J,sE J ?_,sR J,sE J ?_,sR J,sR J,aX⟩ ⟨bR J,aX⟩) ?_
   .exact bP w2
   .exact bP w3
   refine N J (hp:=aF)<|rt J (hp:=aF)<|bw<|rt J<|aT (i+1,p/4294967296,1-(4294967296+E U (a+i) 0-p%4294967296-C)/4294967296) ⟨(O:i+1<=n+2),s2,QW.symm,(O:1-(4294967296+E U (a+i) 0-p%4294967296-C)/4294967296=0\/1-(4294967296+E U (a+i) 0-p%4294967296-C)/4294967296=1)⟩ (O:n+2-(i+1)<n+2-i)<|wk ⟨sR J,sR J,sR J,sR J,sR J,sE J ?_,sR J,sR J,aX⟩ ⟨bE J ?_,aX⟩
   .refine bP ?_;show d.fdiv (2^(min (af ((63:Y):G))<|dm .u64))=1-(4294967296+E U (a+i) 0-p%4294967296-C)/4294967296;rw[zg d 63 O];omega
   .refine be (aG.vec 142 aq) ?_;show X.set (a+af (i:G)) (ay .u32 d)=dk U a (bS (i+1) _);rw[s1,ei,xy,(O:d%4294967296=(4294967296+E U (a+i) 0-p%4294967296-C)%4294967296),B]
  .have e:i=n+2:=by have h:¬(i:G)<(Z v:G):=a6 h;omega
   subst e;have vU:E v (n+2) 0=0:=by simp[aK,iX (O:Z v<=n+2)]
   rw[vU,gY,BG,gX k.1 k.2,Et k.1 k.2,BG,mA v (n+2+1) O,H2]at s2;rw[vU,gY,BG,gX k.1 k.2,mA v (n+2+1) O,H2]at s1;generalize hX:dk U a (bS (n+2)<|val ((aA a U).take<|n+2)-g*val (c (n+2) v))=X at*;refine a7<|aL<|N J (hp:=aF) ?_;have w3:ay .u64 (ay .u64 (ay .u64 (X.getD (a+(Z v:G).toNat) 0)-y)-C)=(E U (a+(n+2)) 0-y-C)%18446744073709551616:=by rw[a1,A,qE,qE,qE];omega
   generalize hd:(E U (a+(n+2)) 0-y-C)%18446744073709551616=d at*;refine eP (st':=⟨[(0,.c<|.W 0 a<|n+3),(1,I aq v),(5,R<|Z v),(7,cU g),(14,cU d)],[(0,.vec 142 aq X)],44,[]⟩) (wk ⟨sR J,sR J,sR J,sR J,sE J ?_,aX⟩ ⟨bR J,aX⟩) ?_
   .exact bP w3
   refine N J (hp:=aF)<|j<|N J (hp:=aF) ?_;have Sb:X.set (a+(Z v:G).toNat) (ay .u32 d)=dk U a (bS (n+3)<|u-g*val v):=by rw[a1,show n+3=n+2+1 from J,s1,xy,(O:d%4294967296=(4294967296+E U (a+(n+2)) 0-y-C)%4294967296),B]
   have xx:d.fdiv (2^(min (af ((63:Y):G))<|dm .u64))=1-(4294967296+E U (a+(n+2)) 0-y-C)/4294967296:=by rw[zg d 63 O];omega
   generalize HD:1-(4294967296+E U (a+(n+2)) 0-y-C)/4294967296=b' at*;have avy:b'=0\/b'=1:=O;have ze:=nU u<|val v;have HH:=iN u (O:val v≠0);have EA:=iO u hvp;have hpn:=jF<|n+2+1;have h5:=nU (u-g*val v)<|4294967296^(n+2+1);have h6:=iN (u-g*val v) (O:(4294967296:G)^(n+2+1)≠0);have l:=iO (u-g*val v) hpn;rw[s2]at h5;refine al J (λo=>?_)<|λo=>?_
   .have o:b'=0:=by have o:d.fdiv (2^(min (af ((63:Y):G))<|dm .u64))=0:=eq_of_beq o;rw[<-xx];exact o
    have hq:g=u/val v:=by
     rw[o]at h5;simp only[Int.neg_zero,gY,rL]at h5;by_cases e:g=u/val v
     .exact e
     .exfalso;have e2:g=u/val v+1:=O;have R0:g*val v=val v*(u/val v)+val v:=by rw[e2,nI,kL,eX]
      omega
    have e1:u-g*val v=u%val v:=by have:=eX (u/val v)<|val v;rw[hq];omega
    refine N J<|bL ?_;repeat(first|refine cK ?_|refine kX ?_|refine lI ?_)
    refine G5 (st':=⟨[(4,cW<|u/val v)],[(0,.vec 142 aq<|dk U a<|bS (n+3)<|u%val v)],60,[]⟩) (wk ⟨sE J ?_,aX⟩ ⟨bE J ?_,aX⟩)<|yZ cv J (bl.refl _) J
    .refine DT ?_;rw[wrap_u32 _ O O];exact hq
    .rw[Sb,e1]
   .have o:b'=1:=by have o:¬d.fdiv (2^(min (af ((63:Y):G))<|dm .u64))=0:=nV o;rw[xx]at o;omega
    have hq:g=u/val v+1:=by
     rw[o]at h5;rw[Int.mul_neg,ns]at h5;by_cases e:g=u/val v
     .exfalso;have:g*val v=val v*(u/val v):=by rw[e,eX]
      omega
     .omega
    have R0:g*val v=val v*(u/val v)+val v:=by rw[hq,nI,kL,eX]
    refine aD ?_;refine eP (st':=⟨[(0,.c<|.W 0 a<|n+3),(1,I aq v),(5,R<|Z v),(7,cU g)],[(0,.vec 142 aq<|dk U a<|bS (n+3)<|u-g*val v)],50,[]⟩) (wk (bO J) ⟨bE J ?_,aX⟩) ?_
    .rw[Sb]
    have EB:∀x,Z (bS (n+3) x)=n+3:=λx=>tb _ _
    have hU1:bT (dk U a<|bS (n+3)<|u-g*val v):=RL hU<|HT _ _;have avz:Z (dk U a<|bS (n+3)<|u-g*val v)=Z U:=xu uu;have alo:dk (dk U a<|bS (n+3)<|u-g*val v) a (bS (n+3)<|val (c (n+3)<|aA a<|dk U a<|bS (n+3)<|u-g*val v)+val v)=dk U a (bS (n+3)<|u%val v):=by rw[Zn uu (by rw[EB,EB]),RM uu,wY uu,iY uu,HU];refine be (dk U a)<|L3 _ _ _ ?_;rw[Int.emod_add_emod];congr 1;omega
    generalize dk U a (bS (n+3)<|u-g*val v)=m at*;clear Sb xx HD s1 s2 B A hX;refine N J<|j<|N J ?_;refine au<|a8 (α:=Y×G) (λx=>⟨[(0,.c<|.W 0 a<|n+3),(1,I aq v),(5,R<|Z v),(7,cU g),(9,cU x.2),(135,R<|Z v),(136,R x.1)],[(0,.vec 142 aq<|dk m a<|bS x.1<|val ((aA a m).take x.1)+val (c x.1 v))],60,[]⟩) (λx=>x.1<=n+2/\(val ((aA a m).take x.1)+val (c x.1 v))/4294967296^x.1=x.2/\(x.2=0\/x.2=1)) (λx=>n+2-x.1) (0,0) ⟨aY _,xr,.inl J⟩ (wk (bO J) ⟨bE J ?_,aX⟩) ?_
    .exact be (aG.vec 142 aq) (L4 m a).symm
    rintro⟨i,y⟩ ⟨H,h2,h4⟩;simp only at H h2 h4;have gu:=dt hU1<|a+i;have M:=Zi m v a i (c:=y) J h2;simp only at M;let ⟨s1,s2⟩:=M;have P:Z (bS i<|val ((aA a m).take i)+val (c i v))=i:=tb _ _;have xw:=xu (U:=m) (j:=a) (ws:=bS i<|val ((aA a m).take i)+val (c i v)) O;have A:=L5 (U:=m) (j:=a) (ws:=bS i<|val ((aA a m).take i)+val (c i v)) O;have B:=λH3=>L6 (U:=m) (j:=a) (ws:=bS i<|val ((aA a m).take i)+val (c i v)) H3 O
    rw[P]at A B;refine N J<|j ?_;refine al J (λh=>?_)<|λh=>?_
    .have h:i<n+2:=by have h:(i:G)<(Z v:G):=aU h;omega
     have gv:=dt hv i;generalize hX:dk m a (bS i<|val ((aA a m).take i)+val (c i v))=X at*;have ei:af (i:G)=i:=bY i;refine aD<|j<|au<|N J<|N J (hp:=aF) ?_;have T:ay .u64 (ay .u64 (ay .u64 (X.getD (a+af (i:G)) 0)+ay .u64 (E v (af (i:G)) 0))+y)=E m (a+i) 0+E v i 0+y:=by rw[ei,A,wrap_u64 (E m (a+i) 0) O O,wrap_u64 (E v i 0) O O,wrap_u64 (_+E v i 0) O O,wrap_u64 _ O O]
     generalize ht:E m (a+i) 0+E v i 0+y=s at*;have L:0<=s/\s<8589934592:=O;refine eP (st':=⟨[(0,.c<|.W 0 a<|n+3),(1,I aq v),(5,R<|Z v),(7,cU g),(15,R i),(16,cU s),(135,R<|Z v),(136,R i)],[(0,.vec 142 aq X)],70,[]⟩) (wk ⟨sR J,sR J,sR J,sR J,sR J,sE J ?_,sR J,sR J,aX⟩ ⟨bR J,aX⟩) ?_
     .exact bP T
     refine N J (hp:=aF)<|rt J (hp:=aF)<|bw<|rt J<|aT (i+1,s/4294967296) ⟨(O:i+1<=n+2),s2,(O:s/4294967296=0\/s/4294967296=1)⟩ (O:n+2-(i+1)<n+2-i)<|wk ⟨sR J,sR J,sR J,sR J,sE J ?_,sR J,sR J,aX⟩ ⟨bE J ?_,aX⟩
     .exact bP<|zg s 32 O
     .refine be (aG.vec 142 aq) ?_;show X.set (a+af (i:G)) (ay .u32 s)=dk m a (bS (i+1) _);rw[s1,ei,xy,B]
    .have e:i=n+2:=by have h:¬(i:G)<(Z v:G):=a6 h;omega
     subst e;rw[vU,rL,mA v (n+2+1) O]at s1;generalize hX:dk m a (bS (n+2)<|val ((aA a m).take<|n+2)+val (c (n+2) v))=X at*;refine a7<|aL<|N J (hp:=aF)<|N J<|bL ?_;refine G5 (st':=⟨[(4,cW<|u/val v)],[(0,.vec 142 aq<|dk U a<|bS (n+3)<|u%val v)],90,[]⟩) (wk ⟨sE J ?_,aX⟩ ⟨bE J ?_,aX⟩)<|yZ cv J (bl.refl _) J
     .refine DT ?_;rw[qE,xy];omega
     .refine be (aG.vec 142 aq) ?_;rw[<-alo,show n+3=n+2+1 from J,s1,a1,A,xy,xy,(O:(E m (a+(n+2)) 0+y%4294967296)%4294967296=(E m (a+(n+2)) 0+y)%4294967296),B]
 .refine bP ?_;show ay .u64 (t.tdiv<|ay .u64<|E v (af<|(Z v:G)-1) 0)=t/v1;have:=Int.ediv_le_self v1 L;rw[x1,Ev L,wrap_u64 _ Sa O]
 .refine bP ?_;show(t.tmod<|ay .u64<|E v (af<|(Z v:G)-1) 0)=t%v1;rw[x1,HR L]
 .rintro⟨f,q,r⟩ ⟨H,h2,V,h4,h5,h6⟩;simp only at H h2 V h4 h5 h6;have hqs:=HZ h2 V;cases f with
  |zero=>omega
  |succ f=>
  rw[rN]at H;have EA:0<=q*v2/\q*v2<18446744073709551616:=by refine⟨jx O O,?_⟩;have:q*v2<=4294967297*4294967295:=wT O O O D;omega
  refine j<|F<|rg 50 J J (λh=>?_)<|λh=>?_
  .have ZC:q>=4294967296:=by simpa using h
   have k:q>=4294967296\/q*v2>r*4294967296+u2:= .inl ZC;refine z J (al J (λ_=>?_)<|λl=>by cases l);have hZ:u/val v<q:=by
    rcases k with k|k
    .have:=K.Df;omega
    .exact K.down h2 O k
   have T:ay .u64 (q-1)=q-1:=wrap_u64 _ O O;have w2:ay .u64 (r+ay .u64 (E v (af<|(Z v:G)-1) 0))=r+v1:=by rw[x1,wrap_u64 _ O O]
   refine aD<|au<|N J<|N J (hp:=aF)<|N J<|al J (λl=>?_)<|λl=>?_
   .have l:r+v1>=4294967296:=by have l:ay .u64 (r+ay .u64 (E v (af<|(Z v:G)-1) 0))>=4294967296:=aU l;omega
    rw[b k,b l]at H;refine nN<|KU<|ou<|nO<|dB S<|wk ⟨sR J,sR J,sR J,sE J ?_,aX⟩ ⟨bR J,aX⟩;refine bP ?_;rw[<-H];exact T
   .have l:¬r+v1>=4294967296:=by have l:¬ay .u64 (r+ay .u64 (E v (af<|(Z v:G)-1) 0))>=4294967296:=a6 l;omega
    rw[b k,w l]at H;refine cP<|eE<|aT (f,q-1,r+v1) ⟨H,LX,LY,LZ,L0,L1⟩ (dK f)<|wk ⟨sR J,sR J,sR J,sR J,sE J ?_,sE J ?_,aX⟩ ⟨bR J,aX⟩
    .exact bP T
    .exact bP w2
  .have ZC:¬q>=4294967296:=by have:q<4294967296:=et;omega
   have w3:ay .u64 (q*ay .u64 (E v (af<|(Z v:G)-2) 0))=q*v2:=by rw[x2,wrap_u64 _ EA.1 EA.2]
   have w4:ay .u64 ((jm (dm .u64) (ay .u64<|r*2^(min (af ((32:Y):G))<|dm .u64))|||jm (dm .u64) (ay .u64<|E U (a+af ((Z v:G)-2)) 0)).toNat:G)=r*4294967296+u2:=by rw[x3,zf r 32 V O O,BE _ _ 32 O (EF _ _) O O O,show(2:G)^32=4294967296 from J]
   refine z J (hp:=aF)<|al J (λo=>?_)<|λo=>?_
   .have k:q>=4294967296\/q*v2>r*4294967296+u2:= .inr (by have o:ay .u64 (q*ay .u64 (E v (af<|(Z v:G)-2) 0))>ay .u64 ((jm (dm .u64) (ay .u64<|r*2^(min (af ((32:Y):G))<|dm .u64))|||jm (dm .u64) (ay .u64<|E U (a+af ((Z v:G)-2)) 0)).toNat:G):=aU o;rw[w3,w4]at o;exact o);have hZ:u/val v<q:=by
     rcases k with k|k
     .have:=K.Df;omega
     .exact K.down h2 O k
    have T:ay .u64 (q-1)=q-1:=wrap_u64 _ O O;have w2:ay .u64 (r+ay .u64 (E v (af<|(Z v:G)-1) 0))=r+v1:=by rw[x1,wrap_u64 _ O O]
    refine aD<|au<|N J<|N J (hp:=aF)<|N J<|al J (λl=>?_)<|λl=>?_
    .have l:r+v1>=4294967296:=by have l:ay .u64 (r+ay .u64 (E v (af<|(Z v:G)-1) 0))>=4294967296:=aU l;omega
     rw[b k,b l]at H;refine nN<|KU<|ou<|nO<|dB S<|wk ⟨sR J,sR J,sR J,sE J ?_,aX⟩ ⟨bR J,aX⟩;refine bP ?_;rw[<-H];exact T
    .have l:¬r+v1>=4294967296:=by have l:¬ay .u64 (r+ay .u64 (E v (af<|(Z v:G)-1) 0))>=4294967296:=a6 l;omega
     rw[b k,w l]at H;refine cP<|eE<|aT (f,q-1,r+v1) ⟨H,LX,LY,LZ,L0,L1⟩ (dK f)<|wk ⟨sR J,sR J,sR J,sR J,sE J ?_,sE J ?_,aX⟩ ⟨bR J,aX⟩
     .exact bP T
     .exact bP w2
   .have k:¬(q>=4294967296\/q*v2>r*4294967296+u2):=by have o:¬ay .u64 (q*ay .u64 (E v (af<|(Z v:G)-2) 0))>ay .u64 ((jm (dm .u64) (ay .u64<|r*2^(min (af ((32:Y):G))<|dm .u64))|||jm (dm .u64) (ay .u64<|E U (a+af ((Z v:G)-2)) 0)).toNat:G):=a6 o;rw[w3,w4]at o;omega
    rw[w k]at H;subst H;exact a7<|dB S aM
def xB m:r q 188 [I aq (ao m)] (I aq<|ao m):=by have h:=vR<|ao m;rwa[PX]at h
def alp{k n}(H:Z (ao k)=n+2){x s:Y}(ex:(x:G)=E (ao k) (n+1) 0)(L:2147483648<=x*2^s)(g:x*2^s<4294967296)(M:s<=31):
  ((k*2^s:Y):G)<4294967296^(n+2)/\Z (ao<|k*2^s)=n+2/\2147483648<=E (ao<|k*2^s) (n+1) 0:=by
 have o:0<2^s:=gQ D
 have p:(x+1)*2^s<=4294967296:=by
  have e:4294967296=2^(32-s)*2^s:=by rw[<-k4,(O:32-s+s=32)]
  have:x<2^(32-s):=by rw[e]at g;exact Nat.lt_of_mul_lt_mul_right g
  rw[e];exact eC _ this
 generalize t:2^s=a at*
 have i:=km (ao k)<|n+1
 rw[mA _ _ (O:Z (ao k)<=n+1+1),eN,<-ex]at i
 have u:=m8<|jk (dW k)<|n+1
 rw[(b8:Z (c (n+1)<|ao k)=n+1)]at u
 have C:=l0<|jk (dW k)<|n+1
 have K:=jF<|n+1
 generalize val (c (n+1)<|ao k)=v at*
 have d:((x:G)+1)*(a:G)<=4294967296:=by have:(((x+1)*a:Y):G)<=((4294967296:Y):G):=O;rw[fD,xt]at this;exact this
 have l:((k*a:Y):G)<4294967296^(n+2):=by
  rw[fD,o7,i];have P:(v+(x:G)*4294967296^(n+1))*a<(((x:G)+1)*4294967296^(n+1))*a:=HV (by rw[nI,kL];omega) O;have Q:((x:G)+1)*4294967296^(n+1)*a=4294967296^(n+1)*(((x:G)+1)*a):=by generalize (4294967296:G)^(n+1)=y;grind
  have T:4294967296^(n+1)*(((x:G)+1)*a)<=4294967296^(n+1)*4294967296:=kK d O;omega
 have A:Z (ao<|k*a)=n+2:=by have U:Z (ao<|k*a)<=n+2:=AI l;have W:=s' (m:=k) (k:=k*a)<|oy _ o;omega
 refine⟨l,A,?_⟩
 have f:=km (ao<|k*a)<|n+1
 rw[mA _ _ (O:Z (ao<|k*a)<=n+1+1),eN]at f
 have B:=m8<|jk (dW<|k*a)<|n+1
 rw[(b8:Z (c (n+1)<|ao<|k*a)=n+1)]at B
 generalize E (ao<|k*a) (n+1) 0=c1 at*
 generalize val (c (n+1)<|ao<|k*a)=X at*
 by_cases e:2147483648<=c1
 .exact e
 .exfalso;have b:(c1+1)*4294967296^(n+1)<=(x:G)*a*4294967296^(n+1):=hP O O;have h:(x:G)*4294967296^(n+1)*a<=(k:G)*a:=hP O O;have j:(x:G)*4294967296^(n+1)*a=(x:G)*a*4294967296^(n+1):=by generalize (4294967296:G)^(n+1)=y;grind
  have q:(c1+1)*4294967296^(n+1)=c1*4294967296^(n+1)+4294967296^(n+1):=Gu;rw[fD]at f;omega
def alq m k n(d:Z (ao k)=n+2)(oQ:k<=m)(lm:Z (ao m)<=1099511627776):r q 190 [I aq (ao m),I aq<|ao k] (.t [(ah,[.S aq (ao<|m/k)]),(ah,[.S aq (ao<|m%k)])]):=by
 refine aI ZD ?_;have xo:=dt (dW k)<|n+1;have BH:E (ao k) (n+1) 0≠0:=by
  rcases vk k with e|e
  .rw[e]at d;simp at d
  .rw[d]at e;exact e
 obtain⟨x,ex⟩:∃x:Y,(x:G)=E (ao k) (n+1) 0:=⟨af<|E (ao k) (n+1) 0,vN xo.1⟩;let ⟨s,hlz,K,x1,x2⟩:=ak4 x O O;let ⟨f5,f6,f7⟩:=alp d ex x1 x2 K;have hD:0<2^s:=gQ D;have hD2:2^s<=2^31:=eQ D K;have y:(2:G)^s=((2^s:Y):G):=az;have sT:0<k:=by
  rcases qD k with e|e
  .subst e;rw[Dc]at d;simp at d
  .exact e
 have RU:n+2<=Z (ao m):=by rw[<-d];exact s' oQ
 obtain⟨M,hM⟩:∃M,Z (ao m)=M+(n+2):=⟨Z (ao m)-(n+2),O⟩;have RV:((m*2^s:Y):G)<4294967296^(M+(n+2)+1):=by have B:=tI (n:=m);rw[hM]at B;rw[o7,fD];have:=jF<|M+(n+2);have h2:(m:G)*((2^s:Y):G)<=(m:G)*4294967296:=kK O O;omega
 have L:¬dR (m:G) (k:G)<0:=by unfold dR;rw[w O];split<;>decide
 have P:=Zz (ao m) s (dW m) K lm;have T:=(Zz (ao k) s (dW k) K O).fs;have pn:=tI (n:=k);rw[d]at pn;rw[eN,d,y,<-fD]at T;rw[eN,y,<-fD,hM]at P;have hVt:c (n+2) (bS (n+2+1) ((k*2^s:Y):G))=ao (k*2^s):=by have:=Zf<|dW<|k*2^s;rw[f6,eN]at this;rw[Ew,List.take_left'<|tb _ _,this]
 refine N J<|F<|rc J J (xB m)<|rc J J (xB k)<|z J ?_;refine j<|bt J J (Mr m k) J<|al J (λg=>absurd (aU g) L)<|λ_=>aD ?_;refine j<|N J<|al J (λg=>?_)<|λ_=>aD ?_
 .exfalso;have g:(Z (ao k):G)=1:=eq_of_beq g;omega
 have a2:af ((Z (ao k):G)-1)=n+1:=O;have W:r q 223 [cW (E (ao k) (af<|(Z (ao k):G)-1) 0)] (R s):=by rw[a2,<-ex];exact hlz
 refine N J<|F<|rc J J W<|z J (hp:=aF) ?_;refine F<|Bq J J P<|z J ?_;refine F<|rc J J T<|z J (hp:=by simp only[Pr.an,Pr.h,num,gT,true_and,and_true];rw[tb];omega) ?_;refine F<|rm aq (M+1) J J J J J J (mI .u32) O ?_ ?_<|z J ?_
 .show _*4<=_;omega
 .show _*1<=_;omega
 generalize A:bS (M+(n+2)+1) ((m*2^s:Y):G)=l;have u:val l=((m*2^s:Y):G):=by rw[<-A,HU,gX O RV]
 have v:bT l:=by rw[<-A];exact HT _ _
 have b:Z l=M+(n+2)+1:=by rw[<-A,tb]
 have vU:(0:G)<((k*2^s:Y):G):=by have:0<k*2^s:=zc sT hD;omega
 have vV:uq ((m*2^s:Y):G) ((k*2^s:Y):G) (n+2) M (M+1,l,bc (M+1) 0):=by
  refine⟨aO _,b,v,?_,az,rf _,λi hi=>?_,?_⟩
  .show val (aA (M+1) l)<_;have B:=za l (M+1) O;have h2:=l0<|jk v<|M+1;have hp:=jF<|M+1;by_cases e:val (aA (M+1) l)<((k*2^s:Y):G)
   .exact e
   .exfalso;have h3:4294967296^(M+1)*((k*2^s:Y):G)<=4294967296^(M+1)*val (aA (M+1) l):=kK O O;have h4:=Kb (dW k) (vk k) (by intro e;rw[e]at d;simp at d);rw[eN,d,(O:n+2-1=n+1)]at h4;have h5:=tI (n:=m);rw[hM,(O:M+(n+2)=M+1+(n+1)),Int.pow_add]at h5;have h6:4294967296^(M+1)*4294967296^(n+1)*((2^s:Y):G)<=4294967296^(M+1)*((k*2^s:Y):G):=by rw[fD,jl];exact kK (hP h4 O) O
    have h7:(m:G)*((2^s:Y):G)<4294967296^(M+1)*4294967296^(n+1)*((2^s:Y):G):=HV h5 O;rw[u,fD m]at B;omega
  .show E (bc (M+1) (0:G)) i 0=0;rw[aK,lM];split<;>rfl
  .show _=val l+_*val (bc (M+1) 0);rw[Ka,u];omega
 refine j<|N J ?_;refine au<|a8 (α:=Y×V G×V G) (λx=>⟨[(8,R ((n+2:Y):G)),(9,R s),(10,.c<|.X 6002000),(11,I aq<|ao<|k*2^s),(12,.c<|.X 8005000),(13,R<|(x.1:G)-1)],[(6002000,.vec 142 aq x.2.1),(8005000,.vec 142 aq x.2.2)],10,[]⟩) (uq ((m*2^s:Y):G) ((k*2^s:Y):G) (n+2) M) (λx=>x.1) (M+1,l,bc (M+1) 0) vV (wk ⟨sE J ?_,sR J,sR J,sE J ?_,sR J,sE J ?_,h⟩<|xa J) ?_
 .exact je O
 .refine be (λiC=>AV.c<|C.S aq iC) ?_;rw[<-hVt];simp only[d,bY,qu]
 .exact je O
 rintro⟨H,U,Q⟩ o;have mc:Z U=M+(n+2)+1:=o.ul;have p:bT U:=o.ur;have Ma:Z Q=M+1:=o.ql;have LC:H<=M+1:=o.k;refine j<|N J ?_;refine al J (λg=>?_)<|λg=>?_
 .have g:(H:G)-1>=0:=aU g;obtain⟨a,rfl⟩:∃a,H=a+1:=⟨H-1,O⟩;have ej:((a+1:Y):G)-1=(a:G):=O;rw[ej];have f:=o.next vU f5;let ⟨_,xw⟩:=o.RP f5;have ZE:=ald U (ao<|k*2^s) a n p (dW _) f6 O O f7 (by rw[eN];exact xw);rw[eN]at ZE;rw[show n+2+1=n+3 from J]at f xw;have hu0:=l0<|jk (yt p a)<|n+3;refine aD<|j<|au ?_;refine cu<|Y3 a (a+(n+3)) J J J J J J O O (O:a+(n+3)<=Z U) ?_;rw[(O:a+(n+3)-a=n+3)];refine y6 6002000 J ZE J J<|z J ?_;refine bw<|rt J<|aT (a,dk U a<|bS (n+3)<|val ((aA a U).take<|n+3)%((k*2^s:Y):G),Q.set a<|val ((aA a U).take<|n+3)/((k*2^s:Y):G)) f (dK a)<|wk (bO J) ⟨bR J,bE J ?_,h⟩;refine be (aG.vec 142 aq) ?_;show Q.set (af (a:G)) _=Q.set a _;rw[bY]
 .have g:¬(H:G)-1>=0:=a6 g;have hc:H=0:=O;subst hc;let ⟨e1,e2⟩:=o.fin;have q1:aN Q=ao (m/k):=by
   rw[oN o.qr];show ao (af<|val Q)=_;rw[e1];have:((m*2^s:Y):G)/((k*2^s:Y):G)=((m/k:Y):G):=by rw[<-xv,Nat.mul_div_mul_right _ _ hD]
   rw[this,bY]
  have hub:val U<((k*2^s:Y):G):=o.ub;have hut:val (c (n+2) U)=val U:=by have B:=za U (n+2) O;rw[Zm p (n+2) O O,gY,rL]at B;exact B.symm
  have xx:=ak9 (c (n+2) U) s (jk p _) K BI;have q2:ao (af<|val (c (n+2) U)/2^s)=ao (m%k):=by
   rw[hut,e2,y];have:((m*2^s:Y):G)%((k*2^s:Y):G)/((2^s:Y):G)=((m%k:Y):G):=by rw[<-HW,Nat.mul_mod_mul_right,<-xv,R1 _ hD]
   rw[this,bY]
  rw[q2]at xx;have ht:=vR Q;rw[q1]at ht;refine a7<|aL<|cY 6002000 J J J<|cY 8005000 J J J ?_;refine F<|rc J J ht<|rc J J xx (hp:=aF)<|z J<|bU J ?_;rfl
def ZF m k(l:k≠0)(g:Z (ao m)<=1099511627776):r q 190 [I aq (ao m),I aq<|ao k] (.t [(ah,[.S aq (ao<|m/k)]),(ah,[.S aq (ao<|m%k)])]):=by
 by_cases a:m<k
 .refine aI ZD ?_;refine N J<|F<|rc J J (xB m)<|rc J J (xB k)<|z J ?_;refine j (bt J J (Mr m k) J<|al J (λ_=>?_)<|λh=>?_)
  .refine bt J J (Mh (ao m) g) J<|bL<|cK<|ig cv J ?_;rw[BA a,o6 a];exact bl.t2<|bl.nil aq
  .exfalso;have h:¬dR (m:G) (k:G)<0:=a6 h;unfold dR at h;rw[b O]at h;omega
 .by_cases d:k<4294967296
  .refine aI ZD ?_;have v:ao k=[(k:G)]:=by rw[wQ l,BA d,Dc,o6 d]
   have f:¬dR (m:G) (k:G)<0:=by unfold dR;rw[w O];split<;>decide
   have o:=ak5 (ao m) (k:G) (dW m) O O g;rw[eN,<-xv,<-HW,bY]at o;have p:=Mr m k;have s:=xB k;rw[v]at p s⊢;refine N J<|F<|rc J J (xB m)<|rc J J s<|z J ?_;refine j<|bt J J p J<|al J (λh=>absurd (aU h) f)<|λ_=>aD ?_;have i:r q 222 [I aq (ao m),.c (num .u64 (k:G)).1] (.t [(ah,[.S aq (ao<|m/k)]),(ah,[.I .u64 ((m%k:Y):G)])]):=by rw[show(AV.c (num .u64 (k:G)).1)=cU (k:G)from bP<|wrap_u64 _ O O];exact o
   have u:=fS m<|rM l;refine j<|N J<|al J (λ_=>?_)<|λh=>fE;refine bt J J i J ?_;refine bt J J (Mf (m%k) O) J<|bL<|cK<|atR J
  .have y:2<=Z (ao k):=by
    by_cases e:2<=Z (ao k)
    .exact e
    .exfalso;have A:=tI (n:=k);have x:=tJ (m:=Z<|ao k) (n:=1) O;rw[Int.pow_one]at x;omega
   exact alq m k (Z (ao k)-2) O O g
def ZG a d(p:d≠0)(o:Sm a)(l:Sm d):r q 158 [aZ a,aZ d] (.t [(ae,av .z<|a/d),(ae,av .z<|a%d),(ah,[.I .i64 0])]):=by
 refine aI Tryz.func158 ?_;have f:aC d≠0:=O;refine N J<|j<|bt J J (xB<|aC d) J ?_;refine al J (λm=>?_)<|λm=>?_
 .exfalso;have m:(Z (ao<|aC d):G)=0:=eq_of_beq m;have:=o5.2 f;omega
 .refine aD<|bt J J (ZF _ _ f o) J<|j<|F ?_;refine rg 26 J J (λh3=>?_) (λh3=>?_)
  .have h3:a<0:=by simpa[cd]using h3
   refine z J<|al J (λh4=>?_)<|λh4=>?_
   .have h4:aC a%aC d≠0:=by have h4:(Z (ao<|aC a%aC d):G)>0:=Mb;exact o5.1 O
    let ⟨e1,g⟩:=Zc (rM f) h3 h4;have hz:cd a=ae:=ED;let ⟨i,k⟩:=Eu a d (aC a/aC d+1) (aC d-aC a%aC d) EE g;have s:aC a%aC d<aC d:=fS _<|rM f;refine F<|rl aq [_] J J (rc J J (Zu (aC a/aC d) 1 ?_ D)<|z J<|cu<|rc J J (R' (aC d) _ O l)<|z J<|aL<|F ?_)
    .exact bm (s'<|Nat.div_le_self _ _) o
    refine rc J J (ph _ _)<|rc J J (ph _ _)<|z J<|bU J ?_;rw[i,k];rfl
   .have h4:aC a%aC d=0:=by have h4:¬(Z (ao<|aC a%aC d):G)>0:=Mb;exact HX λn=>by have:=o5.2 n;omega
    let ⟨e1,g⟩:=Zb (rM f) h3 h4;have hz:cd a=ae:=ED;let ⟨i,k⟩:=Eu a d (aC a/aC d) (aC a%aC d) EE (by rw[g,h4];rfl);refine aD<|F<|rc J J (ph _ _)<|rc J J (ph _ _)<|z J<|bU J ?_;rw[i,k];rfl
  .have h3:¬a<0:=by simpa[cd]using h3
   refine z J<|al J (λh4=>by simp at h4)<|λh4=>?_;let ⟨e1,g⟩:=Za (rM f) h3;have hz:cd a=ah:=ED;let ⟨i,k⟩:=Eu a d (aC a/aC d) (aC a%aC d) EE g;refine aD<|F<|rc J J (ph _ _)<|rc J J (ph _ _)<|z J<|bU J ?_;rw[i,k];rfl
def ZH m(n:m<18446744073709551616):r q 189 [I aq (ao m)] (cU m):=by
 refine aI Tryz.func189 ?_;have p:=HQ n;refine N J<|N J<|j<|N J ?_;refine au<|a8 (α:=Y) (λi=>⟨[(0,I aq<|ao m),(3,cU<|val<|c i<|ao m),(6,R<|Z<|ao m),(7,R i)],[],4,[]⟩) (λi=>i<=Z (ao m)) (λi=>Z (ao m)-i) 0 (aY _) aM ?_;intro i s;have g:=dt (dW m) i;have f:=km (ao m) i;have l:=m8<|jk (dW m) i;have o:=l0<|jk (dW m) i;refine N J<|j ?_;refine al J (λa=>?_)<|λa=>?_
 .have a:i<Z (ao m):=by have a:(i:G)<(Z (ao m):G):=aU a;omega
  have k:Z (c i<|ao m)=i:=b8;rw[k]at l;refine aD<|j<|au<|N J<|rt J (hp:=aF)<|bw<|rt J<|aT (i+1) a (O:Z (ao m)-(i+1)<Z (ao m)-i)<|wk ⟨sR J,sE J ?_,sR J,sR J,h⟩ h;refine bP ?_;have d:i=0\/i=1:=O;rcases d with e|e
  .subst e;show ay .u64 ((jm (dm .u64) (val<|c 0<|ao m)|||jm (dm .u64) (ay .u64<|ay .u64 (E (ao m) 0 0)*2^(min (af<|((0:Y):G))<|dm .u64))).toNat:G)=val (c (0+1)<|ao m);rw[f,wrap_u64 (E (ao m) 0 0) O O,zf _ 0 g.1 O O];have:=BE (E (ao m) 0 0*2^0) 0 0 O (by simp[Int.emod_one]) D D O;rw[H4];simp only[val];rw[BitVec.or_comm,this];simp
  .subst e;show ay .u64 ((jm (dm .u64) (val<|c 1<|ao m)|||jm (dm .u64) (ay .u64<|ay .u64 (E (ao m) 1 0)*2^(min (af<|((32:Y):G))<|dm .u64))).toNat:G)=val (c (1+1)<|ao m);rw[Int.pow_one]at l f;rw[f,wrap_u64 (E (ao m) 1 0) O O,zf _ 32 g.1 O O];have:=BE (E (ao m) 1 0*2^32) (val<|c 1<|ao m) 32 O (EF _ _) o O O;rw[BitVec.or_comm,this,show(2:G)^32=4294967296 from J];omega
 .have a:i=Z (ao m):=by have a:¬(i:G)<(Z (ao m):G):=a6 a;omega
  subst a;refine a7<|aL<|N J<|bU J<|bP ?_;rw[fR,eN]
def jX(a:Y->Y):C->C
 | .P id o=> .P (a id) o
 | .X id=> .X<|a id
 | .Y id n i o=> .Y (a id) n i o
 | .L id o l d=> .L (a id) o l d
 | .W id o l=> .W (a id) o l
 |d=>d
def Mt(d:Y->Y):AV->AV
 | .c x=> .c<|jX d x
 | .a cs=> .a<|cs.map<|jX d
 | .t f=> .t<|f.map λs=>(s.1,s.2.map<|jX d)
def uw(d:Y->Y):aG->aG
 | .box g i cs=> .box g i<|cs.map<|jX d
 | .vec g T xs=> .vec g T xs
 | .hY f a k=> .hY f (a.map λs=>(s.1,s.2.map<|jX d))<|k.map λs=>(s.1,s.2.map<|jX d)
 | .fz g cs=> .fz g<|cs.map<|jX d
 | .mp l o xs=> .mp l o<|xs.map λx=>(x.1.map<|jX d,x.2.map<|jX d)
 | .it m n seen=> .it (d m) n seen
def Sc{g:Gh}{d:Y->Y}:∀{f:C}{v:Value},c7 g (jX d f) v->c7 ⟨g.H,λi=>g.γ<|d i⟩ f v
 | .any,_,a=>a
 | .B _,_,a=>a
 | .I _ _,_,a=>a
 | .V _,_,a=>a
 | .S _ _,_,a=>a
 | .P _ _,_,a=>a
 | .X _,_,a=>a
 | .Y _ _ _ _,_,a=>a
 | .E _ _ _,_,a=>a
 | .M _,_,a=>a
 | .L _ _ _ (some _),_,a=>a
 | .L _ _ _ none,_,a=>a
 | .W _ _ _,_,a=>a
def BJ{g:Gh}{d:Y->Y}:∀{f:V C}{vs:V Value},aW g (f.map<|jX d) vs->aW ⟨g.H,λi=>g.γ<|d i⟩ f vs
 |[],_,a=>a
 |_::_,_,a=>by let ⟨v,k,l,m,h2⟩:=a;exact⟨v,k,l,Sc m,BJ h2⟩
def Mu{g:Gh}{k:Y->Y}:∀{l:V (Bool×V C)}{vs:V Value},fJ g (l.map λs=>(s.1,s.2.map<|jX k)) vs->fJ ⟨g.H,λm=>g.γ<|k m⟩ l vs
 |[],_,d=>d
 | (n,f)::_,_,d=>by
  let ⟨v,o,i,a,h2⟩:=d;refine⟨v,o,i,?_,Mu h2⟩;match n,f,a with
  |true,f,a=>let ⟨vs,i,d⟩:=a;exact⟨vs,i,BJ d⟩
  |false,[f],a=>exact Sc a
  |false,[],a=>exact a.elim
  |false,_::_::_,a=>exact a.elim
def alv{g}{f:Y->Y}{x}{v}(d:bu g (Mt f x) v):bu ⟨g.H,λi=>g.γ<|f i⟩ x v:=by
 cases x with
 |c y=>exact Sc d
 |a cs=>let ⟨vs,e,d⟩:=d;exact⟨vs,e,BJ d⟩
 |t k=>let ⟨vs,e,d⟩:=d;exact⟨vs,e,Mu d⟩
def ZI{g:Gh}{a:Y->Y}{k l:Bool}:∀{n:Y}{xs:V (V C×V C)}{m:V MapEntry},iy g k l n (xs.map λx=>(x.1.map<|jX a,x.2.map<|jX a)) m->iy ⟨g.H,λo=>g.γ<|a o⟩ k l n xs m
 |_,[],_,d=>d
 |_,_::_,_,d=>by let ⟨p,s,t,h2,⟨u,v,f⟩,⟨vs,y,i⟩,A⟩:=d;exact⟨p,s,t,h2,⟨u,v,BJ f⟩,⟨vs,y,BJ i⟩,ZI A⟩
def alw{x:Y->Prop}{g}{W}{s:Y->Y}{p}{t}(l:fV x g W (s p) (uw s t)):fV x ⟨g.H,λp=>g.γ<|s p⟩ W p t:=by
 cases t with
 |box E B cs=>
  let ⟨k,vs,rest,a,d,i,o,u,A⟩:=l
  exact⟨k,vs,rest,a,d,BJ i,o,u,A⟩
 |vec E T C=>
  rcases l with⟨a,d⟩|⟨k,v,vs,a,d⟩
  .exact .inl ⟨a,d⟩
  .exact .inr ⟨k,v,vs,a,d⟩
 |hY f first y=>
  let ⟨us,ws,a,d,i⟩:=l
  exact⟨us,ws,a,Mu d,Mu i⟩
 |fz E cs=>
  let ⟨k,vs,rest,a,d,i,o,u⟩:=l
  exact⟨k,vs,rest,a,d,BJ i,o,u⟩
 |mp K L xs=>
  let ⟨k,es,a,d,i,o⟩:=l
  exact⟨k,es,a,by simpa using d,ZI i,o⟩
 |it m n seen=>exact l
def Mv(K:Y)(m:V (Y×aG)):Prop:=∀t v,S t m=some v->t<K/\∀a∈v.ak,a<K
def Mv.of{K}{m}(a:vF K m=ae):Mv K m:=KW a
def Sd{f:Type}(t:Y):∀(a d:V (Y×f)),S t (a++d)=(S t a).or (S t d)
 |[],_=>rfl
 | (k,x)::a,d=>by
  simp only[m7,S];split
  .rfl
  .exact Sd t a d
def Mw(m:Y)(d:Ks):V Ks->Y->Bool
 |[],_=>ae
 |a::l,i=>(Nat.testBit m i|| !rz a d)&&Mw m d l (i+1)
def Mx:V Y->V Ks->V Ks->Bool
 |m::ms,a::d,done=>Mw m a done 0&&Mx ms d (done++[a])
 |[],[],_=>ae
 |_,_,_=>ah
def Se(a:V Oper)(d:V Ks):Bool:=DM a 0&&Mx (qo a []) d []
def ZJ(m:Y)(d:Ks):∀(l:V Ks)(i:Y),Mw m d l i=A4 m d l i
 |[],_=>rfl
 |a::l,i=>by rw[Mw,A4,ZJ m d l,Bool.or_comm]
def ZK:∀(a:V Y)(d done:V Ks),Mx a d done=w5 a d done
 |[],[],_=>rfl
 |[],_::_,_=>rfl
 |_::_,[],_=>rfl
 |m::a,f::d,done=>by rw[Mx,w5,ZJ,ZK a d]
def alx{d}{a}{f}(g:(!d||Se a f)=ae):(!d||sS a f)=ae:=by
 have:Se a f=sS a f:=by rw[Se,sS,ZK]
 rwa[this]at g
def mh(a:V G):Y->Y
 |0=>0
 |i+1=>mh a i+(E a i 0).natAbs
def gR(a:V G):Y:=mh a (Z a)*2^(Z a-1)
def rO:Y->Y->Y->Y->Y->Y
 |0,d,_,_,_=>d
 |f+1,d,a,n,p=>if n=0 then d else rO f (if n%2=1 then d*a%p else d) (a*a%p) (n/2) p
def ux(a n p:Y):Y:=rO 64 (1%p) (a%p) n p
def jg(a p:Y):Y:=ux a (p-2) p
def ZL:∀(f d a n p:Y),0<p->d<p->rO f d a n p<p
 |0,d,_,_,_,_,g=>g
 |f+1,d,a,n,p,hp,g=>by
  unfold rO;split
  .exact g
  .refine ZL f _ _ _ _ hp ?_;split
   .exact fS _ hp
   .exact g
def Sf a n p(d:0<p):ux a n p<p:=ZL _ _ _ _ _ d<|fS _ d
def mJ(x y:Y):(x:G).tmod (y:G)=((x%y:Y):G):=by rw[me O];omega
def EG(x y p:Y)(d:x<p)(f:y<p)(a:p<=4294967296):(ay .u64<|(x:G)*(y:G)).tmod (p:G)=((x*y%p:Y):G):=by have h:x*y<18446744073709551616:=iI (My d f)<|bm (mL a a) D;rw[<-fD,wrap_u64 _ O O,mJ]
def BK(x:Y)(a:x<18446744073709551616):(ay .u64<|(x:G).tdiv 2)=((x/2:Y):G):=by
 have e:(x:G).tdiv 2=((x/2:Y):G):=by rw[uj O];omega
 rw[e,wrap_u64 _ O O]
def ZM(a n p:Y)(H:a<18446744073709551616)(B:n<18446744073709551616)(d:0<p)(u:p<=4294967296):r q 301 [cU a,cU n,cU p] (cU<|ux a n p):=by
 refine aI Tryz.func301 ?_;refine N J<|j<|N J ?_;refine al J (λh=>?_)<|λh=>?_
 .exfalso;have h:(p:G)=0:=et;omega
 .have C:(p:G)≠0:=by omega
  refine aD<|N J<|j<|N J<|au<|a8 (α:=Y×Y×Y×Y) (λx=>⟨[(0,cU x.2.2.1),(1,cU x.2.2.2),(2,cU p),(7,cU x.2.1)],[],4,[]⟩) (λx=>rO x.1 x.2.1 x.2.2.1 x.2.2.2 p=ux a n p/\x.2.2.2<2^x.1/\x.2.1<p/\x.2.2.1<p/\x.2.2.2<18446744073709551616) (λx=>x.2.2.2) (64,1%p,a%p,n) ⟨J,B,fS _ d,fS _ d,B⟩ (wk ⟨sE J ?_,sR J,sR J,sE J ?_,aX⟩ aX) ?_
  .exact bP<|mJ a p
  .exact bP<|mJ 1 p
  .rintro⟨f,v,g,m⟩ ⟨k,hm,y,o,l⟩;simp only at k hm y o l;refine j<|N J ?_;refine al J (λs=>?_) (λs=>?_)
   .have s:(m:G)>0:=by simpa using s
    cases f with
    |zero=>rw[po]at hm;omega
    |succ f=>
     have t:m/2<2^f:=by rw[fO]at hm;omega
     rw[rO,w O]at k
     refine aD<|j<|au<|j<|N J ?_
     refine al J (λi=>?_)<|λi=>?_
     .have i:m%2=1:=by have i:=eq_of_beq i;have e:(m:G).tmod 2=((m%2:Y):G):=mJ m 2;have A:(m:G).tmod 2=1:=i;omega
      rw[b i]at k;refine rt J<|aL<|rt J<|bw<|rt J<|aT (f,v*g%p,g*g%p,m/2) ⟨k,t,fS _ d,fS _ d,Mz⟩ MA<|wk ⟨sE J ?_,sE J ?_,sR J,sE J ?_,aX⟩ aX
      .exact bP<|EG g g p o o u
      .exact bP<|BK m l
      .exact bP<|EG v g p y o u
     .have i:¬m%2=1:=by intro e;have K:(m:G).tmod 2=((m%2:Y):G):=mJ m 2;have A:((m:G).tmod 2==1)=ah:=i;rw[(O:(m:G).tmod 2=1)]at A;cases A
      rw[w i]at k;refine aD<|rt J<|bw<|rt J<|aT (f,v,g*g%p,m/2) ⟨k,t,y,fS _ d,Mz⟩ MA<|wk ⟨sE J ?_,sE J ?_,sR J,sR J,aX⟩ aX
      .exact bP<|EG g g p o o u
      .exact bP<|BK m l
   .have s:¬(m:G)>0:=by simpa using s
    have:m=0:=O;subst this;refine a7<|aL<|N J<|bU J ?_;rw[<-k];cases f with
    |zero=>rfl
    |succ f=>rw[rO,b J]
def aly(a p:Y)(d:a<18446744073709551616)(k:a%p≠0)(f:2<=p)(g:p<=4294967296):r q 291 [cU a,cU p] (.t [(ah,[.I .u64 (jg a p)]),(ah,[.I .i64 0])]):=by
 refine aI Tryz.func291 ?_;have i:(p:G)≠0:=O;refine N J<|j<|F ?_;refine rg 8 J J (λh=>?_)<|λh=>?_
 .exfalso;have h:(p:G)<2:=et;omega
 .refine z J (al J (λh2=>?_)<|λh2=>?_)
  .exfalso;have h2:(a:G).tmod (p:G)=0:=qq;rw[mJ]at h2;omega
  .have e:r q 301 [cU a,.c (num .u64<|(p:G)-2).1,cU p] (cU<|ux a (p-2) p):=by rw[show(AV.c (num .u64<|(p:G)-2).1)=cU ((p-2:Y):G)from bP<|(wrap_u64 _ O O).trans O];exact ZM a (p-2) p d O O g
   exact aD<|bt J J e J<|cw J
def ZN{m}(d:Z (ao m)<=2):m<18446744073709551616:=by have a:=tI (n:=m);have f:(4294967296:G)^2=18446744073709551616:=rfl;have g:(4294967296:G)^1=4294967296:=rfl;have i:(4294967296:G)^0=1:=rfl;rcases(O:Z (ao m)=0\/Z (ao m)=1\/Z (ao m)=2)with e|e|e<;>rw[e]at a<;>omega
def alz a g(t:Sm a)(y:Sm g):r q 157 [aZ a,aZ g] (aZ ((Int.gcd a g:Y):G)):=by
 refine aI Tryz.func157 ?_;refine N J<|F<|rc J J (xB<|aC a)<|rc J J (Mh _ t)<|rc J J (xB<|aC g)<|rc J J (Mh _ y)<|z J ?_ (ho:=alx dZ);refine j<|au<|a8 (α:=Y×Y) (λx=>⟨[(4,.c<|.P 2000 0),(5,I aq<|ao x.1),(6,I aq<|ao x.2)],[(2000,.box 42 0 [.B ah,.V<|.slice none 0 0])],2,[]⟩) (λx=>Nat.gcd x.1 x.2=Int.gcd a g/\Z (ao x.1)<=1099511627776/\Z (ao x.2)<=1099511627776) (λx=>x.2) (aC a,aC g) ⟨J,t,y⟩ (wk (bO J) ⟨bE J J,h⟩) ?_;rintro⟨m,k⟩ ⟨hg,hm,o⟩;simp only at hg hm o;refine j<|N J<|al J (λd=>?_)<|λd=>?_
 .have d:k≠0:=by have d:(Z (ao k):G)>0:=aU d;exact o5.1 O
  refine aD<|au<|jH ⟨[(4,.c<|.P 2000 0),(5,I aq<|ao m),(6,I aq<|ao k)],[(2000,.box 42 0 [.B ah,.V<|.slice none 0 0])],8,[]⟩ ?_<|λi=>F<|rg 25 J J (λl=>z J<|al J (λh2=>?_)<|λh2=>cP<|dB i<|wk (bO J) ⟨bE J J,h⟩)<|λl=>z J<|al J (λh2=>mM)<|λh2=>cP<|dB i<|wk (bO J) ⟨bE J J,h⟩
  .refine bt J J (ZF m k d hm) J (rt J<|eE<|aT (k,m%k) ⟨?_,o,?_⟩ (fS _ O)<|wk (bO J) ⟨bE J J,h⟩)
   .show Nat.gcd k (m%k)=_;rw[<-hg,y' m k,Nat.gcd_rec k m,y']
   .exact bm (s'<|yv<|fS _ O) o
  .have l:Z (ao m)<=2:=by have l:(Z (ao m):G)<=2:=aU l;omega
   have h2:Z (ao k)<=2:=by have h2:(Z (ao k):G)<=2:=aU h2;omega
   have A:=ZN l;have C:=ZN h2;refine F<|rc J J (ZH m A)<|rc J J (ZH k C)<|z J ?_;refine j<|au<|a8 (α:=Y×Y) (λx=>⟨[(4,.c<|.P 2000 0),(7,cU x.1),(8,cU x.2)],[(2000,.box 42 0 [.B ah,.V<|.slice none 0 0])],10,[]⟩) (λx=>Nat.gcd x.1 x.2=Int.gcd a g/\x.1<18446744073709551616/\x.2<18446744073709551616) (λx=>x.2) (m,k) ⟨hg,A,C⟩ (wk (bO J) ⟨bE J J,h⟩) ?_;rintro⟨u,v⟩ ⟨n,g2,H⟩;simp only at n g2 H;refine j<|N J<|al J (λf=>?_)<|λf=>?_
   .have f:0<v:=by have f:(v:G)>0:=aU f;omega
    have p:=fS u f;refine aD<|au<|rt J (eE<|aT (v,u%v) ⟨?_,H,by show u%v<_;omega⟩ p<|wk ⟨sR J,sR J,sE J ?_,h⟩ ⟨bE J J,h⟩) (hp:=?_)
    .show Nat.gcd v (u%v)=_;rw[<-n,y' u v,Nat.gcd_rec v u,y']
    .exact bP<|mJ u v
    .simp only[Pr.an,Pr.h,num,gT,true_and,and_true];omega
   .have f:v=0:=by have f:¬(v:G)>0:=a6 f;omega
    subst f;rw[LU]at n;subst n;refine a7<|aL<|F<|rc J J (Mf _ g2)<|rc J J (ph ah _)<|z J<|bL ?_;repeat(first|refine cK ?_|refine kX ?_|refine lI ?_)
    exact atR J
 .have d:k=0:=by have d:¬(Z (ao k):G)>0:=a6 d;exact HX λs=>by have:=o5.2 s;omega
  subst d;rw[LU]at hg;subst hg;exact a7<|aL<|bt J J (ph ah _) J<|cw J
def aP(xs:V G)(p:G):AV:= .a [.S aw xs,.I .u64 p]
def ZO{a}{k}(d:gk a k=gk a (Z a))(f:k=0\/E a (k-1) 0≠0):c k a=aN a:=by
 unfold aN;rw[<-d];cases k with
 |zero=>rfl
 |succ k=>
  rcases f with f|f
  .omega
  .simp only[eK]at f;simp only[gk,f,bN]
def ZP ws p(l:Z ws<=1000000):r q 263 [aP ws p] (aP (aN ws) p):=by
 refine aI Tryz.func263 ?_;refine N J<|N J ?_;refine j<|au<|a8 (α:=Y) (λk=>⟨[(1,.c<|.P 0 0),(2,.c<|.P 1000 0),(3,R k)],[(0,.box 221 0 [.S aw ws,.I .u64 p]),(1000,.box 221 0 [.V (.slice none 0 0),.I .u64 0])],2,[]⟩) (λk=>k<=Z ws/\gk ws k=gk ws (Z ws)) (λk=>k) (Z ws) ⟨aO _,J⟩ (wk (bO J) ⟨bE J J,bE J J,h⟩) ?_;rintro k ⟨m,a⟩;refine j<|F ?_;refine rg 9 J J (λg=>?_)<|λg=>?_
 .simp at g;refine z J (al J (λd=>?_)<|λd=>?_)
  .refine aD (au<|rt J<|eE<|aT (k-1) ⟨O,?_⟩ (O:k-1<k)<|wk ⟨sR J,sR J,sE J ?_,h⟩ ⟨bE J J,bE J J,h⟩)
   .rw[<-a];obtain⟨f,rfl⟩:∃f,k=f+1:=⟨k-1,O⟩;have i:E ws f 0=0:=by have:af (((f+1:Y):G)-1)=f:=O;simpa[this]using d
    simp only[eK,gk,i,cj]
   .congr 2;omega
  .refine a7<|aL<|N J<|bU J ?_;refine be (aP · p) ?_;rw[<-ZO a (.inr ?_)]
   .simp
   .have:af ((k:G)-1)=k-1:=by omega
    simpa[this]using d
 .simp at g;subst g;refine z J<|al J (λd=>by simp at d)<|λ_=>?_;refine a7<|aL<|N J<|bU J ?_;exact be (aP · p)<|ZO a<|.inl J
def rp(p:G)(a:V G):Prop:=∀i,0<=E a i 0/\E a i 0<p
def MB{p}{a}(d:rp p a) i{x}(f:0<=x)(g:x<p):rp p (a.set i x):=by
 intro j;have:=d j;simp only[aK,Rz]at this⊢;split
 .split
  .exact⟨f,g⟩
  .rename_i k l;simp only[Option.getD_none];exact⟨hO _,O⟩
 .exact this
def Sg{p}(a:0<p) n:rp p (bc n 0):=by
 intro j;simp only[aK,lM];split
 .exact⟨hO _,a⟩
 .exact⟨hO _,a⟩
def rP(a g:V G)(p:G)(i:Y):Y->V G->V G
 |0,f=>f
 |d+1,f=>(rP a g p i d f).set (i+d)<|(E (rP a g p i d f) (i+d) 0+E a i 0*E g d 0)%p
def mN(a d:V G)(p:G):Y->V G
 |0=>bc (Z a+Z d-1) 0
 |i+1=>rP a d p i (Z d)<|mN a d p i
def H5(a g:V G)(p:G)(i:Y)(d:V G):∀f,Z (rP a g p i f d)=Z d
 |0=>rfl
 |f+1=>by rw[rP,ru,H5 a g p i d f]
def H6(a d:V G)(p:G):∀i,Z (mN a d p i)=Z a+Z d-1
 |0=>by simp[mN]
 |i+1=>by rw[mN,H5,H6 a d p i]
def MC{a b:V G}{p:G}(f:0<p)(i:Y){g:V G}(k:rp p g):∀d,rp p (rP a b p i d g)
 |0=>k
 |d+1=>MB (MC f i k d) _ (iN _ O)<|iO _ f
def H7(a f:V G){p:G}(d:0<p):∀i,rp p (mN a f p i)
 |0=>Sg d _
 |i+1=>MC d i (H7 a f d i) _
def cT(a d:V G)(p:G):V G:=if a=[]\/d=[]then[]else aN (mN a d p<|Z a)
def ZQ x y a p(i:0<=x/\x<p)(f:0<=y/\y<p)(d:0<=a/\a<p)(k:p<=2147483648):(ay .u64<|x+ay .u64 (y*a)).tmod p=(x+y*a)%p:=by have g:0<=y*a:=jx f.1 d.1;have l:y*a<=2147483648*2147483648:=wT O O d.1 O;rw[wrap_u64 (y*a) g O,wrap_u64 _ O O,me O]
def bl.trans{x y a}(d:bl x y)(k:bl y a):bl x a:=⟨λg v e=>k.1 g v<|d.1 g v e,λf e=>d.2 f<|k.2 f e⟩
def bl.a2{x k y}(f:bl (.c x) (.c k)):bl (.a [x,y]) (.a [k,y]):=by
 refine⟨?_,?_⟩
 .rintro g v ⟨vs,rfl,v1,r,rfl,l,i⟩;exact⟨_,J,v1,r,J,f.1 g v1 l,i⟩
 .intro m d;have i:=f.2 m;simp only[AV.ak,bV,iD,bg]at d i⊢;exact d.elim (λf=> .inl<|i f) .inr
def alA a b p(A:Z a<=1000)(B:Z b<=1000)(l:0<p)(o:p<=2147483648)(s:rp p a)(t:rp p b):r q 292 [aP a p,aP b p] (aP (cT a b p) p):=by
 refine aI Tryz.func292 ?_;refine N J<|du<|F ?_;have m:a=[]\/b=[]->aP [] p=aP (cT a b p) p:=λf=>by rw[cT,gw f]
 refine rg 12 J J (λf=>?_)<|λf=>?_
 .have f:a=[]:=by simpa using f
  refine z J (al J (λd=>?_)<|λd=>by simp at d);exact N J<|bL<|cK<|ig cv J<|bl.trans (bl.a2<|bl.nil aw)<|bl.of_eq<|m<|.inl f
 .have f:a≠[]:=by simpa using f
  refine z J<|al J (λd=>?_)<|λd=>?_
  .have d:b=[]:=by simpa using d
   exact N J<|bL<|cK<|ig cv J<|bl.trans (bl.a2<|bl.nil aw)<|bl.of_eq<|m<|.inr d
  .have d:b≠[]:=by simpa using d
   have C:=bQ.2 f;have H:=bQ.2 d;refine aD<|F ?_;refine rm aw (Z a+Z b-1) J J J J J J (mI .u64) O ?_ ?_ ?_
   .show _*8<=_;omega
   .show _*1<=_;omega
   refine z J<|du<|N J ?_;refine au<|a8 (α:=Y) (λi=>⟨[(2,.c<|.P 0 0),(3,.c<|.P 1000 0),(4,.c<|.P 2000 0),(5,.c<|.X 2008000),(32,R<|Z a),(33,R i)],[(0,.box 221 0 [.S aw a,.I .u64 p]),(1000,.box 221 0 [.S aw b,.I .u64 p]),(2000,.box 221 0 [.V (.slice none 0 0),.I .u64 0]),(2008000,.vec 150 aw<|mN a b p i)],4,[]⟩) (λi=>i<=Z a) (λi=>Z a-i) 0 (aY _) (wk (bO J) ⟨bE J J,bE J J,bE J J,bE J J,h⟩) ?_;intro i K;have u:=H6 a b p i;refine N J<|du ?_;refine al J (λg=>?_)<|λg=>?_
   .have g:i<Z a:=by simpa using g
    refine aD<|du<|au<|N J<|N J ?_;refine au<|a8 (α:=Y) (λj=>⟨[(2,.c<|.P 0 0),(3,.c<|.P 1000 0),(4,.c<|.P 2000 0),(5,.c<|.X 2008000),(6,R i),(32,R<|Z a),(33,R i),(38,R<|Z b),(39,R j)],[(0,.box 221 0 [.S aw a,.I .u64 p]),(1000,.box 221 0 [.S aw b,.I .u64 p]),(2000,.box 221 0 [.V (.slice none 0 0),.I .u64 0]),(2008000,.vec 150 aw<|rP a b p i j<|mN a b p i)],7,[]⟩) (λj=>j<=Z b) (λj=>Z b-j) 0 (aY _) (wk (bO J) ⟨bE J J,bE J J,bE J J,bE J J,h⟩) ?_;intro j L;have v:=H5 a b p i (mN a b p i) j;refine N J<|du ?_;refine al J (λk=>?_)<|λk=>?_
    .have k:j<Z b:=by simpa using k
     have x:=s i;have y:=t j;have gr:=MC l (a:=a) (b:=b) i (H7 a b l i) j<|i+j;have n:af ((i:G)+(j:G))=i+j:=O;refine aD<|du<|au<|N J<|rt J ?_ (hp:=kv);refine bw<|rt J<|aT (j+1) k Sh<|wk (bO J) ⟨bE J J,bE J J,bE J J,bE J ?_,h⟩;rw[rP,n,<-ZQ _ _ _ p gr x y o];rfl
    .have k:¬j<Z b:=by simpa using k
     have e:j=Z b:=O;subst e;refine a7<|bw<|rt J<|aT (i+1) g nS<|wk (bO J) ⟨bE J J,bE J J,bE J J,bE J J,h⟩
   .have g:¬i<Z a:=by simpa using g
    have e:i=Z a:=O;subst e;refine a7<|aL<|cY 2008000 J J J<|bt J J (ZP (mN a b p<|Z a) p O) J<|bU J ?_;rw[cT,w<|λe=>e.elim f d];rfl
def alB(x:G)(a:V G)(f:Z a<=1000000):ox q 290 [I aw (x::a)] 150 aw (x::a):=by
 refine HG Tryz.func290 J J J J D ?_;refine N J<|j<|F<|rx J J h<|z J ?_;refine al J (λd=>by simp at d)<|λd=>?_;refine aD<|F<|fT aw [] J J (ra J J J J J J J J J ?_ ?_<|z J<|bL<|HE (id:=2002000) cv J J)
 .show(_+(_+1)+(_+(_+1))/4+192)*8<=_;simp only[nb];omega
 .show(_+(_+1))*1<=_;simp only[nb];omega
def alC ws p(a:Z ws<=1000000):r q 232 [aP ws p] (R<|(Z ws:G)-1):=by refine aI Tryz.func232 ?_;exact N J<|N J<|cw J
def uy(f:V G)(p g:G)(i:Y):Y->V G->V G
 |0,d=>d
 |a+1,d=>(uy f p g i a d).set (i+a)<|(E (uy f p g i a d) (i+a) 0+(p-g)*E f a 0)%p
def ij(a d:V G)(p v:G)(m n:Y):Y->V G×V G
 |0=>(bc m 0,a)
 |k+1=>((ij a d p v m n k).1.set (m-(k+1))<|(ij a d p v m n k).2.getD (m-(k+1)+n) 0*v%p,uy d p ((ij a d p v m n k).2.getD (m-(k+1)+n) 0*v%p) (m-(k+1)) (Z d) (ij a d p v m n k).2)
def ME(f:V G)(p g:G)(i:Y)(a:V G):∀d,Z (uy f p g i d a)=Z a
 |0=>rfl
 |d+1=>by rw[uy,ru,ME f p g i a d]
def Si{b:V G}{p c:G}(d:0<p)(i:Y){f:V G}(g:rp p f):∀a,rp p (uy b p c i a f)
 |0=>g
 |a+1=>MB (Si d i g a) _ (iN _ O)<|iO _ d
def MF(a d:V G)(p v:G)(m n:Y):∀k,(ij a d p v m n k).1.length=m/\(ij a d p v m n k).2.length=Z a
 |0=>by simp[ij]
 |k+1=>by have:=MF a d p v m n k;simp only[ij,ru,ME];exact this
def Sj{a:V G}(f:V G){p:G}(v:G)(m n:Y)(d:0<p)(g:rp p a):∀k,rp p (ij a f p v m n k).1/\rp p (ij a f p v m n k).2
 |0=>⟨Sg d _,g⟩
 |k+1=>by have i:=Sj f v m n d g k;exact⟨MB i.1 _ (iN _ O)<|iO _ d,Si d _ i.2 _⟩
def aS(a d:V G)(p:G):V G×V G:=
 if Z a<=Z d-1 then([],a)
 else(λx=>(x.1,aN<|c (Z d-1) x.2)) (ij a d p (jg (E d (Z d-1) 0).toNat (af p):Y) (Z a-(Z d-1)) (Z d-1)<|Z a-(Z d-1))
def alD x y a p(i:0<=x/\x<p)(f:0<=y/\y<=p)(d:0<=a/\a<p)(k:p<=2147483648):(ay .u64<|x+ay .u64 (y*a)).tmod p=(x+y*a)%p:=by have g:0<=y*a:=jx f.1 d.1;have l:y*a<=2147483648*2147483648:=wT O O d.1 O;rw[wrap_u64 (y*a) g O,wrap_u64 _ O O,me O]
def ZR y a p(f:0<=y/\y<p)(d:0<=a/\a<p)(i:p<=2147483648):(ay .u64<|y*a).tmod p=y*a%p:=by have g:0<=y*a:=jx f.1 d.1;have k:y*a<=2147483648*2147483648:=wT O O d.1 O;rw[wrap_u64 (y*a) g O,me O]
def ZS a p(d:0<=a/\a<p)(g:a≠0)(f:2<=p)(i:p<=2147483648):r q 291 [cU a,cU p] (.t [(ah,[.I .u64 (jg (af a) (af p):Y)]),(ah,[.I .i64 0])]):=by have h:=aly (af a) (af p) O (by rw[o6 O];omega) O O;rwa[vN d.1,vN (by omega:0<=p)]at h
def bl.ta{x f y}{i}(k:bl (.c x) (.c f)):bl (.t<|(ae,[x,y])::i) (.t<|(ae,[f,y])::i):=by
 refine⟨?_,?_⟩
 .rintro g v ⟨vs,rfl,v1,r1,rfl,⟨us,rfl,v2,l,rfl,m,d⟩,n⟩;exact⟨_,J,_,_,J,⟨_,J,v2,l,J,k.1 g v2 m,d⟩,n⟩
 .intro o a;have d:=k.2 o;simp only[AV.ak,eW,bV,iD,bg]at a d⊢;rcases a with(a|a)|a
  .exact .inl<|.inl<|d a
  .exact .inl<|.inr a
  .exact .inr a
def alE x T b p{a}(ea:a=x::T)(U:Z a<=1000)(lb:Z b<=1000)(u:2<=p)(y:p<=2147483648)(ha:rp p a)(W:rp p b)(A:b≠[])(g:E b (Z b-1) 0≠0):r q 264 [aP a p,aP b p] (.t [(ae,[.S aw (aS a b p).1,.I .u64 p]),(ae,[.S aw (aS a b p).2,.I .u64 p])]):=by
 refine aI Tryz.func264 ?_;have hpz:p≠0:=O;have pb:=bQ.2 A;have B:ox q 290 [I aw a] 150 aw a:=by rw[ea]at U⊢;exact alB x T (by simp at U;omega)
 refine N J<|F<|Bq J J B<|z J<|bt J J (alC b p O) J<|du<|N J ?_;refine al J (λh=>?_)<|λh=>?_
 .have h:Z a<=Z b-1:=by have h:(Z a:G)<=(Z b:G)-1:=et;omega
  have e:aS a b p=([],a):=by rw[aS,gw h]
  rw[e];refine N J<|bL<|cK<|ig cv J ?_;exact bl.ta<|bl.nil aw
 .have h:¬Z a<=Z b-1:=by have h:¬(Z a:G)<=(Z b:G)-1:=et;omega
  obtain⟨n,D⟩:∃n,Z b=n+1:=⟨Z b-1,O⟩;obtain⟨m,hm⟩:∃m,Z a=n+m:=⟨Z a-n,O⟩;have e:aS a b p=((ij a b p (jg (E b n 0).toNat (af p):Y) m n m).1,aN<|(ij a b p (jg (E b n 0).toNat (af p):Y) m n m).2.take n):=by rw[aS,w h,D,hm,eK,zh]
  rw[e];rw[D,eK]at g;have en:(Z b:G)-1=(n:G):=O;generalize hv:(jg (E b n 0).toNat (af p):Y)=v;have C:(0:G)<=(v:G)/\(v:G)<p:=by have:=Sf (E b n 0).toNat (af p-2) (af p) O;unfold jg at hv;omega
  rw[en];have d:=ZS (E b n 0) p (W n) g u y;rw[hv]at d;refine aD<|bt J J d J<|F ?_;refine rm aw m J J J J J J (mI .u64) O ?_ ?_ ?_
  .show _*8<=_;omega
  .show _*1<=_;omega
  refine z J<|du<|N J ?_;refine au<|a8 (α:=Y) (λk=>⟨[(2,.c<|.P 0 0),(3,.c<|.P 1000 0),(4,.c<|.P 2000 0),(5,.c<|.P 3000 0),(6,.c<|.X 1002000),(7,R n),(8,cU v),(10,.c<|.X 5004000),(11,R<|(m:G)-1-k)],[(0,.box 221 0 [.S aw a,.I .u64 p]),(1000,.box 221 0 [.S aw b,.I .u64 p]),(2000,.box 221 0 [.V (.slice none 0 0),.I .u64 0]),(3000,.box 221 0 [.V (.slice none 0 0),.I .u64 0]),(1002000,.vec 150 aw (ij a b p v m n k).2),(5004000,.vec 150 aw (ij a b p v m n k).1)],7,[]⟩) (λk=>k<=m) (λk=>m-k) 0 (aY _) (wk ⟨sR J,sR J,sR J,sR J,sR J,sR J,sR J,sR J,sE J ?_,aX⟩ ⟨bE J J,bE J J,bE J J,bE J J,bE J J,bE J J,aX⟩) ?_
  .exact be R (by simp only[fo];omega)
  intro k hk;have H:=MF a b p v m n k;have l:=Sj b v m n O ha k;refine du<|N J ?_;refine al J (λh3=>?_)<|λh3=>?_
  .have h3:k<m:=by have h3:(m:G)-1-k>=0:=AQ;omega
   obtain⟨i,hi⟩:∃i,m=i+(k+1):=⟨m-(k+1),O⟩;have ei:(m:G)-1-k=(i:G):=O;have o:m-(k+1)=i:=O;rw[ei];have K:af ((i:G)+(n:G))=i+n:=O;generalize hc:(ij a b p v m n k).2.getD (i+n) 0*v%p=c;have xh:0<=c/\c<p:=by rw[<-hc];exact⟨iN _ O,iO _ O⟩
   have L:=l.2<|i+n;refine aD<|du<|au<|N J (hp:=kv)<|N J ?_;refine au<|a8 (α:=Y) (λj=>⟨[(2,.c<|.P 0 0),(3,.c<|.P 1000 0),(4,.c<|.P 2000 0),(5,.c<|.P 3000 0),(6,.c<|.X 1002000),(7,R n),(8,cU v),(10,.c<|.X 5004000),(11,R i),(65,R<|Z b),(66,R j)],[(0,.box 221 0 [.S aw a,.I .u64 p]),(1000,.box 221 0 [.S aw b,.I .u64 p]),(2000,.box 221 0 [.V (.slice none 0 0),.I .u64 0]),(3000,.box 221 0 [.V (.slice none 0 0),.I .u64 0]),(1002000,.vec 150 aw<|uy b p c i j (ij a b p v m n k).2),(5004000,.vec 150 aw<|(ij a b p v m n k).1.set i c)],10,[]⟩) (λj=>j<=Z b) (λj=>Z b-j) 0 (aY _) (wk (bO J) ⟨bE J J,bE J J,bE J J,bE J J,bE J J,bE J ?_,aX⟩) ?_
   .rw[<-hc,<-ZR _ _ p L C y,<-K];rfl
   intro j hj;have hlj:=ME b p c i (ij a b p v m n k).2 j;have M:=Si (b:=b) (p:=p) (c:=c) O i l.2 j<|i+j;refine N J<|du ?_;refine al J (λf=>?_)<|λf=>?_
   .have f:j<Z b:=by simpa using f
    have gb:=W j;have Q:af ((i:G)+(j:G))=i+j:=O;have s:E ((ij a b p v m n k).1.set i c) i 0=c:=by rw[aK,List.getElem?_set_self O];rfl
    have ZT:Z ((ij a b p v m n k).1.set i c)=m:=by rw[ru];exact H.1
    refine aD<|du<|au<|N J<|rt J ?_ (hp:=kv);refine bw<|rt J<|aT (j+1) f Sh<|wk (bO J) ⟨bE J J,bE J J,bE J J,bE J J,bE J ?_,bE J J,aX⟩;rw[uy,Q,<-alD _ (p-c) _ p M O gb y];have e2:ay .u64 (p-E ((ij a b p v m n k).1.set i c) (af (i:G)) 0)=p-c:=by rw[bY,s,wrap_u64 _ O O]
    rw[<-e2];rfl
   .have f:¬j<Z b:=by simpa using f
    have e:j=Z b:=O;subst e;refine a7<|bw<|rt J<|aT (k+1) h3 (O:m-(k+1)<m-k)<|wk ⟨sR J,sR J,sR J,sR J,sR J,sR J,sR J,sR J,sE J ?_,aX⟩ ⟨bE J J,bE J J,bE J J,bE J J,bE J ?_,bE J ?_,aX⟩
    .exact be R O
    .rw[ij,o,hc]
    .rw[ij,o,hc]
  .have h3:¬k<m:=by have h3:¬(m:G)-1-k>=0:=AQ;omega
   have e:k=m:=O;subst e;refine a7<|aL<|cY 1002000 J J J<|cY 5004000 J J J<|bt J J (ZP ((ij a b p v k n k).2.take n) p BI) J<|cw J
def sm(f:Y->G):Y->G
 |0=>0
 |k+1=>sm f k+f k
def MG(A B:Y->G)(n:Y):∀k,kz A B n k=sm (λi=>A i*B (n-i)) k
 |0=>rfl
 |k+1=>by rw[kz,sm,MG A B n k]
def gI{f g:Y->G}:∀{k:Y},(∀i,i<k->f i=g i)->sm f k=sm g k
 |0,_=>rfl
 |k+1,a=>by rw[sm,sm,gI<|λi d=>a i O,a k O]
def qF{f:Y->G}{k}(a:∀i,i<k->f i=0):sm f k=0:=by
 induction k with
 |zero=>rfl
 |succ k d=>rw[sm,d<|λi g=>a i O,a k O];rfl
def MH(f g:Y->G):∀k,sm (λi=>f i+g i) k=sm f k+sm g k
 |0=>rfl
 |k+1=>by simp only[sm,MH f g k];omega
def zj(a:G)(f:Y->G):∀k,sm (λi=>a*f i) k=a*sm f k
 |0=>by simp[sm]
 |k+1=>by simp only[sm,zj a f k,om]
def Sk a(f:Y->G) k:sm (λi=>f i*a) k=sm f k*a:=by rw[eX,<-zj];exact gI<|λi _=>eX _ _
def ZU(f:Y->G):∀k,sm f (k+1)=f 0+sm (λi=>f<|i+1) k
 |0=>by simp[sm]
 |k+1=>by rw[sm,ZU f k,sm];omega
def ZW(f:Y->G):∀k,sm f k=sm (λi=>f<|k-1-i) k
 |0=>rfl
 |k+1=>by rw[sm,ZW f k,ZU<|λi=>f<|k+1-1-i];have:sm (λi=>f<|k+1-1-(i+1)) k=sm (λi=>f<|k-1-i) k:=gI (λi _=>by congr 1;omega);rw[this,(O:k+1-1-0=k)];omega
def ZX(d:Y->Y->G):∀n,sm (λi=>sm (λa=>d i a)<|i+1) n=sm (λa=>sm (λk=>d (a+k) a)<|n-a) n
 |0=>rfl
 |n+1=>by
  rw[sm,ZX d n];have f:sm (λa=>sm (λk=>d (a+k) a)<|n+1-a) n=sm (λa=>sm (λk=>d (a+k) a) (n-a)+d n a) n:=by refine gI<|λa g=>?_;rw[(O:n+1-a=(n-a)+1),sm,(O:a+(n-a)=n)]
  rw[show sm (λa=>sm (λk=>d (a+k) a)<|n+1-a) (n+1)=sm (λa=>sm (λk=>d (a+k) a)<|n+1-a) n+sm (λk=>d (n+k) n) (n+1-n)from J,f,MH];rw[(O:n+1-n=1),show sm (λa=>d n a) (n+1)=sm (λa=>d n a) n+d n n from J,show sm (λk=>d (n+k) n) 1=0+d (n+0) n from J,jy];have l:sm (λa=>d n a) n=sm (d n) n:=rfl;omega
def PS:Type:=Y->G
namespace PS
instance:Add PS:=⟨λA B i=>A i+B i⟩
instance:Mul PS:=⟨λA B=>conv A B⟩
instance:Neg PS:=⟨λA i=> -(A i)⟩
instance:_root_.Sub PS:=⟨λA B i=>A i-B i⟩
instance:OfNat PS 0:=⟨λ_=>(0:G)⟩
instance:OfNat PS 1:=⟨λi=>if i=0 then(1:G)else 0⟩
def K(a:G):PS:=λi=>if i=0 then a else 0
def X(k:Y):PS:=λi=>if i=k then 1 else 0
def ext{A B:PS}(a:∀i,A i=B i):A=B:=funext a
def eV(A B:PS) i:(A+B) i=A i+B i:=rfl
def EH(A:PS) i:(-A) i= -(A i):=rfl
def lO(A B:PS) i:(A-B) i=A i-B i:=rfl
def mO i:(0:PS) i=0:=rfl
def fF(A B:PS) n:(A*B) n=sm (λi=>A i*B (n-i)) (n+1):=MG A B n<|n+1
def add_comm(A B:PS):A+B=B+A:=ext λi=>vS _ _
def add_assoc(A B C:PS):A+B+C=A+(B+C):=ext λi=>Int.add_assoc _ _ _
def zero_add(A:PS):0+A=A:=ext λi=>BG _
def add_zero(A:PS):A+0=A:=ext λi=>rL _
def add_neg(A:PS):A+ -A=0:=ext λi=>Int.add_right_neg _
def ZY(A:PS): -A+A=0:=ext λi=>Int.add_left_neg _
def sub_def(A B:PS):A-B=A+ -B:=ext λi=>R3
def neg_zero: -(0:PS)=0:=rfl
def neg_add(A B:PS): -(A+B)= -A+ -B:=ext λi=>Int.neg_add
def mul_comm(A B:PS):A*B=B*A:=by
 refine ext λn=>?_
 rw[fF,fF,ZW];refine gI<|λi a=>?_;rw[eX];congr 1<;>congr 1<;>omega
def mul_add(A B C:PS):A*(B+C)=A*B+A*C:=by
 refine ext λn=>?_
 rw[eV,fF,fF,fF,<-MH];exact gI (λi _=>by rw[eV,om])
def add_mul(A B C:PS):(A+B)*C=A*C+B*C:=by rw[mul_comm,mul_add,mul_comm C A,mul_comm C B]
def mul_assoc(A B C:PS):A*B*C=A*(B*C):=by
 refine ext λn=>?_
 rw[fF,fF];have a:sm (λi=>(A*B) i*C (n-i)) (n+1)=sm (λi=>sm (λj=>A j*B (i-j)*C (n-i))<|i+1) (n+1):=gI (λi _=>by rw[fF,Sk]);rw[a,ZX<|λi j=>A j*B (i-j)*C (n-i)];refine gI<|λj d=>?_;rw[fF,<-zj,(O:n+1-j=n-j+1)];refine gI<|λk f=>?_;rw[jl,(O:j+k-j=k),(O:n-(j+k)=n-j-k)]
def mul_zero(A:PS):A*0=0:=by
 refine ext λn=>?_
 rw[fF];exact qF (λi _=>by rw[mO,gY])
def zero_mul(A:PS):0*A=0:=by rw[mul_comm,mul_zero]
def nt k A i:(X k*A) i=if k<=i then A (i-k)else 0:=by
 rw[fF];by_cases h:k<=i
 .rw[b h];have e:sm (λj=>X k j*A (i-j)) (i+1)=X k k*A (i-k):=by have:=Me (X k) A i k (i+1) O (λj _ a=>by simp[X,a]);exact(MG (X k) A i<|i+1).symm.trans this
  rw[e];simp[X]
 .rw[w h];exact qF (λj a=>by simp[X,(O:j≠k)])
def fa a A i:(K a*A) i=a*A i:=by rw[fF];have:=Me (K a) A i 0 (i+1) O (λj _ d=>by simp[K,d]);rw[show sm (λj=>K a j*A (i-j)) (i+1)=K a 0*A (i-0)from(MG (K a) A i<|i+1).symm.trans this];simp[K]
def H8:(1:PS)=K 1:=rfl
def pq:K 0=0:=ext λi=>by simp[K,mO]
def one_mul(A:PS):1*A=A:=ext λi=>by rw[H8,fa,kL]
def mul_one(A:PS):A*1=A:=by rw[mul_comm,one_mul]
def neg_eq A: -A=K (-1)*A:=ext λi=>by rw[fa,EH];omega
def neg_mul(A B:PS): -A*B= -(A*B):=by rw[neg_eq,neg_eq<|A*B,mul_assoc]
def mul_neg(A B:PS):A* -B= -(A*B):=by rw[mul_comm,neg_mul,mul_comm B A]
def EI a d:K (a+d)=K a+K d:=ext λi=>by rw[eV];unfold K;split<;>rfl
def zk a d:K (a*d)=K a*K d:=ext λi=>by rw[fa];unfold K;split<;>simp
def MI a k:X (a+k)=X a*X k:=ext λi=>by
 rw[nt];unfold X;by_cases h:a<=i
 .rw[b h];by_cases h2:i=a+k
  .rw[b h2,b O]
  .rw[w h2,w O]
 .rw[w h,w O]
instance:Std.Associative (α:=PS) (·+·):=⟨add_assoc⟩
instance:Std.Commutative (α:=PS) (·+·):=⟨add_comm⟩
instance:Std.Associative (α:=PS) (·*·):=⟨mul_assoc⟩
instance:Std.Commutative (α:=PS) (·*·):=⟨mul_comm⟩
end PS
def ps(a:V G):PS:=λi=>E a i 0
def cH a i:ps a i=E a i 0:=rfl
def Cg(m:G)(A B:PS):Prop:=∃U:PS,A=B+PS.K m*U
def Cg.at{m}{A B}(a:Cg m A B) i:A i%m=B i%m:=by obtain⟨U,rfl⟩:=a;rw[PS.eV,PS.fa];exact L9 _ _ _
def Cg.of{m}{A B}(a:∀i,A i%m=B i%m):Cg m A B:=by
 let U:PS:=λi=>A i/m-B i/m
 refine⟨U,PS.ext λi=>?_⟩;have d:=nU (A i) m;have f:=nU (B i) m;have:=a i;have e:U i=A i/m-B i/m:=rfl;rw[PS.eV,PS.fa,e,Ey];omega
def Cg.dvd{m}{A B}(a:Cg m A B) i:m∣A i-B i:=by obtain⟨U,rfl⟩:=a;rw[PS.eV,PS.fa];exact⟨U i,O⟩
def Cg.Sl{m}{A B}(a:∀i,m∣A i-B i):Cg m A B:=Cg.of λi=>Sn.2<|BL<|a i
def Cg.refl m A:Cg m A A:=⟨0,by rw[PS.mul_zero,PS.add_zero]⟩
def Cg.of_eq{m}{A B}(a:A=B):Cg m A B:=a▸Cg.refl m A
def Cg.symm{m}{A B}(a:Cg m A B):Cg m B A:=Cg.of λi=>(a.at i).symm
def Cg.trans{m}{A B C}(a:Cg m A B)(k:Cg m B C):Cg m A C:=Cg.of λi=>(a.at i).trans<|k.at i
def Cg.add{m}{A B C a}(d:Cg m A B)(k:Cg m C a):Cg m (A+C) (B+a):=by obtain⟨U,rfl⟩:=d;obtain⟨V,rfl⟩:=k;exact⟨U+V,by rw[PS.mul_add];ac_rfl⟩
def Cg.neg{m}{A B}(a:Cg m A B):Cg m (-A) (-B):=by obtain⟨U,rfl⟩:=a;exact⟨-U,by rw[PS.neg_add,PS.mul_neg]⟩
def Cg.sub{m}{A B C a}(d:Cg m A B)(k:Cg m C a):Cg m (A-C) (B-a):=by rw[PS.sub_def,PS.sub_def];exact d.add k.neg
def Cg.mul{m}{A B C a}(d:Cg m A B)(k:Cg m C a):Cg m (A*C) (B*a):=by obtain⟨U,rfl⟩:=d;obtain⟨V,rfl⟩:=k;refine⟨B*V+U*a+PS.K m*U*V,?_⟩;simp only[PS.mul_add,PS.add_mul];ac_rfl
def Cg.H9{m}A{C a}(k:Cg m C a):Cg m (A*C) (A*a):=(Cg.refl m A).mul k
def Cg.BM{m}{A B}(k:Cg m A B) C:Cg m (A*C) (B*C):=k.mul<|Cg.refl m C
def Cg.Z0{m}A{C a}(k:Cg m C a):Cg m (A+C) (A+a):=(Cg.refl m A).add k
def Cg.EJ{m}{A B}(k:Cg m A B) C:Cg m (A+C) (B+C):=k.add<|Cg.refl m C
def Cg.K{m a d}(f:a%m=d%m):Cg m (PS.K a) (PS.K d):=Cg.of λi=>by
 unfold PS.K;split
 .exact f
 .rfl
def Dl(p:G)(n:Y)(A:PS):Prop:=∀i,n<=i->A i%p=0
def Dl.cg{p}{n}{A B}(a:Dl p n A)(k:Cg p A B):Dl p n B:=λi d=>by rw[<-k.at i];exact a i d
def Dl.le{p}{n m}{A}(a:Dl p n A)(k:n<=m):Dl p m A:=λi d=>a i O
def Dl.add{p}{n}{A B}(d:Dl p n A)(k:Dl p n B):Dl p n (A+B):=λi a=>by rw[PS.eV,Ia,d i a,k i a];rfl
def Dl.neg{p}{n}{A}(a:Dl p n A):Dl p n (-A):=λi d=>by rw[PS.EH];exact BL<|Int.dvd_neg.2<|EK<|a i d
def Dl.sub{p}{n}{A B}(a:Dl p n A)(k:Dl p n B):Dl p n (A-B):=by rw[PS.sub_def];exact a.add k.neg
def Z1{p}{f:Y->G}{k}(a:∀i,i<k->f i%p=0):sm f k%p=0:=by
 induction k with
 |zero=>exact gZ _
 |succ k d=>rw[sm,Ia,d<|λi g=>a i O,a k O];rfl
def MJ{p a d:G}(f:a%p=0):a*d%p=0:=by rw[qG,f,nq,gZ]
def MK{p a d:G}(f:d%p=0):a*d%p=0:=by rw[eX];exact MJ f
def Dl.mul{p}{n m}{A B}(d:Dl p (n+1) A)(k:Dl p m B):Dl p (n+m) (A*B):=λi f=>by
 rw[PS.fF];refine Z1<|λj g=>?_;by_cases a:n+1<=j
 .exact MJ<|d j a
 .exact MK<|k (i-j) O
def Dl.mul'{p}{n m}{A B}(a:Dl p n A)(k:Dl p m B):Dl p (n+m) (A*B):=by
 cases n with
 |zero=>
  intro i d
  rw[PS.fF]
  exact Z1<|λj f=>MJ<|a j<|aY _
 |succ n=>exact(a.mul k).le O
def Dl.top{p}{n m}{A B}(d:Dl p (n+1) A)(k:Dl p (m+1) B):(A*B) (n+m)%p=A n*B m%p:=by
 rw[PS.fF];have:∀r,r<=n+m+1->sm (λi=>A i*B (n+m-i)) r%p=if n<r then A n*B m%p else 0:=by
  intro r g;induction r with
  |zero=>simp[sm]
  |succ r f=>
   rw[sm,Ia,f O]
   by_cases a:n<r
   .rw[b a,b O,MJ<|d r O,rL,mP]
   .rw[w a];by_cases h2:n=r
    .subst h2;rw[b O,BG,mP,(O:n+m-n=m)]
    .rw[w O,MK<|k _ O];rfl
 rw[this _ (aO _),b O]
def alH{p}{A}(a:Dl p 0 A):Cg p A 0:=Cg.of λi=>by rw[a i (aY _),PS.mO,gZ]
def k5 p a:Dl p (Z a) (ps a):=λi d=>by rw[cH,aK,iX d];simp
def alI p k:Dl p (k+1) (PS.X k):=λi a=>by unfold PS.X;rw[w O];simp
def So p a:Dl p 1 (PS.K a):=λi d=>by unfold PS.K;rw[w O];simp
def alJ p n:Dl p n 0:=λi _=>by rw[PS.mO,gZ]
def Z2 p:Dl p 1 1:=So p 1
def dO(p:Y):Prop:=2<=p/\∀d,2<=d->d*d<=p->p%d≠0
def dO.EL{p d}(f:dO p)(i:d∣p):d=1\/d=p:=by
 let ⟨e,he⟩:=i;have l:=f.1;have m:d≠0:=by intro a;subst a;simp at he;omega
 have a:e≠0:=by intro a;subst a;simp at he;omega
 by_cases d1:d=1
 .exact .inl d1
 by_cases k:e=1
 .subst k;right;omega
 exfalso;by_cases g:d<=e
 .exact f.2 d O (by rw[he];exact fN d g) (by rw[he];exact Nat.mul_mod_right d e)
 .exact f.2 e O (by rw[he];exact eC e O) (by rw[he];exact Nat.mul_mod_left d e)
def dO.coprime{p a}(d:dO p)(f:¬p∣a):Nat.Coprime p a:=by
 rcases d.EL (Nat.gcd_dvd_left p a)with e|e
 .exact e
 .exact absurd (e▸Sq p a) f
def dO.dvd_mul{p a b}(f:dO p)(g:p∣a*b):p∣a\/p∣b:=by
 by_cases d:p∣a
 .exact .inl d
 .exact .inr<|(f.coprime d).dvd_of_dvd_mul_left g
def dO.Z3{p}{a d}(f:dO p)(g:(p:G)∣a*d):(p:G)∣a\/(p:G)∣d:=by
 have:p∣aC a*aC d:=by rw[<-rQ];have:=Ib.2 g;rwa[px]at this
 rcases f.dvd_mul this with e|e
 .exact .inl (Ib.1<|by rwa[px])
 .exact .inr (Ib.1<|by rwa[px])
def dO.nW{p}{a d}(f:dO p)(g:a%(p:G)≠0)(i:d%(p:G)≠0):a*d%(p:G)≠0:=λe=>by
 rcases f.Z3 (EK e)with e|e
 .exact g<|BL e
 .exact i<|BL e
def ch:Y->Y->Y
 |_,0=>1
 |0,_+1=>0
 |n+1,k+1=>ch n k+ch n (k+1)
def rR n:ch n 0=1:=by cases n<;>rfl
def zn:∀(n k:Y),n<k->ch n k=0
 |0,0,a=>by omega
 |0,k+1,_=>rfl
 |n+1,0,a=>by omega
 |n+1,k+1,a=>by rw[ch,zn n k O,zn n (k+1) O]
def Ic:∀n,ch n n=1
 |0=>rfl
 |n+1=>by rw[ch,Ic n,zn n (n+1) O]
def ML:∀(n k:Y),(k+1)*ch (n+1) (k+1)=(n+1)*ch n k
 |0,0=>rfl
 |0,k+1=>by rw[zn 1 (k+1+1) O];rfl
 |n+1,0=>by have:=ML n 0;rw[rR]at this;rw[show ch (n+1+1) (0+1)=ch (n+1) 0+ch (n+1) (0+1)from J,rR];omega
 |n+1,k+1=>by have a:=ML n k;have d:=ML n<|k+1;rw[ch,vY,d];rw[(GS:(k+1+1)*ch (n+1) (k+1)=(k+1)*ch (n+1) (k+1)+ch (n+1) (k+1)),a];rw[show ch (n+1) (k+1)=ch n k+ch n (k+1)from J];grind
def dO.alK{p k}(a:dO p)(f:0<k)(g:k<p):p∣ch p k:=by
 obtain⟨n,rfl⟩:∃n,p=n+1:=⟨p-1,O⟩;obtain⟨j,rfl⟩:∃j,k=j+1:=⟨k-1,O⟩;have d:n+1∣(j+1)*ch (n+1) (j+1):=⟨ch n j,ML n j⟩;rcases a.dvd_mul d with e|e
 .have:=vZ O e;omega
 .exact e
def pw(A:PS):Y->PS
 |0=>1
 |n+1=>pw A n*A
def sP(f:Y->PS):Y->PS
 |0=>0
 |k+1=>sP f k+f k
def Sr{f g:Y->PS}:∀{k:Y},(∀i,i<k->f i=g i)->sP f k=sP g k
 |0,_=>rfl
 |k+1,a=>by rw[sP,sP,Sr<|λi d=>a i O,a k O]
def Z4(f g:Y->PS):∀k,sP (λi=>f i+g i) k=sP f k+sP g k
 |0=>(PS.add_zero 0).symm
 |k+1=>by simp only[sP,Z4 f g k];ac_rfl
def Ss(f:Y->PS)(A:PS):∀k,sP (λi=>f i*A) k=sP f k*A
 |0=>(PS.zero_mul A).symm
 |k+1=>by simp only[sP,Ss f A k,PS.add_mul]
def MM(f:Y->PS):∀k,sP f (k+1)=f 0+sP (λi=>f<|i+1) k
 |0=>by simp only[sP];exact PS.add_comm _ _
 |k+1=>by rw[sP,MM f k,sP,PS.add_assoc]
def alL{m}{f:Y->PS}{k}(a:∀i,i<k->Cg m (f i) 0):Cg m (sP f k) 0:=by
 induction k with
 |zero=>exact Cg.refl m _
 |succ k d=>
  have:=(d<|λi g=>a i O).add<|a k O
  rwa[PS.add_zero]at this
def Z5(A B:PS):∀n,pw (A+B) n=sP (λk=>PS.K (ch n k)*(pw A k*pw B (n-k))) (n+1)
 |0=>by rw[show sP (λk=>PS.K (ch 0 k)*(pw A k*pw B (0-k))) (0+1)=0+1*(1*1)from J,PS.zero_add,PS.mul_one,PS.mul_one];rfl
 |n+1=>by
  rw[pw,Z5 A B n,PS.mul_add,<-Ss,<-Ss];rw[MM (λk=>PS.K (ch (n+1) k)*(pw A k*pw B (n+1-k))) (n+1)];have a:sP (λi=>PS.K (ch (n+1)<|i+1)*(pw A (i+1)*pw B (n+1-(i+1)))) (n+1)=sP (λi=>PS.K (ch n i)*(pw A i*pw B (n-i))*A) (n+1)+sP (λi=>PS.K (ch n<|i+1)*(pw A (i+1)*pw B (n-i))) (n+1):=by rw[<-Z4];refine Sr<|λi _=>?_;rw[(O:n+1-(i+1)=n-i),ch,xt,PS.EI,PS.add_mul,pw];ac_rfl
  have d:sP (λi=>PS.K (ch n i)*(pw A i*pw B (n-i))*B) (n+1)=PS.K (ch (n+1) 0)*(pw A 0*pw B (n+1-0))+sP (λi=>PS.K (ch n<|i+1)*(pw A (i+1)*pw B (n-i))) (n+1):=by
   rw[MM,show sP (λi=>PS.K (ch n<|i+1)*(pw A (i+1)*pw B (n-i))) (n+1)=sP (λi=>PS.K (ch n<|i+1)*(pw A (i+1)*pw B (n-i))) n+PS.K (ch n<|n+1)*(pw A (n+1)*pw B (n-n))from J];rw[zn n (n+1) O,rR,rR,show PS.K ((0:Y):G)=0 from PS.pq,PS.zero_mul,PS.add_zero];have f:sP (λi=>PS.K (ch n<|i+1)*(pw A (i+1)*pw B (n-(i+1)))*B) n=sP (λi=>PS.K (ch n<|i+1)*(pw A (i+1)*pw B (n-i))) n:=by refine Sr<|λi l=>?_;rw[(O:n-i=n-(i+1)+1),pw.eq_2 B];ac_rfl
   rw[f];have g:pw B (n+1-0)=pw B (n-0)*B:=rfl;rw[g];ac_rfl
  rw[a,d];ac_rfl
def dO.Ie{p}(h:dO p) A B:Cg p (pw (A+B) p) (pw A p+pw B p):=by
 rw[Z5];obtain⟨n,rfl⟩:∃n,p=n+1:=⟨p-1,BN⟩;rw[sP,MM];rw[Ic,rR,(O:n+1-(n+1)=0),BO];have e:Cg ((n+1:Y):G) (sP (λi=>PS.K (ch (n+1)<|i+1)*(pw A (i+1)*pw B (n+1-(i+1)))) n) 0:=by refine alL<|λi l=>?_;have a:=h.alK (k:=i+1) O O;have:Cg ((n+1:Y):G) (PS.K (ch (n+1) (i+1):Y)) (PS.K 0):=Cg.K (by rw[gZ];exact BL<|xC.2 a);rw[PS.pq]at this;have d:=this.BM<|pw A (i+1)*pw B (n+1-(i+1));rwa[PS.zero_mul]at d
 have f:PS.K ((1:Y):G)*(pw A 0*pw B (n+1))=pw B (n+1):=by rw[show PS.K ((1:Y):G)=1 from J,PS.one_mul,show pw A 0=1 from J,PS.one_mul]
 have g:PS.K ((1:Y):G)*(pw A (n+1)*pw B 0)=pw A (n+1):=by rw[show PS.K ((1:Y):G)=1 from J,PS.one_mul,show pw B 0=1 from J,PS.mul_one]
 rw[f,g];have:=((Cg.refl ((n+1:Y):G)<|pw B<|n+1).add e).add<|Cg.refl _<|pw A<|n+1;rw[PS.add_zero]at this;rw[PS.add_comm (pw A<|n+1)];exact this
def Su(a:G):∀n,pw (PS.K a) n=PS.K (a^n)
 |0=>by rw[o8];rfl
 |n+1=>by rw[pw,Su a n,<-PS.zk,fK]
def Z6:∀n,pw 1 n=1
 |0=>rfl
 |n+1=>by rw[pw,Z6 n,PS.mul_one]
def dO.EM{p:Y}(h:dO p):∀a:Y,((a:G)^p)%(p:G)=(a:G)%(p:G)
 |0=>by obtain⟨n,rfl⟩:∃n,p=n+1:=⟨p-1,BN⟩;rw[fK];simp
 |a+1=>by
  have g:=h.EM a;have d:=(h.Ie (PS.K (a:G)) 1).at 0;rw[show PS.K (a:G)+1=PS.K ((a+1:Y):G)by rw[PS.H8,<-PS.EI];rfl,Su,Z6,PS.eV,Su]at d;have f:∀c:G,PS.K c 0=c:=λc=>by simp[PS.K]
  rw[f,f,PS.H8,f,Ia,g,<-Ia]at d;exact d
def dO.alM{p a}(h:dO p)(d:¬p∣a):a^(p-1)%p=1:=by
 have f:=h.EM a;obtain⟨n,rfl⟩:∃n,p=n+1:=⟨p-1,BN⟩;have g:((n+1:Y):G)∣(a:G)*((a:G)^n-1):=by rw[Ey,ns,eX,<-fK];exact EK<|Sn.1 f
 rcases h.Z3 g with e|e
 .exact absurd (xC.1 e) d
 .have h3:((a:G)^n)%((n+1:Y):G)=1%((n+1:Y):G):=Sn.2<|BL e;have i:(1:G)%((n+1:Y):G)=1:=gX D BN;rw[i]at h3;simp only[eK];have:((a^n%(n+1):Y):G)=1:=AQ;omega
def dO.inv{p a}(d:dO p)(f:¬p∣a):a*(a^(p-2)%p)%p=1:=by rw[EN,Nat.mod_mod,<-EN];have:=d.alM f;have g:=d.1;rwa[(O:p-1=p-2+1),fO,gG]at this
def Sv:∀(f d a n p:Y),n<2^f->d<p->rO f d a n p=d*a^n%p
 |0,d,a,n,p,h,g=>by have:n=0:=et;subst this;rw[rO,po,qB,o6 g]
 |f+1,d,a,n,p,h,g=>by
  rw[rO];split
  .rename_i l;subst l;rw[po,qB,o6 g]
  .have m:0<p:=by omega
   have i:n/2<2^f:=by rw[fO]at h;omega
   have k:(a*a%p)^(n/2)%p=a^(2*(n/2))%p:=by rw[<-Nat.pow_mod,<-Nat.pow_two,EO]
   split
   .rename_i o;rw[Sv f _ _ _ _ i (fS _ m),EN,k,<-EN,Nat.mod_mul_mod];have:a^n=a*a^(2*(n/2)):=by rw[gG,<-fO];congr 1;omega
    rw[this,pj]
   .rename_i o;rw[Sv f _ _ _ _ i g,EN,k,<-EN];have:2*(n/2)=n:=O;rw[this]
def alN a n p(d:n<18446744073709551616)(f:1<p):ux a n p=a^n%p:=by rw[ux,Sv _ _ _ _ _ d<|fS _ O,o6 f,jn,<-Nat.pow_mod]
def Z7 a p(d:p<18446744073709551616)(f:1<p):jg a p=a^(p-2)%p:=alN a (p-2) p O f
def Sw(n:Y):Y->Bool:=λk=>Nat.rec (motive:=λ_=>Bool) ae (λi a=>match Nat.beq (n%(i+2)) 0 with|true=>ah|false=>a) k
def Z8{n:Y}:∀{k:Y},Sw n k=ae->∀d,2<=d->d<k+2->n%d≠0
 |0,_,d,h2,g=>by omega
 |k+1,i,d,h2,g=>by
  have a:(match Nat.beq (n%(k+2)) 0 with|true=>ah|false=>Sw n k)=ae:=i;split at a
  .cases a
  .rename_i f;by_cases e:d=k+2
   .subst e;intro l;rw[l]at f;cases f
   .exact Z8 a d h2 O
def alO:Sw 2147483647 46340=ae:=dZ
def alP:dO 2147483647:=⟨D,λd a f=>Z8 alO d a (by
 by_cases e:d<46342
 .exact e
 .have:46342*46342<=d*d:=mL O O;omega)⟩
def Z9:∀(m n:Y),m+n=2147483647->0<m->∃p,dO p/\n<p/\p<=2147483647/\∀a,n<a->a<p->¬dO a
 |0,_,_,g=>by omega
 |m+1,n,g,_=>by
  by_cases d:dO (n+1)
  .exact⟨n+1,d,O,O,λa f i=>O⟩
  .by_cases k:m=0
   .subst k;have:n+1=2147483647:=O;rw[this]at d;exact absurd alP d
   .let ⟨p,f,i,l,o⟩:=Z9 m (n+1) O O;refine⟨p,f,O,l,λa u s=>?_⟩;by_cases t:a=n+1
    .rw[t];exact d
    .exact o a O s
def Z' n(k:dO n)(u:n<=2147483647):r q 204 [cU n] (cB ae):=by
 refine aI Tryz.func204 ?_;have v:=k.1;refine N J<|j<|F<|rg 6 J J (λg=>?_)<|λg=>?_
 .exfalso;have g:(n:G)<2:=aU g;omega
 refine z J<|al J (λl=>?_)<|λ_=>aD ?_
 .exfalso;have l:(n:G)>2147483647:=aU l;omega
 refine j<|N J<|au<|a8 (α:=Y) (λd=>⟨[(0,cU n),(3,cU d)],[],4,[]⟩) (λd=>2<=d/\(d-1)*(d-1)<=n) (λd=>n+2-d) 2 ⟨D,O⟩ aM ?_;rintro d ⟨m,o⟩;have f:d<65536:=by
  by_cases e:d<65536
  .exact e
  .have:65535*65535<=(d-1)*(d-1):=mL O O;omega
 have p:d*d<4294967296:=My f f;have s:ay .u64 ((d:G)*(d:G))=((d*d:Y):G):=by rw[<-fD,wrap_u64 _ O O]
 refine j<|N J<|al J (λa=>?_)<|λa=>?_
 .have a:ay .u64 ((d:G)*(d:G))<=(n:G):=aU a;rw[s]at a;have a:d*d<=n:=O;have t:=k.2 d m a;refine aD (j<|au<|N J (hp:=aF)<|al J (λi=>?_)<|λ_=>cP<|bw ?_)
  .exfalso;have i:(n:G).tmod (d:G)=0:=eq_of_beq i;rw[mJ]at i;omega
  .have:d<=n:=bm (MN d O) a;refine rt J<|aT (d+1) ⟨O,by rw[eK];exact a⟩ (O:n+2-(d+1)<n+2-d)<|wk ⟨sR J,sE J ?_,h⟩ h;refine bP ?_;show ay .u64 ((d:G)+1)=((d+1:Y):G);rw[wrap_u64 _ O O];omega
 .exact a7<|aL<|N J<|cw J
def alQ n(t:¬dO n)(x:n<=2147483647):r q 204 [cU n] (cB ah):=by
 refine aI Tryz.func204 ?_;refine N J<|j<|F<|rg 6 J J (λi=>?_)<|λi=>?_
 .exact z J (al J (λ_=>N J<|bL<|cK<|atR J)<|λl=>by cases l)
 have p:2<=n:=by have i:¬(n:G)<2:=a6 i;omega
 refine z J<|al J (λl=>?_)<|λ_=>aD ?_
 .exfalso;have l:(n:G)>2147483647:=aU l;omega
 refine j<|N J<|au<|a8 (α:=Y) (λd=>⟨[(0,cU n),(3,cU d)],[],4,[]⟩) (λd=>2<=d/\(d-1)*(d-1)<=n/\∀k,2<=k->k<d->n%k≠0) (λd=>n+2-d) 2 ⟨D,O,λk m p=>O⟩ aM ?_;rintro d ⟨y,u,f⟩;have g:d<65536:=by
  by_cases e:d<65536
  .exact e
  .have:65535*65535<=(d-1)*(d-1):=mL O O;omega
 have v:d*d<4294967296:=My g g;have s:ay .u64 ((d:G)*(d:G))=((d*d:Y):G):=by rw[<-fD,wrap_u64 _ O O]
 refine j<|N J<|al J (λa=>?_)<|λa=>?_
 .have a:ay .u64 ((d:G)*(d:G))<=(n:G):=aU a;rw[s]at a;have a:d*d<=n:=O;refine aD (j<|au<|N J (hp:=aF)<|al J (λo=>?_)<|λo=>cP<|bw ?_)
  .refine N J<|bL ?_;repeat(first|refine cK ?_|refine kX ?_|refine lI ?_)
   exact atR J
  .have o:(n:G).tmod (d:G)≠0:=nV o;rw[mJ]at o;have:d<=n:=bm (MN d O) a;refine rt J (aT (d+1) ⟨O,by rw[eK];exact a,λk m p=>?_⟩ (O:n+2-(d+1)<n+2-d)<|wk ⟨sR J,sE J ?_,h⟩ h)
   .by_cases e:k=d
    .subst e;omega
    .exact f k m O
   .refine bP ?_;show ay .u64 ((d:G)+1)=((d+1:Y):G);rw[wrap_u64 _ O O];omega
 .exfalso;have a:¬ay .u64 ((d:G)*(d:G))<=(n:G):=a6 a;rw[s]at a;refine t ⟨p,λk m i=>f k m ?_⟩;by_cases e:k<d
  .exact e
  .have:d*d<=k*k:=mL O O;omega
def alR n(l:n<2147483647):∃p,dO p/\n<p/\p<=2147483647/\(∀a,n<a->a<p->¬dO a)/\r q 174 [cU n] (.t [(ah,[.I .u64 p]),(ah,[.I .i64 0])]):=by
 let ⟨p,f,h2,g,i⟩:=Z9 (2147483647-n) n O O;refine⟨p,f,h2,g,i,?_⟩;refine aI Tryz.func174 ?_;refine N J<|j<|N J<|al J (λh=>?_)<|λ_=>aD ?_
 .exfalso;have h:(n:G)>=2147483647:=aU h;omega
 refine N J<|j<|au<|a8 (α:=Y) (λa=>⟨[(4,cU a)],[],4,[]⟩) (λa=>n<a/\a<=p) (λa=>p-a) (n+1) ⟨O,O⟩ (wk ⟨sE J ?_,aX⟩ aX) ?_
 .refine bP ?_;show ay .u64 ((n:G)+1)=((n+1:Y):G);rw[wrap_u64 _ O O];omega
 rintro a ⟨d,k⟩;by_cases e:a=p
 .subst e;refine j<|bt J J (Z' a f g) J<|al J (λh=>fE)<|λ_=>?_;exact a7<|aL<|N J<|cw J
 .refine j<|bt J J (alQ a (i a d O) O) J<|al J (λ_=>?_)<|λh=>fE;refine aD<|au<|rt J<|eE<|aT (a+1) ⟨O,O⟩ (O:p-(a+1)<p-a)<|wk ⟨sE J ?_,aX⟩ aX;refine bP ?_;show ay .u64 ((a:G)+1)=((a+1:Y):G);rw[wrap_u64 _ O O];omega
end Go.El
