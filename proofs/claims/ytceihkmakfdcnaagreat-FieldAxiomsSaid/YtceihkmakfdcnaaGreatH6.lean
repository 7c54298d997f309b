/- Contracts: integers of the program: division by one word, shifts. Own work; no condition. -/
import Derived.Test.YtceihkmakfdcnaaGreatH5
import Derived.Test.YtceihkmakfdcnaaGreatH4
import Derived.Test.YtceihkmakfdcnaaGreatH3
set_option linter.all false
set_option maxHeartbeats 16000000
set_option maxRecDepth 100000
open BitVec renaming ofInt->iG
open Bool renaming false->ah,true->ae
open Decidable renaming byContradiction->F'
open Go.El renaming rr->I,cS->N,ar5->c,jt->S,jg->M,re->j,cI->y,mH->b,rb->R,vK->r
open Go.IntKind renaming wrap->aw,bits->cY
open Go.Proofs.Tryz renaming prog->z,func190->Xg
open Int renaming toNat->af,natAbs->aA
open List renaming length->Z,replicate->bg,getD->E,take->h,drop->az
open _root_ renaming Nat->Y,Int->G,List->V
namespace Go.El
open Go Go.Proofs Go.RowKit
def aij(x:Y)(a:0<x)(d:x<4294967296):∃s:Y,r z 223 [cW x] (y s)/\s<=31/\2147483648<=x*2^s/\x*2^s<4294967296:=by
 let ⟨l,f,n,h2,g,i⟩:=aii x a d;have e:2^l*2^(32-l)=4294967296:=by rw[<-lI,(O:l+(32-l)=32)]
 have k:0<2^(32-l):=iA T;have o:x*2^(32-l)<2^l*2^(32-l):=P6 g k;have m:2^l*2^(32-l)<=2*x*2^(32-l):=ef _ i;rw[uB]at m;refine⟨32-l,?_,O,O,O⟩;refine aJ Tryz.func223 ?_;refine I J<|R<|rc J J f<|j J (hp:=aF)<|bO J<|iz ?_;show(32:G)-(l:G)=((32-l:Y):G);omega
def aik a d(n:bN a)(l:0<d)(o:d<4294967296)(U:Z a<=1099511627776):r z 222 [N al a,cU d] (.t [(ah,[.S al (b<|af<|val a/d)]),(ah,[.I .u64 (val a%d)])]):=by
 refine aJ Tryz.func222 ?_;refine I J<|R ?_;refine rm al (Z a) J J J J J J (lH .u32) J ?_ ?_ ?_
 .show _*4<=_;omega
 .show _*1<=_;omega
 refine re J<|I J<|M<|I J ?_;refine ay<|bf (α:=Y×V G×G) (λx=>⟨[(0,N al a),(1,cU d),(6,.c<|.X 1002000),(7,cU x.2.2),(8,y<|(x.1:G)-1)],[(1002000,.vec 142 al x.2.1)],4,[]⟩) (CS a d) (λx=>x.1) (Z a,bg (Z a) 0,0) ?_ aU ?_
 .exact⟨aW _,ax,pR _,gK _,l,wg⟩
 .rintro⟨k,q,e⟩ f;have p:Z q=Z a:=f.len;have i:0<=e:=f.r0;have m:e<d:=f.r1;have W:k<=Z a:=f.k;refine M<|I J ?_;refine c J (λh=>?_) (λh=>?_)
  .have h:(k:G)-1>=0:=by simpa using h
   obtain⟨j,rfl⟩:∃j,k=j+1:=⟨k-1,O⟩;have u:af (((j+1:Y):G)-1)=j:=O;have g:=db n j;have H:=J5 i m g.1 g.2 o;have B:=f.next n o;refine aD<|M<|ay<|I J (hp:=aF) ?_;have C:aw .u64 ((iG (cY .u64) (aw .u64<|e*2^(min (af ((32:Y):G))<|cY .u64))|||iG (cY .u64) (aw .u64<|E a (af<|((j+1:Y):G)-1) 0)).toNat:G)=e*4294967296+E a j 0:=by rw[u,yj e 32 i O O,wrap_u64 (E a j 0) O O,An (e*2^32) (E a j 0) 32 O (C4 _ _) O O O,show(2:G)^32=4294967296 from J]
   generalize ht:e*4294967296+E a j 0=s at B H C;have K:aw .u32 (aw .u64<|s.tdiv d)=s/d:=by rw[sW O,wrap_u64 _ O O,wrap_u32 _ O O]
   have L:s.tmod d=s%d:=lj O;refine dW (st':=⟨[(0,N al a),(1,cU d),(6,.c<|.X 1002000),(8,y<|((j+1:Y):G)-1),(9,cU s)],[(1002000,.vec 142 al q)],6,[]⟩) (wk ⟨sR J,sR J,sR J,sR J,sE J ?_,A⟩ ⟨bR J,A⟩) ?_
   .exact bK C
   refine I J<|rt J<|bH<|rt J<|aS (j,q.set j<|s/d,s%d) B rK<|wk ⟨sR J,sR J,sR J,sE J ?_,sE J ?_,A⟩ ⟨bE J ?_,A⟩
   .exact bK L
   .refine iz ?_;show((j+1:Y):G)-1-1=(j:G)-1;omega
   .rw[K,u]
  .have h:¬((k:G)-1>=0):=by simpa using h
   have:k=0:=O;subst this;refine bh<|aI<|c8 1002000 J J J<|R ?_;refine rc J J (uw _)<|re J<|bO J ?_;have F:val a=val q*d+e:=f.v;have P:bN q:=f.r;have eq:val a/d=val q:=by rw[F,ux,Ai _ _ O,CT i m];omega
   have Q:val a%d=e:=by rw[F,ux,Py,gx i m]
   rw[nM P,eq,Q];rfl
def ail{a}(d:bN a) s i:0<=val (h i a)*2^s/4294967296^i/\val (h i a)*2^s/4294967296^i<2^s:=by have e:=kY<|iE d i;have k:=lZ<|iE d i;have l:=sk (m:=(h i a).length) (n:=i) bV;have f:=jd i;have g:(0:G)<2^s:=mI T;refine⟨xy (iP e O) O,BI f ?_⟩;rw[et];exact Int.mul_lt_mul_of_pos_left O g
def aim a s i:
  bM (i+1) (val (h (i+1) a)*2^s)=bM i (val (h i a)*2^s)++[(E a i 0*2^s+val (h i a)*2^s/4294967296^i)%4294967296]/\
  val (h (i+1) a)*2^s/4294967296^(i+1)=(E a i 0*2^s+val (h i a)*2^s/4294967296^i)/4294967296:=by
 have f:=jd i
 have e:val (h (i+1) a)*2^s=val (h i a)*2^s+E a i 0*2^s*4294967296^i:=by rw[jE,mJ,iF,et<|4294967296^i,<-iF]
 have d:val (h (i+1) a)*2^s/4294967296^i=E a i 0*2^s+val (h i a)*2^s/4294967296^i:=by rw[e,Ai _ _ O,ux]
 refine⟨?_,by rw[Kb,d]⟩
 rw[CW,d,e,PE]
def Xa xs n(a:G):(xs++bg (n+1) 0).set (Z xs) a=(xs++[a])++bg n 0:=by rw[Kg _ _ (aW _),ma,xx,PF,lD];rfl
def Xb a(s:Y)(x:bN a)(F:s<=31)(L:Z a<=1099511627776):nC z 224 [N al a,y s] 142 al (bM (Z a+1)<|val a*2^s):=by
 refine FQ Tryz.func224 J J J J T ?_;have q:(2:G)^s<=2^31:=by have:=fh (T:2>0) F;have B:(2:G)^s=((2^s:Y):G):=ax;omega
 have C:(0:G)<2^s:=mI T;refine I J<|R ?_;refine rm al (Z a+1) J J J J J J (lH .u32) J ?_ ?_ ?_
 .show _*4<=_;omega
 .show _*1<=_;omega
 refine j J<|I J<|M<|I J ?_;refine ay<|bf (α:=Y) (λi=>⟨[(0,N al a),(1,y s),(5,.c<|.X 1003000),(6,cU<|val (h i a)*2^s/4294967296^i),(14,y<|Z a),(15,y i)],[(1003000,.vec 142 al<|bM i (val (h i a)*2^s)++bg (Z a+1-i) 0)],4,[]⟩) (λi=>i<=Z a) (λi=>Z a-i) 0 (a8 _) (wk ⟨sR J,sR J,sR J,sE J ?_,sR J,sR J,A⟩ ⟨bE J ?_,A⟩) ?_
 .simp[val];rfl
 .simp[bM]
 intro i P;have m:=ail x s i;have f:=aim a s i;have d:Z (bM i<|val (h i a)*2^s)=i:=rM _ _;generalize n:val (h i a)*2^s/4294967296^i=k at m f;refine I J<|M ?_;refine c J (λl=>?_)<|λl=>?_
 .have l:i<Z a:=by simpa using l
  have g:=db x i;have u:0<=E a i 0*2^s:=iP g.1 O;have H:E a i 0*2^s<=4294967295*2^31:=vA O q O T;refine aD<|M<|ay<|I J<|I J (hp:=aF) ?_;have K:aw .u64 ((iG (cY .u64) (aw .u64<|aw .u64 (E a (af (i:G)) 0)*2^(min (af ((s:Y):G))<|cY .u64))|||iG (cY .u64) k).toNat:G)=E a i 0*2^s+k:=by rw[b6 i,wrap_u64 (E a i 0) O O,yj _ s g.1 O O,An _ k s u (C4 _ _) m.1 m.2 O]
  generalize ht:E a i 0*2^s+k=t at*;refine dW (st':=⟨[(0,N al a),(1,y s),(5,.c<|.X 1003000),(7,y i),(8,cU t),(14,y<|Z a),(15,y i)],[(1003000,.vec 142 al<|bM i (val (h i a)*2^s)++bg (Z a+1-i) 0)],7,[]⟩) (wk ⟨sR J,sR J,sR J,sR J,sE J ?_,sR J,sR J,A⟩ ⟨bR J,A⟩) ?_
  .exact bK K
  have v:Z (bM i (val (h i a)*2^s)++bg (Z a+1-i) (0:G))=Z a+1:=by rw[ix,d,fF];omega
  refine I J (hp:=aF)<|rt J (hp:=aF)<|bH<|rt J<|aS (i+1) l nY<|wk ⟨sR J,sR J,sR J,sE J ?_,sR J,sR J,A⟩ ⟨bE J ?_,A⟩
  .refine bK ?_;rw[f.2];exact yk t 32 O
  .refine a6 (aE.vec 142 al) ?_;have B:aw .u32 t=t%4294967296:=Kw;have o:=Xa (bM i<|val (h i a)*2^s) (Z a-i)<|t%4294967296;rw[d,(O:Z a-i+1=Z a+1-i)]at o;rw[B,b6,o,f.1,(O:Z a-i=Z a+1-(i+1))]
 .have l:¬i<Z a:=by simpa using l
  have e:i=Z a:=O;subst e;have p:k<4294967296:=O;have v:Z (bM (Z a) (val (h (Z a) a)*2^s)++bg (Z a+1-Z a) (0:G))=Z a+1:=by rw[ix,d,fF];omega
  refine bh<|aI<|I J (hp:=aF)<|I J ?_;refine dW (st':=⟨[(4,.c<|.X 1003000)],[(1003000,.vec 142 al<|bM (Z a+1)<|val a*2^s)],20,[]⟩) (wk ⟨sR J,A⟩ ⟨bE J ?_,A⟩)<|bI<|FP (id:=1003000) cj J J;refine a6 (aE.vec 142 al) ?_;have o:=Xa (bM (Z a)<|val (h (Z a) a)*2^s) 0 k;rw[d]at o;rw[wrap_u32 k m.1 p,b6,(O:Z a+1-Z a=0+1),o,Cm,g8,CW,fR];rw[fR]at n;rw[n,gx m.1 p]
def ain t s(a:0<=t)(k:t<18446744073709551616)(e:s<=31):
  aw .u64 ((iG (cY .u64) t&&& iG (cY .u64) (aw .u64<|aw .u64 (1*2^(min (af ((s:Y):G))<|cY .u64))-1)).toNat:G)=t%2^s:=by
 have l:2^s<=2^31:=fh T e
 have d:0<2^s:=iA T
 have f:(2:G)^s=((2^s:Y):G):=ax
 obtain⟨g,rfl⟩:=Ao a
 rw[yj 1 s T O O,jR,wrap_u64 (2^s-1) O O]
 have i:(2:G)^s-1=((2^s-1:Y):G):=O
 rw[i,KB,KB,BitVec.toNat_and,KC,KC,show cY .u64=64 from J,n5 O,n5 O,Nat.and_two_pow_sub_one_eq_mod]
 have:=fg g d
 rw[wrap_u64 _ O O,f,F9]
def aio a(s:Y)(m:bN a)(n:s<=31)(L:Z a<=1099511627776):r z 226 [N al a,y s] (N al<|b<|af<|val a/2^s):=by
 refine aJ Tryz.func226 ?_;have F:(2:G)^s<=2^31:=by have:=fh (T:2>0) n;have P:(2:G)^s=((2^s:Y):G):=ax;omega
 have f:(0:G)<2^s:=mI T;refine I J<|R ?_;refine rm al (Z a) J J J J J J (lH .u32) J ?_ ?_ ?_
 .show _*4<=_;omega
 .show _*1<=_;omega
 refine re J<|I J<|M<|I J ?_;refine ay<|bf (α:=Y×V G×G) (λx=>⟨[(0,N al a),(1,y s),(5,.c<|.X 1002000),(6,cU x.2.2),(7,y<|(x.1:G)-1)],[(1002000,.vec 142 al x.2.1)],4,[]⟩) (CS a<|2^s) (λx=>x.1) (Z a,bg (Z a) 0,0) ?_ aU ?_
 .exact⟨aW _,ax,pR _,gK _,f,wg⟩
 .rintro⟨k,q,d⟩ e;have o:Z q=Z a:=e.len;have i:0<=d:=e.r0;have p:d<2^s:=e.r1;have Q:k<=Z a:=e.k;refine M<|I J ?_;refine c J (λh=>?_) (λh=>?_)
  .have h:(k:G)-1>=0:=by simpa using h
   obtain⟨j,rfl⟩:∃j,k=j+1:=⟨k-1,O⟩;have u:af (((j+1:Y):G)-1)=j:=O;have g:=db m j;have l:=J5 i p g.1 g.2 O;have B:=e.next m O;refine aD<|M<|ay<|I J (hp:=aF) ?_;have C:aw .u64 ((iG (cY .u64) (aw .u64<|d*2^(min (af ((32:Y):G))<|cY .u64))|||iG (cY .u64) (aw .u64<|E a (af<|((j+1:Y):G)-1) 0)).toNat:G)=d*4294967296+E a j 0:=by rw[u,yj d 32 i O O,wrap_u64 (E a j 0) O O,An (d*2^32) (E a j 0) 32 O (C4 _ _) O O O,show(2:G)^32=4294967296 from J]
   generalize ht:d*4294967296+E a j 0=t at B l C;refine dW (st':=⟨[(0,N al a),(1,y s),(5,.c<|.X 1002000),(7,y<|((j+1:Y):G)-1),(8,cU t)],[(1002000,.vec 142 al q)],6,[]⟩) (wk ⟨sR J,sR J,sR J,sR J,sE J ?_,A⟩ ⟨bR J,A⟩) ?_
   .exact bK C
   refine I J (hp:=aF)<|rt J (hp:=aF)<|bH<|rt J<|aS (j,q.set j<|t/2^s,t%2^s) B rK<|wk ⟨sR J,sR J,sR J,sE J ?_,sE J ?_,A⟩ ⟨bE J ?_,A⟩
   .exact bK<|ain t s l.1 l.2.1 n
   .refine iz ?_;show((j+1:Y):G)-1-1=(j:G)-1;omega
   .refine a6 (aE.vec 142 al) ?_;rw[yk t s O,u,wrap_u32 _ O O]
  .have h:¬((k:G)-1>=0):=by simpa using h
   have:k=0:=O;subst this;refine bh<|aI<|c8 1002000 J J J<|R ?_;refine rc J J (uw _)<|re J<|bO J ?_;have H:val a=val q*2^s+d:=e.v;have K:bN q:=e.r;have eq:val a/2^s=val q:=by rw[H,ux,Ai _ _ O,CT i p];omega
   rw[nM K,eq]
def oX n:aw .u64 n=n%18446744073709551616:=Kw
def wq n:aw .u32 n=n%4294967296:=Kw
def yl{x a:G}(h:(x !=a)=ae):x≠a:=dL
def wu{x a:G}(h:(x !=a)=ah):x=a:=dL
def aip a d(o:bN a)(p:bN d)(x:can a)(B:can d):r z 161 [N al a,N al d] (y<|dz (val a)<|val d):=by
 refine aJ Tryz.func161<|ui 0 J λs=>ui 1 J λt=>?_;simp only[ET.n,qj]at s t;refine I J<|M<|I J ?_;refine c J (λh=>?_)<|λh=>?_
 .have h:Z a≠Z d:=by have h:=yl h;omega
  refine M<|I J ?_;refine c J (λf=>?_)<|λf=>?_
  .have f:Z a<Z d:=by have f:(Z a:G)<(Z d:G):=aT f;omega
   refine I J<|bI ?_;repeat(first|refine cG ?_|refine kE ?_|refine k8 ?_)
   refine eB J ?_;rw[dz,ao<|Iu o p B f];rfl
  .have f:¬Z a<Z d:=by have f:¬(Z a:G)<(Z d:G):=a4 f;omega
   refine aD ?_;refine I J<|bI ?_;repeat(first|refine cG ?_|refine kE ?_|refine k8 ?_)
   refine eB J ?_;have:=Iu p o x O;rw[dz,w O,ao this];rfl
 .have u:Z a=Z d:=by have h:=wu h;omega
  refine aD<|M<|I J ?_;refine ay<|bf (α:=Y) (λk=>⟨[(0,N al a),(1,N al d),(5,y<|(k:G)-1)],[],3,[]⟩) (λk=>k<=Z a/\az k a=az k d) (λk=>k) (Z a) ⟨aW _,by simp[u]⟩ aU ?_;rintro k ⟨F,m⟩;refine M<|I J ?_;refine c J (λv=>?_)<|λv=>?_
  .simp at v;obtain⟨j,rfl⟩:∃j,k=j+1:=⟨k-1,O⟩;have C:(((j+1:Y):G)-1)=j:=O;have i:j<Z a:=O;rw[C];refine aD<|M<|ay<|I J ?_;refine c J (λq=>?_) (λq=>?_)
   .have q:E a j 0≠E d j 0:=yl q;refine M<|I J ?_;refine c J (λl=>?_) (λl=>?_)
    .have l:E a j 0<E d j 0:=aT l;refine I J<|bI ?_;repeat(first|refine cG ?_|refine kE ?_|refine k8 ?_)
     refine eB J ?_;rw[dz,ao<|Iv o p j m u i l];rfl
    .have l:¬E a j 0<E d j 0:=a4 l;refine aD ?_;refine I J<|bI ?_;repeat(first|refine cG ?_|refine kE ?_|refine k8 ?_)
     refine eB J ?_;have:=Iv p o j m.symm u.symm O O;rw[dz,w O,ao this];rfl
   .have e:E a j 0=E d j 0:=wu q;refine c7<|bH<|rt J<|aS j ⟨O,?_⟩ rK aU;have g:j<Z d:=O;rw[qk i,qk g,m];simp only[aM,cK i,cK g,pS]at e;rw[e]
  .simp at v;have:k=0:=O;subst this;refine bh<|aI ?_;refine I J<|bI ?_;repeat(first|refine cG ?_|refine kE ?_|refine k8 ?_)
   refine eB J ?_;simp only[oQ]at m;rw[m,dz,w O,w O];rfl
def KF m k:r z 161 [N al (b m),N al<|b k] (y<|dz m k):=by have:=aip (b m) (b k) (dE m) (dE k) (tQ m)<|tQ k;rw[dU,dU]at this;exact this
def aiq a f(q:bN a)(s:bN f)(U:Z f<=Z a)(F:val f<=val a)(W:Z a<=1099511627776):r z 162 [N al a,N al f] (N al<|b<|af<|val a-val f):=by
 refine aJ Tryz.func162 ?_;refine I J<|R ?_;refine rm al (Z a) J J J J J J (lH .u32) J ?_ ?_ ?_
 .show _*4<=_;omega
 .show _*1<=_;omega
 refine j J<|I J<|jg<|I J ?_;generalize hM:Z a=M;refine ay<|bf (α:=Y×V G×G) (λx=>⟨[(0,N al a),(1,N al f),(5,.c<|.X 1002000),(6,cU x.2.2),(13,y M),(14,y x.1)],[(1002000,.vec 142 al x.2.1)],4,[]⟩) (FY a f M) (λx=>M-x.1) (0,bg M 0,0) ?_ ?_ ?_
 .refine⟨a8 _,ax,pR M,?_,gK _,FX,Ae⟩;intro w _;simp only[aM,ll];split<;>rfl
 .exact aU
 .rintro⟨i,o,g⟩ l;have m:Z o=M:=l.len;have C:0<=g:=l.c0;have H:g<=1:=l.c1;have t:i<=M:=l.i;have D:=db q i;have S:=db s i;refine I J<|jg ?_;refine c J (λk=>?_) (λk=>?_)
  .have k:i<M:=by have k:(i:G)<(M:G):=aT k;omega
   have p:=l.next k q s;simp only at p;refine aD<|jg<|ay<|I J<|I J (hp:=aF) ?_;refine jg<|I J ?_;refine c J (λh2=>?_)<|λh2=>?_
   .have h2:i<Z f:=by have h2:(i:G)<(Z f:G):=aT h2;omega
    refine rt J (hp:=aF)<|aI ?_;have n:aw .u64 (aw .u64 (aw .u64 (E a (af (i:G)) 0)-g)-aw .u64 (E f (af (i:G)) 0))=(E a i 0-E f i 0-g)%18446744073709551616:=by rw[b6,oX,oX,oX,oX];omega
    generalize K:(E a i 0-E f i 0-g)%18446744073709551616=d at n;refine dW (st':=⟨[(0,N al a),(1,N al f),(5,.c<|.X 1002000),(7,y i),(8,cU d),(13,y M),(14,y i)],[(1002000,.vec 142 al o)],20,[]⟩) (wk ⟨sR J,sR J,sR J,sR J,sE J ?_,sR J,sR J,A⟩ ⟨bR J,A⟩) ?_
    .exact bK n
    refine I J (hp:=aF)<|rt J (hp:=aF)<|bH<|rt J<|aS (i+1,o.set i<|(4294967296+E a i 0-E f i 0-g)%4294967296,1-(4294967296+E a i 0-E f i 0-g)/4294967296) p wc<|wk ⟨sR J,sR J,sR J,sE J ?_,sR J,sR J,A⟩ ⟨bE J ?_,A⟩
    .refine bK ?_;show d.fdiv (2^(min (af ((63:Y):G))<|cY .u64))=1-(4294967296+E a i 0-E f i 0-g)/4294967296;rw[yk d 63 O];omega
    .refine a6 (aE.vec 142 al) ?_;show o.set (af (i:G)) (aw .u32 d)=o.set i ((4294967296+E a i 0-E f i 0-g)%4294967296);rw[b6,wq];exact a6 (o.set i) O
   .have h2:¬i<Z f:=by have h2:¬(i:G)<(Z f:G):=a4 h2;omega
    have L:E f i 0=0:=P4;refine aD ?_;have n:aw .u64 (aw .u64 (E a (af (i:G)) 0)-g)=(E a i 0-E f i 0-g)%18446744073709551616:=by rw[b6,oX,oX];omega
    generalize K:(E a i 0-E f i 0-g)%18446744073709551616=d at n;refine dW (st':=⟨[(0,N al a),(1,N al f),(5,.c<|.X 1002000),(7,y i),(8,cU d),(13,y M),(14,y i)],[(1002000,.vec 142 al o)],20,[]⟩) (wk ⟨sR J,sR J,sR J,sR J,sE J ?_,sR J,sR J,A⟩ ⟨bR J,A⟩) ?_
    .exact bK n
    refine I J (hp:=aF)<|rt J (hp:=aF)<|bH<|rt J<|aS (i+1,o.set i<|(4294967296+E a i 0-E f i 0-g)%4294967296,1-(4294967296+E a i 0-E f i 0-g)/4294967296) p wc<|wk ⟨sR J,sR J,sR J,sE J ?_,sR J,sR J,A⟩ ⟨bE J ?_,A⟩
    .refine bK ?_;show d.fdiv (2^(min (af ((63:Y):G))<|cY .u64))=1-(4294967296+E a i 0-E f i 0-g)/4294967296;rw[yk d 63 O];omega
    .refine a6 (aE.vec 142 al) ?_;show o.set (af (i:G)) (aw .u32 d)=o.set i ((4294967296+E a i 0-E f i 0-g)%4294967296);rw[b6,wq];exact a6 (o.set i) O
  .have k:¬i<M:=by have k:¬(i:G)<(M:G):=a4 k;omega
   have t:i=M:=O;subst t;refine bh<|aI<|c8 1002000 J J J<|R ?_;refine rc J J (uw _)<|j J<|bO J ?_;have u:bN o:=l.r;have B:val o-g*4294967296^i=val (h i a)-val (h i f):=l.v;rw[lz a i O,lz f i O]at B;have P:g=0:=by
    have Q:=lZ u;rw[m]at Q;rcases(O:g=0\/g=1)with e|e
    .exact e
    .subst e;omega
   subst P;rw[nM u,<-B];simp
def P7 m k(a:k<=m)(d:Z (b m)<=1099511627776):r z 162 [N al (b m),N al<|b k] (N al<|b<|m-k):=by have:=aiq (b m) (b k) (dE m) (dE k) (rL a) (by rw[dU,dU];omega) d;rw[dU,dU,(O:af ((m:G)-(k:G))=m-k)]at this;exact this
def air f g m k(l:Z (b m)<=1099511627776)(n:Z (b k)<=1099511627776):r z 130 [.a [.B f,.S al<|b m],.a [.B g,.S al<|b k]] (aZ<|sg f m+sg g k):=by
 refine aJ Tryz.func130 ?_;refine I J<|M<|I J ?_;refine c J (λh=>?_)<|λh=>?_
 .have h:f=g:=eq_of_beq h;subst h;refine R<|rc J J (W6 _ _ l n)<|rc J J (n9 _ _)<|j J<|bI<|cG<|eB J ?_;have i:sg f (m+k)=sg f m+sg f k:=by unfold sg;split<;>omega
  exact a6 aZ i
 .have h:f≠g:=λe=>by subst e;simp at h
  refine aD<|M<|bw J J (KF _ _) J ?_;refine c J (λd=>?_)<|λd=>?_
  .have d:k<=m:=by have d:dz (m:G) (k:G)>=0:=aT d;unfold dz at d;split at d<;>omega
   refine R<|rc J J (P7 _ _ d l)<|rc J J (n9 _ _)<|j J<|bI<|cG<|eB J ?_;have i:sg f (m-k)=sg f m+sg g k:=by unfold sg;cases f<;>cases g<;>simp at h⊢<;>omega
   exact a6 aZ i
  .have d:m<=k:=by
    have d:¬dz (m:G) (k:G)>=0:=a4 d;unfold dz at d;split at d
    .omega
    .split at d<;>omega
   refine aD<|R<|rc J J (P7 _ _ d n)<|rc J J (n9 _ _)<|j J<|bO J ?_;have i:sg g (k-m)=sg f m+sg g k:=by unfold sg;cases f<;>cases g<;>simp at h⊢<;>omega
   exact a6 aZ i
def ais a d(e:Sm a)(f:Sm d):r z 130 [aZ a,aZ d] (aZ<|a+d):=by have h:=air (bY a) (bY d) (aA a) (aA d) e f;rw[yb,yb]at h;exact h
def m5{x a:G}(h:(x==a)=ah):x≠a:=dL
def ait U v a n(hU:bN U)(hv:bN v)(hn:Z v=n+2)(hj:a+n+3<=Z U)(hl:Z U<=1099511627777)(aiu:2147483648<=E v (n+1) 0)(gN:val ((az a U).take<|n+3)<val v*4294967296):
  sV z 225 [.c (.W 0 a<|n+3),N al v] 142 al U (cW<|val ((az a U).take<|n+3)/val v) (cT U a<|bM (n+3)<|val ((az a U).take<|n+3)%val v):=by
 refine FT Tryz.func225 J J J J J T ?_
 have K:=WT hU hv hn hj aiu gN
 have g1:=db hU<|a+(n+2)
 have g2:=db hU<|a+(n+1)
 have g3:=db hU<|a+n
 have k1:=db hv<|n+1
 have k2:=db hv n
 have oG:=K.oG
 have hvp:=K.BG
 have a1:af ((Z v:G))=n+2:=O
 have a2:af ((Z v:G)-1)=n+1:=O
 have a3:af ((Z v:G)-2)=n:=O
 generalize hQ:qo 2 ((E U (a+(n+2)) 0*4294967296+E U (a+(n+1)) 0)/E v (n+1) 0) ((E U (a+(n+2)) 0*4294967296+E U (a+(n+1)) 0)%E v (n+1) 0) (E v (n+1) 0) (E v n 0) (E U (a+n) 0)=g
 refine I J<|I J<|I J (hp:=aF) ?_
 rw[a1,a2]
 have e6:aw .u64 ((iG (cY .u64) (aw .u64<|aw .u64 (E U (a+(n+2)) 0)*2^(min (af ((32:Y):G))<|cY .u64))|||iG (cY .u64) (aw .u64<|E U (a+(n+1)) 0)).toNat:G)=E U (a+(n+2)) 0*4294967296+E U (a+(n+1)) 0:=by rw[wrap_u64 (E U (a+(n+2)) 0) O O,wrap_u64 (E U (a+(n+1)) 0) O O,yj _ 32 O O O,An _ _ 32 O (C4 _ _) O O O,show(2:G)^32=4294967296 from J]
 have ev1:aw .u64 (E v (n+1) 0)=E v (n+1) 0:=wrap_u64 _ O O
 have ev2:aw .u64 (E v n 0)=E v n 0:=wrap_u64 _ O O
 have eu2:aw .u64 (E U (a+n) 0)=E U (a+n) 0:=wrap_u64 _ O O
 have L:0<=E U (a+(n+2)) 0*4294967296+E U (a+(n+1)) 0:=O
 have ht1:E U (a+(n+2)) 0*4294967296+E U (a+(n+1)) 0<18446744073709551616:=O
 have Gb:=@Kn1.small _ _ _ _ _ _ _ _ _ K
 have di:=@J6 _ _ _ _ _ _ _ _ _ K
 have Xc:=K.first
 have F5:=K.q0
 refine dW (st':=⟨[(0,.c<|.W 0 a<|n+3),(1,N al v),(5,y<|Z v),(6,cU<|E U (a+(n+2)) 0*4294967296+E U (a+(n+1)) 0)],[(0,.vec 142 al U)],4,[]⟩) (wk ⟨sR J,sR J,sR J,sE J ?_,A⟩ ⟨bR J,A⟩) ?_
 .exact bK e6
 generalize E U (a+(n+2)) 0*4294967296+E U (a+(n+1)) 0=t at*
 generalize PV:E v (n+1) 0=v1 at*
 generalize aiz:E v n 0=v2 at*
 generalize aiA:E U (a+n) 0=u2 at*
 generalize Xd:val ((az a U).take<|n+3)=u at*
 have x1:aw .u64 (E v (af<|(Z v:G)-1) 0)=v1:=by rw[a2,PV];exact ev1
 have x2:aw .u64 (E v (af<|(Z v:G)-2) 0)=v2:=by rw[a3,aiz];exact ev2
 have x3:aw .u64 (E U (a+af ((Z v:G)-2)) 0)=u2:=by rw[a3,aiA];exact eu2
 have P8:0<=t/v1:=xy L O
 have Kk:0<=t%v1:=ij _ O
 have uy:t%v1<v1:=ik _ O
 have bW:=mZ t v1
 have D:((-9223372036854775808<=(Z v:G)-1/\(Z v:G)-1<=9223372036854775807)/\0<=(Z v:G)-1/\(Z v:G)-1<(Z v:G))/\aw .u64 (E v (af<|(Z v:G)-1) 0)≠0:=by rw[x1];omega
 have Xe:=di 2 (t/v1) (t%v1) (by rw[et];omega) Kk O PC Xc
 rw[hQ]at Xe
 let ⟨q1,q2,q3⟩:=Xe
 refine I J (hp:=by simp only[Pr.an,Pr.h,num,gf,true_and,and_true];exact⟨⟨⟨D,D.1.1⟩,D.1.2⟩,D.2⟩) ?_
 refine m0 ⟨[(0,.c<|.W 0 a<|n+3),(1,N al v),(5,y<|Z v),(7,cU g)],[(0,.vec 142 al U)],30,[]⟩ ?_<|λV=>ay<|bf (α:=Y×G×G) (λx=>⟨[(0,.c<|.W 0 a<|n+3),(1,N al v),(5,y<|Z v),(6,cU t),(7,cU x.2.1),(8,cU x.2.2)],[(0,.vec 142 al U)],6,[]⟩) (λx=>qo x.1 x.2.1 x.2.2 v1 v2 u2=g/\t=x.2.1*v1+x.2.2/\0<=x.2.2/\x.2.2<4294967296/\4294967296<=x.2.2+x.1*2147483648/\u/val v<=x.2.1) (λx=>x.1) (2,t/v1,t%v1) ⟨hQ,by show t=t/v1*v1+t%v1;rw[et];omega,Kk,(O:t%v1<4294967296),PC,Xc⟩ (wk ⟨sR J,sR J,sR J,sR J,sE J ?_,sE J ?_,A⟩ ⟨bR J,A⟩) ?_
 .clear di Gb hQ;refine I J<|M<|I J ?_;refine ay (bf (α:=Y×G×G) (λx=>⟨[(0,.c<|.W 0 a<|n+3),(1,N al v),(5,y<|Z v),(7,cU g),(9,cU x.2.1),(10,cU x.2.2),(82,y<|Z v),(83,y x.1)],[(0,.vec 142 al<|cT U a<|bM x.1<|val ((az a U).take x.1)-g*val (List.take x.1 v))],32,[]⟩) (λx=>x.1<=n+2/\(val ((az a U).take x.1)-g*val (List.take x.1 v))/4294967296^x.1= -(x.2.1+x.2.2)/\x.2.1=g*val (List.take x.1 v)/4294967296^x.1/\(x.2.2=0\/x.2.2=1)) (λx=>n+2-x.1) (0,0,0) ⟨a8 _,wg,wg,.inl J⟩ (wk (bJ J) ⟨bE J ?_,A⟩) ?_)
  .exact a6 (aE.vec 142 al) (Kd U a).symm
  rintro⟨i,B,b⟩ ⟨H,h2,h3,h4⟩;simp only at H h2 h3 h4;have k:=WR hv (O:0<=g) q3 i;rw[<-h3]at k;have gu:=db hU<|a+i;have P:=WO U v a i g (c:=B) (b:=b) J h2;have Q:Z (bM i<|val ((az a U).take i)-g*val (List.take i v))=i:=rM _ _;have wm:=wi (U:=U) (j:=a) (ws:=bM i<|val ((az a U).take i)-g*val (List.take i v)) O;have C:=Ke (U:=U) (j:=a) (ws:=bM i<|val ((az a U).take i)-g*val (List.take i v)) O;have F:=λGc=>Kf (U:=U) (j:=a) (ws:=bM i<|val ((az a U).take i)-g*val (List.take i v)) Gc O
  rw[Q]at C F;simp only at P;let ⟨s1,s2⟩:=P;refine I J<|M ?_;refine c J (λh=>?_)<|λh=>?_
  .have h:i<n+2:=by have h:(i:G)<(Z v:G):=aT h;omega
   have gv:=db hv i;have hm:0<=g*E v i 0/\g*E v i 0<=18446744065119617025:=FZ O O gv.1 O;have Cx:=WS (v:=v) (q:=g) i h3;refine aD<|M<|ay<|I J<|I J (hp:=aF) ?_;have ei:af (i:G)=i:=b6 i;have S:aw .u64 (aw .u64 (g*aw .u64 (E v (af (i:G)) 0))+B)=g*E v i 0+B:=by rw[ei,wrap_u64 (E v i 0) O O,wrap_u64 (g*E v i 0) O O,wrap_u64 _ O O]
   generalize hp:g*E v i 0+B=p at*;refine dW (st':=⟨[(0,.c<|.W 0 a<|n+3),(1,N al v),(5,y<|Z v),(7,cU g),(10,cU b),(11,y i),(12,cU p),(82,y<|Z v),(83,y i)],[(0,.vec 142 al<|cT U a<|bM i<|val ((az a U).take i)-g*val (List.take i v))],40,[]⟩) (wk ⟨sR J,sR J,sR J,sR J,sR J,sR J,sE J ?_,sR J,sR J,A⟩ ⟨bR J,A⟩) ?_
   .exact bK S
   generalize hX:cT U a (bM i<|val ((az a U).take i)-g*val (List.take i v))=X at*;refine I J<|I J (hp:=aF) ?_;have w2:p.fdiv (2^(min (af ((32:Y):G))<|cY .u64))=p/4294967296:=yk p 32 O;have w3:aw .u64 (aw .u64 (aw .u64 (X.getD (a+af (i:G)) 0)-aw .u64 (aw .u32 p))-b)=(E U (a+i) 0-p%4294967296-b)%18446744073709551616:=by rw[ei,C,oX,oX,oX,oX,wq];omega
   generalize hd:(E U (a+i) 0-p%4294967296-b)%18446744073709551616=d at*;refine dW (st':=⟨[(0,.c<|.W 0 a<|n+3),(1,N al v),(5,y<|Z v),(7,cU g),(9,cU<|p/4294967296),(11,y i),(13,cU d),(82,y<|Z v),(83,y i)],[(0,.vec 142 al X)],44,[]⟩) (wk ⟨sR J,sR J,sR J,sR J,sE J ?_,sR J,sE J ?_,sR J,sR J,A⟩ ⟨bR J,A⟩) ?_
   .exact bK w2
   .exact bK w3
   refine I J (hp:=aF)<|rt J (hp:=aF)<|bH<|rt J<|aS (i+1,p/4294967296,1-(4294967296+E U (a+i) 0-p%4294967296-b)/4294967296) ⟨(O:i+1<=n+2),s2,Cx.symm,(O:1-(4294967296+E U (a+i) 0-p%4294967296-b)/4294967296=0\/1-(4294967296+E U (a+i) 0-p%4294967296-b)/4294967296=1)⟩ (O:n+2-(i+1)<n+2-i)<|wk ⟨sR J,sR J,sR J,sR J,sR J,sE J ?_,sR J,sR J,A⟩ ⟨bE J ?_,A⟩
   .refine bK ?_;show d.fdiv (2^(min (af ((63:Y):G))<|cY .u64))=1-(4294967296+E U (a+i) 0-p%4294967296-b)/4294967296;rw[yk d 63 O];omega
   .refine a6 (aE.vec 142 al) ?_;show X.set (a+af (i:G)) (aw .u32 d)=cT U a (bM (i+1) _);rw[s1,ei,wq,(O:d%4294967296=(4294967296+E U (a+i) 0-p%4294967296-b)%4294967296),F]
  .have e:i=n+2:=by have h:¬(i:G)<(Z v:G):=a4 h;omega
   subst e;have yf:E v (n+2) 0=0:=by simp[aM,jP (O:Z v<=n+2)]
   rw[yf,gy,Ap,gx k.1 k.2,CT k.1 k.2,Ap,lz v (n+2+1) O,Xd]at s2;rw[yf,gy,Ap,gx k.1 k.2,lz v (n+2+1) O,Xd]at s1;generalize hX:cT U a (bM (n+2)<|val ((az a U).take<|n+2)-g*val (List.take (n+2) v))=X at*;refine bh<|aI<|I J (hp:=aF) ?_;have w3:aw .u64 (aw .u64 (aw .u64 (X.getD (a+(Z v:G).toNat) 0)-B)-b)=(E U (a+(n+2)) 0-B-b)%18446744073709551616:=by rw[a1,C,oX,oX,oX];omega
   generalize hd:(E U (a+(n+2)) 0-B-b)%18446744073709551616=d at*;refine dW (st':=⟨[(0,.c<|.W 0 a<|n+3),(1,N al v),(5,y<|Z v),(7,cU g),(14,cU d)],[(0,.vec 142 al X)],44,[]⟩) (wk ⟨sR J,sR J,sR J,sR J,sE J ?_,A⟩ ⟨bR J,A⟩) ?_
   .exact bK w3
   refine I J (hp:=aF)<|M<|I J (hp:=aF) ?_;have P9:X.set (a+(Z v:G).toNat) (aw .u32 d)=cT U a (bM (n+3)<|u-g*val v):=by rw[a1,show n+3=n+2+1 from J,s1,wq,(O:d%4294967296=(4294967296+E U (a+(n+2)) 0-B-b)%4294967296),F]
   have wo:d.fdiv (2^(min (af ((63:Y):G))<|cY .u64))=1-(4294967296+E U (a+(n+2)) 0-B-b)/4294967296:=by rw[yk d 63 O];omega
   generalize FO:1-(4294967296+E U (a+(n+2)) 0-B-b)/4294967296=b' at*;have asc:b'=0\/b'=1:=O;have yh:=mZ u<|val v;have FR:=ij u (O:val v≠0);have yi:=ik u hvp;have hpn:=jd<|n+2+1;have h5:=mZ (u-g*val v)<|4294967296^(n+2+1);have h6:=ij (u-g*val v) (O:(4294967296:G)^(n+2+1)≠0);have l:=ik (u-g*val v) hpn;rw[s2]at h5;refine c J (λo=>?_)<|λo=>?_
   .have o:b'=0:=by have o:d.fdiv (2^(min (af ((63:Y):G))<|cY .u64))=0:=eq_of_beq o;rw[<-wo];exact o
    have hq:g=u/val v:=by
     rw[o]at h5;simp only[Int.neg_zero,gy,qm]at h5;by_cases e:g=u/val v
     .exact e
     .exfalso;have e2:g=u/val v+1:=O;have PX:g*val v=val v*(u/val v)+val v:=by rw[e2,mJ,jR,et]
      omega
    have e1:u-g*val v=u%val v:=by have:=et (u/val v)<|val v;rw[hq];omega
    refine I J<|bI ?_;repeat(first|refine cG ?_|refine kE ?_|refine k8 ?_)
    refine E8 (st':=⟨[(4,cW<|u/val v)],[(0,.vec 142 al<|cT U a<|bM (n+3)<|u%val v)],60,[]⟩) (wk ⟨sE J ?_,A⟩ ⟨bE J ?_,A⟩)<|x6 cj J (bm.refl _) J
    .refine Ci ?_;rw[wrap_u32 _ O O];exact hq
    .rw[P9,e1]
   .have o:b'=1:=by have o:¬d.fdiv (2^(min (af ((63:Y):G))<|cY .u64))=0:=m5 o;rw[wo]at o;omega
    have hq:g=u/val v+1:=by
     rw[o]at h5;rw[Int.mul_neg,mm]at h5;by_cases e:g=u/val v
     .exfalso;have:g*val v=val v*(u/val v):=by rw[e,et]
      omega
     .omega
    have PX:g*val v=val v*(u/val v)+val v:=by rw[hq,mJ,jR,et]
    refine aD ?_;refine dW (st':=⟨[(0,.c<|.W 0 a<|n+3),(1,N al v),(5,y<|Z v),(7,cU g)],[(0,.vec 142 al<|cT U a<|bM (n+3)<|u-g*val v)],50,[]⟩) (wk (bJ J) ⟨bE J ?_,A⟩) ?_
    .rw[P9]
    have C0:∀x,Z (bM (n+3) x)=n+3:=λx=>rM _ _
    have hU1:bN (cT U a<|bM (n+3)<|u-g*val v):=PG hU<|F6 _ _;have asd:Z (cT U a<|bM (n+3)<|u-g*val v)=Z U:=wi s0;have aiD:cT (cT U a<|bM (n+3)<|u-g*val v) a (bM (n+3)<|val (List.take (n+3)<|az a<|cT U a<|bM (n+3)<|u-g*val v)+val v)=cT U a (bM (n+3)<|u%val v):=by rw[WV s0 (by rw[C0,C0]),PH s0,vG s0,iO s0,F7];refine a6 (cT U a)<|Kc _ _ _ ?_;rw[Int.emod_add_emod];congr 1;omega
    generalize cT U a (bM (n+3)<|u-g*val v)=m at*;clear P9 wo FO s1 s2 F C hX;refine I J<|M<|I J ?_;refine ay<|bf (α:=Y×G) (λx=>⟨[(0,.c<|.W 0 a<|n+3),(1,N al v),(5,y<|Z v),(7,cU g),(9,cU x.2),(135,y<|Z v),(136,y x.1)],[(0,.vec 142 al<|cT m a<|bM x.1<|val ((az a m).take x.1)+val (List.take x.1 v))],60,[]⟩) (λx=>x.1<=n+2/\(val ((az a m).take x.1)+val (List.take x.1 v))/4294967296^x.1=x.2/\(x.2=0\/x.2=1)) (λx=>n+2-x.1) (0,0) ⟨a8 _,wg,.inl J⟩ (wk (bJ J) ⟨bE J ?_,A⟩) ?_
    .exact a6 (aE.vec 142 al) (Kd m a).symm
    rintro⟨i,B⟩ ⟨H,h2,h4⟩;simp only at H h2 h4;have gu:=db hU1<|a+i;have P:=WQ m v a i (c:=B) J h2;simp only at P;let ⟨s1,s2⟩:=P;have Q:Z (bM i<|val ((az a m).take i)+val (List.take i v))=i:=rM _ _;have wm:=wi (U:=m) (j:=a) (ws:=bM i<|val ((az a m).take i)+val (List.take i v)) O;have C:=Ke (U:=m) (j:=a) (ws:=bM i<|val ((az a m).take i)+val (List.take i v)) O;have F:=λGc=>Kf (U:=m) (j:=a) (ws:=bM i<|val ((az a m).take i)+val (List.take i v)) Gc O
    rw[Q]at C F;refine I J<|M ?_;refine c J (λh=>?_)<|λh=>?_
    .have h:i<n+2:=by have h:(i:G)<(Z v:G):=aT h;omega
     have gv:=db hv i;generalize hX:cT m a (bM i<|val ((az a m).take i)+val (List.take i v))=X at*;have ei:af (i:G)=i:=b6 i;refine aD<|M<|ay<|I J<|I J (hp:=aF) ?_;have S:aw .u64 (aw .u64 (aw .u64 (X.getD (a+af (i:G)) 0)+aw .u64 (E v (af (i:G)) 0))+B)=E m (a+i) 0+E v i 0+B:=by rw[ei,C,wrap_u64 (E m (a+i) 0) O O,wrap_u64 (E v i 0) O O,wrap_u64 (_+E v i 0) O O,wrap_u64 _ O O]
     generalize ht:E m (a+i) 0+E v i 0+B=s at*;have L:0<=s/\s<8589934592:=O;refine dW (st':=⟨[(0,.c<|.W 0 a<|n+3),(1,N al v),(5,y<|Z v),(7,cU g),(15,y i),(16,cU s),(135,y<|Z v),(136,y i)],[(0,.vec 142 al X)],70,[]⟩) (wk ⟨sR J,sR J,sR J,sR J,sR J,sE J ?_,sR J,sR J,A⟩ ⟨bR J,A⟩) ?_
     .exact bK S
     refine I J (hp:=aF)<|rt J (hp:=aF)<|bH<|rt J<|aS (i+1,s/4294967296) ⟨(O:i+1<=n+2),s2,(O:s/4294967296=0\/s/4294967296=1)⟩ (O:n+2-(i+1)<n+2-i)<|wk ⟨sR J,sR J,sR J,sR J,sE J ?_,sR J,sR J,A⟩ ⟨bE J ?_,A⟩
     .exact bK<|yk s 32 O
     .refine a6 (aE.vec 142 al) ?_;show X.set (a+af (i:G)) (aw .u32 s)=cT m a (bM (i+1) _);rw[s1,ei,wq,F]
    .have e:i=n+2:=by have h:¬(i:G)<(Z v:G):=a4 h;omega
     subst e;rw[yf,qm,lz v (n+2+1) O]at s1;generalize hX:cT m a (bM (n+2)<|val ((az a m).take<|n+2)+val (List.take (n+2) v))=X at*;refine bh<|aI<|I J (hp:=aF)<|I J<|bI ?_;refine E8 (st':=⟨[(4,cW<|u/val v)],[(0,.vec 142 al<|cT U a<|bM (n+3)<|u%val v)],90,[]⟩) (wk ⟨sE J ?_,A⟩ ⟨bE J ?_,A⟩)<|x6 cj J (bm.refl _) J
     .refine Ci ?_;rw[oX,wq];omega
     .refine a6 (aE.vec 142 al) ?_;rw[<-aiD,show n+3=n+2+1 from J,s1,a1,C,wq,wq,(O:(E m (a+(n+2)) 0+B%4294967296)%4294967296=(E m (a+(n+2)) 0+B)%4294967296),F]
 .refine bK ?_;show aw .u64 (t.tdiv<|aw .u64<|E v (af<|(Z v:G)-1) 0)=t/v1;have:=Int.ediv_le_self v1 L;rw[x1,CV L,wrap_u64 _ P8 O]
 .refine bK ?_;show(t.tmod<|aw .u64<|E v (af<|(Z v:G)-1) 0)=t%v1;rw[x1,F4 L]
 .rintro⟨f,q,r⟩ ⟨H,h2,h3,h4,h5,h6⟩;simp only at H h2 h3 h4 h5 h6;have hqs:=Gb h2 h3;cases f with
  |zero=>omega
  |succ f=>
  rw[qo]at H;have yi:0<=q*v2/\q*v2<18446744073709551616:=by refine⟨iP O O,?_⟩;have:q*v2<=4294967297*4294967295:=vA O O O T;omega
  refine M<|R<|rg 50 J J (λh=>?_)<|λh=>?_
  .have Xf:q>=4294967296:=by simpa using h
   have k:q>=4294967296\/q*v2>r*4294967296+u2:= .inl Xf;refine j J (c J (λ_=>?_)<|λl=>by cases l);have gN:u/val v<q:=by
    rcases k with k|k
    .have:=K.BH;omega
    .exact K.down h2 O k
   have S:aw .u64 (q-1)=q-1:=wrap_u64 _ O O;have w2:aw .u64 (r+aw .u64 (E v (af<|(Z v:G)-1) 0))=r+v1:=by rw[x1,wrap_u64 _ O O]
   refine aD<|ay<|I J<|I J (hp:=aF)<|I J<|c J (λl=>?_)<|λl=>?_
   .have l:r+v1>=4294967296:=by have l:aw .u64 (r+aw .u64 (E v (af<|(Z v:G)-1) 0))>=4294967296:=aT l;omega
    rw[ao k,ao l]at H;refine mU<|Ja<|nv<|mV<|eZ V<|wk ⟨sR J,sR J,sR J,sE J ?_,A⟩ ⟨bR J,A⟩;refine bK ?_;rw[<-H];exact S
   .have l:¬r+v1>=4294967296:=by have l:¬aw .u64 (r+aw .u64 (E v (af<|(Z v:G)-1) 0))>=4294967296:=a4 l;omega
    rw[ao k,w l]at H;refine c7<|eL<|aS (f,q-1,r+v1) ⟨H,J7,J8,J9,J',Ka⟩ (dJ f)<|wk ⟨sR J,sR J,sR J,sR J,sE J ?_,sE J ?_,A⟩ ⟨bR J,A⟩
    .exact bK S
    .exact bK w2
  .have Xf:¬q>=4294967296:=by have:q<4294967296:=dL;omega
   have w3:aw .u64 (q*aw .u64 (E v (af<|(Z v:G)-2) 0))=q*v2:=by rw[x2,wrap_u64 _ yi.1 yi.2]
   have w4:aw .u64 ((iG (cY .u64) (aw .u64<|r*2^(min (af ((32:Y):G))<|cY .u64))|||iG (cY .u64) (aw .u64<|E U (a+af ((Z v:G)-2)) 0)).toNat:G)=r*4294967296+u2:=by rw[x3,yj r 32 h3 O O,An _ _ 32 O (C4 _ _) O O O,show(2:G)^32=4294967296 from J]
   refine j J (hp:=aF)<|c J (λo=>?_)<|λo=>?_
   .have k:q>=4294967296\/q*v2>r*4294967296+u2:= .inr (by have o:aw .u64 (q*aw .u64 (E v (af<|(Z v:G)-2) 0))>aw .u64 ((iG (cY .u64) (aw .u64<|r*2^(min (af ((32:Y):G))<|cY .u64))|||iG (cY .u64) (aw .u64<|E U (a+af ((Z v:G)-2)) 0)).toNat:G):=aT o;rw[w3,w4]at o;exact o);have gN:u/val v<q:=by
     rcases k with k|k
     .have:=K.BH;omega
     .exact K.down h2 O k
    have S:aw .u64 (q-1)=q-1:=wrap_u64 _ O O;have w2:aw .u64 (r+aw .u64 (E v (af<|(Z v:G)-1) 0))=r+v1:=by rw[x1,wrap_u64 _ O O]
    refine aD<|ay<|I J<|I J (hp:=aF)<|I J<|c J (λl=>?_)<|λl=>?_
    .have l:r+v1>=4294967296:=by have l:aw .u64 (r+aw .u64 (E v (af<|(Z v:G)-1) 0))>=4294967296:=aT l;omega
     rw[ao k,ao l]at H;refine mU<|Ja<|nv<|mV<|eZ V<|wk ⟨sR J,sR J,sR J,sE J ?_,A⟩ ⟨bR J,A⟩;refine bK ?_;rw[<-H];exact S
    .have l:¬r+v1>=4294967296:=by have l:¬aw .u64 (r+aw .u64 (E v (af<|(Z v:G)-1) 0))>=4294967296:=a4 l;omega
     rw[ao k,w l]at H;refine c7<|eL<|aS (f,q-1,r+v1) ⟨H,J7,J8,J9,J',Ka⟩ (dJ f)<|wk ⟨sR J,sR J,sR J,sR J,sE J ?_,sE J ?_,A⟩ ⟨bR J,A⟩
     .exact bK S
     .exact bK w2
   .have k:¬(q>=4294967296\/q*v2>r*4294967296+u2):=by have o:¬aw .u64 (q*aw .u64 (E v (af<|(Z v:G)-2) 0))>aw .u64 ((iG (cY .u64) (aw .u64<|r*2^(min (af ((32:Y):G))<|cY .u64))|||iG (cY .u64) (aw .u64<|E U (a+af ((Z v:G)-2)) 0)).toNat:G):=a4 o;rw[w3,w4]at o;omega
    rw[w k]at H;subst H;exact bh<|eZ V aU
def wy m:r z 188 [N al (b m)] (N al<|b m):=by have h:=uw<|b m;rwa[NO]at h
def aiE{k n}(B:Z (b k)=n+2){x s:Y}(ex:(x:G)=E (b k) (n+1) 0)(F:2147483648<=x*2^s)(f:x*2^s<4294967296)(H:s<=31):
  ((k*2^s:Y):G)<4294967296^(n+2)/\Z (b<|k*2^s)=n+2/\2147483648<=E (b<|k*2^s) (n+1) 0:=by
 have l:0<2^s:=iA T
 have o:(x+1)*2^s<=4294967296:=by
  have e:4294967296=2^(32-s)*2^s:=by rw[<-lI,(O:32-s+s=32)]
  have:x<2^(32-s):=by rw[e]at f;exact Nat.lt_of_mul_lt_mul_right f
  rw[e];exact ef _ this
 generalize p:2^s=D at*
 have g:=jE (b k)<|n+1
 rw[lz _ _ (O:Z (b k)<=n+1+1),dU,<-ex]at g
 have q:=lZ<|iE (dE k)<|n+1
 rw[(bV:Z (h (n+1)<|b k)=n+1)]at q
 have C:=kY<|iE (dE k)<|n+1
 have K:=jd<|n+1
 generalize val (h (n+1)<|b k)=t at*
 have a:((x:G)+1)*(D:G)<=4294967296:=by have:(((x+1)*D:Y):G)<=((4294967296:Y):G):=O;rw[eY,wh]at this;exact this
 have i:((k*D:Y):G)<4294967296^(n+2):=by
  rw[eY,n6,g];have L:(t+(x:G)*4294967296^(n+1))*D<(((x:G)+1)*4294967296^(n+1))*D:=F8 (by rw[mJ,jR];omega) O;have P:((x:G)+1)*4294967296^(n+1)*D=4294967296^(n+1)*(((x:G)+1)*D):=by generalize (4294967296:G)^(n+1)=y;grind
  have Q:4294967296^(n+1)*(((x:G)+1)*D)<=4294967296^(n+1)*4294967296:=jQ a O;omega
 have u:Z (b<|k*D)=n+2:=by have U:Z (b<|k*D)<=n+2:=zm i;have W:=rL (m:=k) (k:=k*D)<|ye _ l;omega
 refine⟨i,u,?_⟩
 have d:=jE (b<|k*D)<|n+1
 rw[lz _ _ (O:Z (b<|k*D)<=n+1+1),dU]at d
 have v:=lZ<|iE (dE<|k*D)<|n+1
 rw[(bV:Z (h (n+1)<|b<|k*D)=n+1)]at v
 generalize E (b<|k*D) (n+1) 0=c1 at*
 generalize val (h (n+1)<|b<|k*D)=X at*
 by_cases e:2147483648<=c1
 .exact e
 .exfalso;have c:(c1+1)*4294967296^(n+1)<=(x:G)*D*4294967296^(n+1):=gL O O;have j:(x:G)*4294967296^(n+1)*D<=(k:G)*D:=gL O O;have r:(x:G)*4294967296^(n+1)*D=(x:G)*D*4294967296^(n+1):=by generalize (4294967296:G)^(n+1)=y;grind
  have w:(c1+1)*4294967296^(n+1)=c1*4294967296^(n+1)+4294967296^(n+1):=Ey;rw[eY]at d;omega
def aiF m k n(f:Z (b k)=n+2)(nP:k<=m)(lm:Z (b m)<=1099511627776):r z 190 [N al (b m),N al<|b k] (.t [(ah,[.S al (b<|m/k)]),(ah,[.S al (b<|m%k)])]):=by
 refine aJ Xg ?_;have rH:=db (dE k)<|n+1;have Aq:E (b k) (n+1) 0≠0:=by
  rcases tQ k with e|e
  .rw[e]at f;simp at f
  .rw[f]at e;exact e
 obtain⟨x,ex⟩:∃x:Y,(x:G)=E (b k) (n+1) 0:=⟨af<|E (b k) (n+1) 0,uq rH.1⟩;let ⟨s,hlz,L,x1,x2⟩:=aij x O O;let ⟨f5,f6,f7⟩:=aiE f ex x1 x2 L;have hD:0<2^s:=iA T;have hD2:2^s<=2^31:=fh T L;have B:(2:G)^s=((2^s:Y):G):=ax;have rA:0<k:=by
  rcases oW k with e|e
  .subst e;rw[BF]at f;simp at f
  .exact e
 have PO:n+2<=Z (b m):=by rw[<-f];exact rL nP
 obtain⟨a,hM⟩:∃a,Z (b m)=a+(n+2):=⟨Z (b m)-(n+2),O⟩;have PR:((m*2^s:Y):G)<4294967296^(a+(n+2)+1):=by have H:=sj (n:=m);rw[hM]at H;rw[n6,eY];have:=jd<|a+(n+2);have h2:(m:G)*((2^s:Y):G)<=(m:G)*4294967296:=jQ O O;omega
 have P:¬dz (m:G) (k:G)<0:=by unfold dz;rw[w O];split<;>decide
 have W:=Xb (b m) s (dE m) L lm;have D:=(Xb (b k) s (dE k) L O).fs;have oa:=sj (n:=k);rw[f]at oa;rw[dU,f,B,<-eY]at D;rw[dU,B,<-eY,hM]at W;have hVt:h (n+2) (bM (n+2+1) ((k*2^s:Y):G))=b (k*2^s):=by have:=WM<|dE<|k*2^s;rw[f6,dU]at this;rw[CW,List.take_left'<|rM _ _,this]
 refine I J<|R<|rc J J (wy m)<|rc J J (wy k)<|j J ?_;refine M<|bw J J (KF m k) J<|c J (λl=>absurd (aT l) P)<|λ_=>aD ?_;refine M<|I J<|c J (λl=>?_)<|λ_=>aD ?_
 .exfalso;have l:(Z (b k):G)=1:=eq_of_beq l;omega
 have a2:af ((Z (b k):G)-1)=n+1:=O;have aiI:r z 223 [cW (E (b k) (af<|(Z (b k):G)-1) 0)] (y s):=by rw[a2,<-ex];exact hlz
 refine I J<|R<|rc J J aiI<|j J (hp:=aF) ?_;refine R<|Ab J J W<|j J ?_;refine R<|rc J J D<|j J (hp:=by simp only[Pr.an,Pr.h,num,gf,true_and,and_true];rw[rM];omega) ?_;refine R<|rm al (a+1) J J J J J J (lH .u32) O ?_ ?_<|j J ?_
 .show _*4<=_;omega
 .show _*1<=_;omega
 generalize F:bM (a+(n+2)+1) ((m*2^s:Y):G)=o;have u:val o=((m*2^s:Y):G):=by rw[<-F,F7,gx O PR]
 have v:bN o:=by rw[<-F];exact F6 _ _
 have PU:Z o=a+(n+2)+1:=by rw[<-F,rM]
 have yf:(0:G)<((k*2^s:Y):G):=by have:0<k*2^s:=yg rA hD;omega
 have uz:sZ ((m*2^s:Y):G) ((k*2^s:Y):G) (n+2) a (a+1,o,bg (a+1) 0):=by
  refine⟨aW _,PU,v,?_,ax,pR _,λi hi=>?_,?_⟩
  .show val (az (a+1) o)<_;have H:=yd o (a+1) O;have h2:=kY<|iE v<|a+1;have hp:=jd<|a+1;by_cases e:val (az (a+1) o)<((k*2^s:Y):G)
   .exact e
   .exfalso;have h3:4294967296^(a+1)*((k*2^s:Y):G)<=4294967296^(a+1)*val (az (a+1) o):=jQ O O;have h4:=It (dE k) (tQ k) (by intro e;rw[e]at f;simp at f);rw[dU,f,(O:n+2-1=n+1)]at h4;have h5:=sj (n:=m);rw[hM,(O:a+(n+2)=a+1+(n+1)),Int.pow_add]at h5;have h6:4294967296^(a+1)*4294967296^(n+1)*((2^s:Y):G)<=4294967296^(a+1)*((k*2^s:Y):G):=by rw[eY,iF];exact jQ (gL h4 O) O
    have h7:(m:G)*((2^s:Y):G)<4294967296^(a+1)*4294967296^(n+1)*((2^s:Y):G):=F8 h5 O;rw[u,eY m]at H;omega
  .show E (bg (a+1) (0:G)) i 0=0;rw[aM,ll];split<;>rfl
  .show _=val o+_*val (bg (a+1) 0);rw[Is,u];omega
 refine M<|I J ?_;refine ay<|bf (α:=Y×V G×V G) (λx=>⟨[(8,y ((n+2:Y):G)),(9,y s),(10,.c<|.X 6002000),(11,N al<|b<|k*2^s),(12,.c<|.X 8005000),(13,y<|(x.1:G)-1)],[(6002000,.vec 142 al x.2.1),(8005000,.vec 142 al x.2.2)],10,[]⟩) (sZ ((m*2^s:Y):G) ((k*2^s:Y):G) (n+2) a) (λx=>x.1) (a+1,o,bg (a+1) 0) uz (wk ⟨sE J ?_,sR J,sR J,sE J ?_,sR J,sE J ?_,A⟩<|vO J) ?_
 .exact iz O
 .refine a6 (λfV=>AV.c<|C.S al fV) ?_;rw[<-hVt];simp only[f,b6,oQ]
 .exact iz O
 rintro⟨K,U,Q⟩ p;have mb:Z U=a+(n+2)+1:=p.ul;have q:bN U:=p.ur;have Kj:Z Q=a+1:=p.ql;have JQ:K<=a+1:=p.k;refine M<|I J ?_;refine c J (λl=>?_)<|λl=>?_
 .have l:(K:G)-1>=0:=aT l;obtain⟨d,rfl⟩:∃d,K=d+1:=⟨K-1,O⟩;have ej:((d+1:Y):G)-1=(d:G):=O;rw[ej];have g:=p.next yf f5;let ⟨_,wm⟩:=p.PK f5;have Xh:=ait U (b<|k*2^s) d n q (dE _) f6 O O f7 (by rw[dU];exact wm);rw[dU]at Xh;rw[show n+2+1=n+3 from J]at g wm;have hu0:=kY<|iE (xu q d)<|n+3;refine aD<|M<|ay ?_;refine cA<|Wy d (d+(n+3)) J J J J J J O O (O:d+(n+3)<=Z U) ?_;rw[(O:d+(n+3)-d=n+3)];refine x9 6002000 J Xh J J<|j J ?_;refine bH<|rt J<|aS (d,cT U d<|bM (n+3)<|val ((az d U).take<|n+3)%((k*2^s:Y):G),Q.set d<|val ((az d U).take<|n+3)/((k*2^s:Y):G)) g (dJ d)<|wk (bJ J) ⟨bR J,bE J ?_,A⟩;refine a6 (aE.vec 142 al) ?_;show Q.set (af (d:G)) _=Q.set d _;rw[b6]
 .have l:¬(K:G)-1>=0:=a4 l;have hc:K=0:=O;subst hc;let ⟨e1,e2⟩:=p.fin;have q1:aK Q=b (m/k):=by
   rw[nM p.qr];show b (af<|val Q)=_;rw[e1];have:((m*2^s:Y):G)/((k*2^s:Y):G)=((m/k:Y):G):=by rw[<-wj,Nat.mul_div_mul_right _ _ hD]
   rw[this,b6]
  have hub:val U<((k*2^s:Y):G):=p.ub;have hut:val (h (n+2) U)=val U:=by have H:=yd U (n+2) O;rw[WU q (n+2) O O,gy,qm]at H;exact H.symm
  have wo:=aio (h (n+2) U) s (iE q _) L Gd;have q2:b (af<|val (h (n+2) U)/2^s)=b (m%k):=by
   rw[hut,e2,B];have:((m*2^s:Y):G)%((k*2^s:Y):G)/((2^s:Y):G)=((m%k:Y):G):=by rw[<-F9,Nat.mul_mod_mul_right,<-wj,PY _ hD]
   rw[this,b6]
  rw[q2]at wo;have ht:=uw Q;rw[q1]at ht;refine bh<|aI<|c8 6002000 J J J<|c8 8005000 J J J ?_;refine R<|rc J J ht<|rc J J wo (hp:=aF)<|j J<|bO J ?_;rfl
def Xi m k(l:k≠0)(g:Z (b m)<=1099511627776):r z 190 [N al (b m),N al<|b k] (.t [(ah,[.S al (b<|m/k)]),(ah,[.S al (b<|m%k)])]):=by
 by_cases a:m<k
 .refine aJ Xg ?_;refine I J<|R<|rc J J (wy m)<|rc J J (wy k)<|j J ?_;refine M (bw J J (KF m k) J<|c J (λ_=>?_)<|λh=>?_)
  .refine bw J J (Kx (b m) g) J<|bI<|cG<|g7 cj J ?_;rw[Aj a,n5 a];exact bm.t2<|bm.nil al
  .exfalso;have h:¬dz (m:G) (k:G)<0:=a4 h;unfold dz at h;rw[ao O]at h;omega
 .by_cases d:k<4294967296
  .refine aJ Xg ?_;have u:b k=[(k:G)]:=by rw[vw l,Aj d,BF,n5 d]
   have f:¬dz (m:G) (k:G)<0:=by unfold dz;rw[w O];split<;>decide
   have o:=aik (b m) (k:G) (dE m) O O g;rw[dU,<-wj,<-F9,b6]at o;have p:=KF m k;have q:=wy k;rw[u]at p q⊢;refine I J<|R<|rc J J (wy m)<|rc J J q<|j J ?_;refine M<|bw J J p J<|c J (λh=>absurd (aT h) f)<|λ_=>aD ?_;have i:r z 222 [N al (b m),.c (num .u64 (k:G)).1] (.t [(ah,[.S al (b<|m/k)]),(ah,[.I .u64 ((m%k:Y):G)])]):=by rw[show(AV.c (num .u64 (k:G)).1)=cU (k:G)from bK<|wrap_u64 _ O O];exact o
   have s:=fg m<|qn l;refine M<|I J<|c J (λ_=>?_)<|λh=>eV;refine bw J J i J ?_;refine bw J J (Kv (m%k) O) J<|bI<|cG<|atR J
  .have x:2<=Z (b k):=by
    by_cases e:2<=Z (b k)
    .exact e
    .exfalso;have B:=sj (n:=k);have v:=sk (m:=Z<|b k) (n:=1) O;rw[Int.pow_one]at v;omega
   exact aiF m k (Z (b k)-2) O O g
def Xj a d(o:d≠0)(n:Sm a)(k:Sm d):r z 158 [aZ a,aZ d] (.t [(ae,av .z<|a/d),(ae,av .z<|a%d),(ah,[.I .i64 0])]):=by
 refine aJ Tryz.func158 ?_;have e:aA d≠0:=O;refine I J<|M<|bw J J (wy<|aA d) J ?_;refine c J (λl=>?_)<|λl=>?_
 .exfalso;have l:(Z (b<|aA d):G)=0:=eq_of_beq l;have:=nZ.2 e;omega
 .refine aD<|bw J J (Xi _ _ e n) J<|M<|R ?_;refine rg 26 J J (λh3=>?_) (λh3=>?_)
  .have h3:a<0:=by simpa[bY]using h3
   refine j J<|c J (λh4=>?_)<|λh4=>?_
   .have h4:aA a%aA d≠0:=by have h4:(Z (b<|aA a%aA d):G)>0:=Ko;exact nZ.1 O
    let ⟨e1,f⟩:=WJ (qn e) h3 h4;have hz:bY a=ae:=C2;let ⟨g,i⟩:=CU a d (aA a/aA d+1) (aA d-aA a%aA d) C3 f;have p:aA a%aA d<aA d:=fg _<|qn e;refine R<|rl al [_] J J (rc J J (W6 (aA a/aA d) 1 ?_ T)<|j J<|cA<|rc J J (P7 (aA d) _ O k)<|j J<|aI<|R ?_)
    .exact bQ (rL<|Nat.div_le_self _ _) n
    refine rc J J (n9 _ _)<|rc J J (n9 _ _)<|j J<|bO J ?_;rw[g,i];rfl
   .have h4:aA a%aA d=0:=by have h4:¬(Z (b<|aA a%aA d):G)>0:=Ko;exact F' λm=>by have:=nZ.2 m;omega
    let ⟨e1,f⟩:=WI (qn e) h3 h4;have hz:bY a=ae:=C2;let ⟨g,i⟩:=CU a d (aA a/aA d) (aA a%aA d) C3 (by rw[f,h4];rfl);refine aD<|R<|rc J J (n9 _ _)<|rc J J (n9 _ _)<|j J<|bO J ?_;rw[g,i];rfl
  .have h3:¬a<0:=by simpa[bY]using h3
   refine j J<|c J (λh4=>by simp at h4)<|λh4=>?_;let ⟨e1,f⟩:=WH (qn e) h3;have hz:bY a=ah:=C2;let ⟨g,i⟩:=CU a d (aA a/aA d) (aA a%aA d) C3 f;refine aD<|R<|rc J J (n9 _ _)<|rc J J (n9 _ _)<|j J<|bO J ?_;rw[g,i];rfl
def Xk m(n:m<18446744073709551616):r z 189 [N al (b m)] (cU m):=by
 refine aJ Tryz.func189 ?_;have p:=F3 n;refine I J<|I J<|M<|I J ?_;refine ay<|bf (α:=Y) (λi=>⟨[(0,N al<|b m),(3,cU<|val<|h i<|b m),(6,y<|Z<|b m),(7,y i)],[],4,[]⟩) (λi=>i<=Z (b m)) (λi=>Z (b m)-i) 0 (a8 _) aU ?_;intro i q;have g:=db (dE m) i;have f:=jE (b m) i;have l:=lZ<|iE (dE m) i;have o:=kY<|iE (dE m) i;refine I J<|M ?_;refine c J (λa=>?_)<|λa=>?_
 .have a:i<Z (b m):=by have a:(i:G)<(Z (b m):G):=aT a;omega
  have k:Z (h i<|b m)=i:=bV;rw[k]at l;refine aD<|M<|ay<|I J<|rt J (hp:=aF)<|bH<|rt J<|aS (i+1) a (O:Z (b m)-(i+1)<Z (b m)-i)<|wk ⟨sR J,sE J ?_,sR J,sR J,A⟩ A;refine bK ?_;have d:i=0\/i=1:=O;rcases d with e|e
  .subst e;show aw .u64 ((iG (cY .u64) (val<|h 0<|b m)|||iG (cY .u64) (aw .u64<|aw .u64 (E (b m) 0 0)*2^(min (af<|((0:Y):G))<|cY .u64))).toNat:G)=val (h (0+1)<|b m);rw[f,wrap_u64 (E (b m) 0 0) O O,yj _ 0 g.1 O O];have:=An (E (b m) 0 0*2^0) 0 0 O (by simp[Int.emod_one]) T T O;rw[Ge];simp only[val];rw[BitVec.or_comm,this];simp
  .subst e;show aw .u64 ((iG (cY .u64) (val<|h 1<|b m)|||iG (cY .u64) (aw .u64<|aw .u64 (E (b m) 1 0)*2^(min (af<|((32:Y):G))<|cY .u64))).toNat:G)=val (h (1+1)<|b m);rw[Int.pow_one]at l f;rw[f,wrap_u64 (E (b m) 1 0) O O,yj _ 32 g.1 O O];have:=An (E (b m) 1 0*2^32) (val<|h 1<|b m) 32 O (C4 _ _) o O O;rw[BitVec.or_comm,this,show(2:G)^32=4294967296 from J];omega
 .have a:i=Z (b m):=by have a:¬(i:G)<(Z (b m):G):=a4 a;omega
  subst a;refine bh<|aI<|I J<|bO J<|bK ?_;rw[fR,dU]
def jy(a:Y->Y):C->C
 | .P id o=> .P (a id) o
 | .X id=> .X<|a id
 | .Y id n i o=> .Y (a id) n i o
 | .L id o l d=> .L (a id) o l d
 | .W id o l=> .W (a id) o l
 |d=>d
def KG(d:Y->Y):AV->AV
 | .c x=> .c<|jy d x
 | .a cs=> .a<|cs.map<|jy d
 | .t e=> .t<|e.map λs=>(s.1,s.2.map<|jy d)
def s8(d:Y->Y):aE->aE
 | .box e g cs=> .box e g<|cs.map<|jy d
 | .vec e i xs=> .vec e i xs
 | .gM f a k=> .gM f (a.map λs=>(s.1,s.2.map<|jy d))<|k.map λs=>(s.1,s.2.map<|jy d)
 | .fz e cs=> .fz e<|cs.map<|jy d
 | .mp l o xs=> .mp l o<|xs.map λx=>(x.1.map<|jy d,x.2.map<|jy d)
 | .it m n seen=> .it (d m) n seen
def P'{g:Gh}{d:Y->Y}:∀{e:C}{v:Value},cQ g (jy d e) v->cQ ⟨g.H,λf=>g.γ<|d f⟩ e v
 | .any,_,a=>a
 | .B _,_,a=>a
 | .I _ _,_,a=>a
 | .V _,_,a=>a
 | .S _ _,_,a=>a
 | .P _ _,_,a=>a
 | .X _,_,a=>a
 | .Y _ _ _ _,_,a=>a
 | .E _ _ _,_,a=>a
 | .M _,_,a=>a
 | .L _ _ _ (some _),_,a=>a
 | .L _ _ _ none,_,a=>a
 | .W _ _ _,_,a=>a
def Ar{g:Gh}{d:Y->Y}:∀{f:V C}{vs:V Value},aR g (f.map<|jy d) vs->aR ⟨g.H,λi=>g.γ<|d i⟩ f vs
 |[],_,a=>a
 |_::_,_,a=>by let ⟨v,k,e,l,h2⟩:=a;exact⟨v,k,e,P' l,Ar h2⟩
def KH{g:Gh}{i:Y->Y}:∀{k:V (Bool×V C)}{vs:V Value},fa g (k.map λs=>(s.1,s.2.map<|jy i)) vs->fa ⟨g.H,λl=>g.γ<|i l⟩ k vs
 |[],_,d=>d
 | (m,f)::_,_,d=>by
  let ⟨v,n,e,a,h2⟩:=d;refine⟨v,n,e,?_,KH h2⟩;match m,f,a with
  |true,f,a=>let ⟨vs,e,d⟩:=a;exact⟨vs,e,Ar d⟩
  |false,[f],a=>exact P' a
  |false,[],a=>exact a.elim
  |false,_::_::_,a=>exact a.elim
def aiK{g}{f:Y->Y}{x}{v}(d:bA g (KG f x) v):bA ⟨g.H,λi=>g.γ<|f i⟩ x v:=by
 cases x with
 |c y=>exact P' d
 |a cs=>let ⟨vs,e,d⟩:=d;exact⟨vs,e,Ar d⟩
 |t k=>let ⟨vs,e,d⟩:=d;exact⟨vs,e,KH d⟩
def Xl{g:Gh}{a:Y->Y}{k l:Bool}:∀{n:Y}{xs:V (V C×V C)}{m:V MapEntry},g5 g k l n (xs.map λx=>(x.1.map<|jy a,x.2.map<|jy a)) m->g5 ⟨g.H,λo=>g.γ<|a o⟩ k l n xs m
 |_,[],_,d=>d
 |_,_::_,_,d=>by let ⟨e,p,q,h2,⟨s,t,f⟩,⟨vs,u,i⟩,v⟩:=d;exact⟨e,p,q,h2,⟨s,t,Ar f⟩,⟨vs,u,Ar i⟩,Xl v⟩
def aiL{u:Y->Prop}{g}{W}{p:Y->Y}{o}{q}(i:fB u g W (p o) (s8 p q)):fB u ⟨g.H,λo=>g.γ<|p o⟩ W o q:=by
 cases q with
 |box E B cs=>
  let ⟨k,vs,rest,a,d,e,l,s,x⟩:=i
  exact⟨k,vs,rest,a,d,Ar e,l,s,x⟩
 |vec E T C=>
  rcases i with⟨a,d⟩|⟨k,t,vs,a,d⟩
  .exact .inl ⟨a,d⟩
  .exact .inr ⟨k,t,vs,a,d⟩
 |gM f first v=>
  let ⟨us,ws,a,d,e⟩:=i
  exact⟨us,ws,a,KH d,KH e⟩
 |fz E cs=>
  let ⟨k,vs,rest,a,d,e,l,s⟩:=i
  exact⟨k,vs,rest,a,d,Ar e,l,s⟩
 |mp F K xs=>
  let ⟨k,es,a,d,e,l⟩:=i
  exact⟨k,es,a,by simpa using d,Xl e,l⟩
 |it m n seen=>exact i
def KI(K:Y)(m:V (Y×aE)):Prop:=∀t v,S t m=some v->t<K/\∀a∈v.ak,a<K
def KI.of{K}{m}(a:ug K m=ae):KI K m:=Jc a
def Qa{e:Type}(t:Y):∀(a d:V (Y×e)),S t (a++d)=(S t a).or (S t d)
 |[],_=>rfl
 | (k,x)::a,d=>by
  simp only[lY,S];split
  .rfl
  .exact Qa t a d
def KJ(m:Y)(d:Ks):V Ks->Y->Bool
 |[],_=>ae
 |a::l,i=>(Nat.testBit m i|| !p8 a d)&&KJ m d l (i+1)
def KK:V Y->V Ks->V Ks->Bool
 |m::ms,a::d,done=>KJ m a done 0&&KK ms d (done++[a])
 |[],[],_=>ae
 |_,_,_=>ah
def Qb(a:V Oper)(d:V Ks):Bool:=B9 a 0&&KK (oM a []) d []
def Xm(m:Y)(d:Ks):∀(l:V Ks)(i:Y),KJ m d l i=zJ m d l i
 |[],_=>rfl
 |a::l,i=>by rw[KJ,zJ,Xm m d l,Bool.or_comm]
def Xn:∀(a:V Y)(d done:V Ks),KK a d done=vJ a d done
 |[],[],_=>rfl
 |[],_::_,_=>rfl
 |_::_,[],_=>rfl
 |m::a,e::d,done=>by rw[KK,vJ,Xm,Xn a d]
def aiM{d}{a}{e}(f:(!d||Qb a e)=ae):(!d||ry a e)=ae:=by
 have:Qb a e=ry a e:=by rw[Qb,ry,Xn]
 rwa[this]at f
def ln(a:V G):Y->Y
 |0=>0
 |i+1=>ln a i+aA (E a i 0)
def fY(a:V G):Y:=ln a (Z a)*2^(Z a-1)
def qt:Y->Y->Y->Y->Y->Y
 |0,d,_,_,_=>d
 |f+1,d,a,n,p=>if n=0 then d else qt f (if n%2=1 then d*a%p else d) (a*a%p) (n/2) p
def s'(a n p:Y):Y:=qt 64 (1%p) (a%p) n p
def iB(a p:Y):Y:=s' a (p-2) p
def Xo:∀(f d a n p:Y),0<p->d<p->qt f d a n p<p
 |0,d,_,_,_,_,e=>e
 |f+1,d,a,n,p,hp,e=>by
  unfold qt;split
  .exact e
  .refine Xo f _ _ _ _ hp ?_;split
   .exact fg _ hp
   .exact e
def Qc a n p(d:0<p):s' a n p<p:=Xo _ _ _ _ _ d<|fg _ d
def lJ(x a:Y):(x:G).tmod (a:G)=((x%a:Y):G):=by rw[lj O];omega
def C5(x a p:Y)(e:x<p)(f:a<p)(d:p<=4294967296):(aw .u64<|(x:G)*(a:G)).tmod (p:G)=((x*a%p:Y):G):=by have h:x*a<18446744073709551616:=hP (KL e f)<|bQ (mn d d) T;rw[<-eY,wrap_u64 _ O O,lJ]
def As(x:Y)(a:x<18446744073709551616):(aw .u64<|(x:G).tdiv 2)=((x/2:Y):G):=by
 have e:(x:G).tdiv 2=((x/2:Y):G):=by rw[sW O];omega
 rw[e,wrap_u64 _ O O]
def Xp(a n p:Y)(F:a<18446744073709551616)(B:n<18446744073709551616)(d:0<p)(s:p<=4294967296):r z 301 [cU a,cU n,cU p] (cU<|s' a n p):=by
 refine aJ Tryz.func301 ?_;refine I J<|M<|I J ?_;refine c J (λh=>?_)<|λh=>?_
 .exfalso;have h:(p:G)=0:=dL;omega
 .have C:(p:G)≠0:=by omega
  refine aD<|I J<|M<|I J<|ay<|bf (α:=Y×Y×Y×Y) (λx=>⟨[(0,cU x.2.2.1),(1,cU x.2.2.2),(2,cU p),(7,cU x.2.1)],[],4,[]⟩) (λx=>qt x.1 x.2.1 x.2.2.1 x.2.2.2 p=s' a n p/\x.2.2.2<2^x.1/\x.2.1<p/\x.2.2.1<p/\x.2.2.2<18446744073709551616) (λx=>x.2.2.2) (64,1%p,a%p,n) ⟨J,B,fg _ d,fg _ d,B⟩ (wk ⟨sE J ?_,sR J,sR J,sE J ?_,A⟩ A) ?_
  .exact bK<|lJ a p
  .exact bK<|lJ 1 p
  .rintro⟨f,t,b,m⟩ ⟨i,hm,u,l,k⟩;simp only at i hm u l k;refine M<|I J ?_;refine c J (λo=>?_) (λo=>?_)
   .have o:(m:G)>0:=by simpa using o
    cases f with
    |zero=>rw[oY]at hm;omega
    |succ f=>
     have q:m/2<2^f:=by rw[fp]at hm;omega
     rw[qt,w O]at i
     refine aD<|M<|ay<|M<|I J ?_
     refine c J (λg=>?_)<|λg=>?_
     .have g:m%2=1:=by have g:=eq_of_beq g;have e:(m:G).tmod 2=((m%2:Y):G):=lJ m 2;have v:(m:G).tmod 2=1:=g;omega
      rw[ao g]at i;refine rt J<|aI<|rt J<|bH<|rt J<|aS (f,t*b%p,b*b%p,m/2) ⟨i,q,fg _ d,fg _ d,KM⟩ KN<|wk ⟨sE J ?_,sE J ?_,sR J,sE J ?_,A⟩ A
      .exact bK<|C5 b b p l l s
      .exact bK<|As m k
      .exact bK<|C5 t b p u l s
     .have g:¬m%2=1:=by intro e;have H:(m:G).tmod 2=((m%2:Y):G):=lJ m 2;have v:((m:G).tmod 2==1)=ah:=g;rw[(O:(m:G).tmod 2=1)]at v;cases v
      rw[w g]at i;refine aD<|rt J<|bH<|rt J<|aS (f,t,b*b%p,m/2) ⟨i,q,u,fg _ d,KM⟩ KN<|wk ⟨sE J ?_,sE J ?_,sR J,sR J,A⟩ A
      .exact bK<|C5 b b p l l s
      .exact bK<|As m k
   .have o:¬(m:G)>0:=by simpa using o
    have:m=0:=O;subst this;refine bh<|aI<|I J<|bO J ?_;rw[<-i];cases f with
    |zero=>rfl
    |succ f=>rw[qt,ao J]
def aiN(a p:Y)(d:a<18446744073709551616)(k:a%p≠0)(f:2<=p)(g:p<=4294967296):r z 291 [cU a,cU p] (.t [(ah,[.I .u64 (iB a p)]),(ah,[.I .i64 0])]):=by
 refine aJ Tryz.func291 ?_;have i:(p:G)≠0:=O;refine I J<|M<|R ?_;refine rg 8 J J (λh=>?_)<|λh=>?_
 .exfalso;have h:(p:G)<2:=dL;omega
 .refine j J (c J (λh2=>?_)<|λh2=>?_)
  .exfalso;have h2:(a:G).tmod (p:G)=0:=oO;rw[lJ]at h2;omega
  .have e:r z 301 [cU a,.c (num .u64<|(p:G)-2).1,cU p] (cU<|s' a (p-2) p):=by rw[show(AV.c (num .u64<|(p:G)-2).1)=cU ((p-2:Y):G)from bK<|(wrap_u64 _ O O).trans O];exact Xp a (p-2) p d O O g
   exact aD<|bw J J e J<|cJ J
def Xq{m}(d:Z (b m)<=2):m<18446744073709551616:=by have a:=sj (n:=m);have f:(4294967296:G)^2=18446744073709551616:=rfl;have g:(4294967296:G)^1=4294967296:=rfl;have i:(4294967296:G)^0=1:=rfl;rcases(O:Z (b m)=0\/Z (b m)=1\/Z (b m)=2)with e|e|e<;>rw[e]at a<;>omega
def aiO a e(p:Sm a)(q:Sm e):r z 157 [aZ a,aZ e] (aZ ((Int.gcd a e:Y):G)):=by
 refine aJ Tryz.func157 ?_;refine I J<|R<|rc J J (wy<|aA a)<|rc J J (Kx _ p)<|rc J J (wy<|aA e)<|rc J J (Kx _ q)<|j J ?_ (ho:=aiM dN);refine M<|ay<|bf (α:=Y×Y) (λx=>⟨[(4,.c<|.P 2000 0),(5,N al<|b x.1),(6,N al<|b x.2)],[(2000,.box 42 0 [.B ah,.V<|.slice none 0 0])],2,[]⟩) (λx=>Nat.gcd x.1 x.2=Int.gcd a e/\Z (b x.1)<=1099511627776/\Z (b x.2)<=1099511627776) (λx=>x.2) (aA a,aA e) ⟨J,p,q⟩ (wk (bJ J) ⟨bE J J,A⟩) ?_;rintro⟨m,k⟩ ⟨hg,hm,l⟩;simp only at hg hm l;refine M<|I J<|c J (λh=>?_)<|λh=>?_
 .have h:k≠0:=by have h:(Z (b k):G)>0:=aT h;exact nZ.1 O
  refine aD<|ay<|m0 ⟨[(4,.c<|.P 2000 0),(5,N al<|b m),(6,N al<|b k)],[(2000,.box 42 0 [.B ah,.V<|.slice none 0 0])],8,[]⟩ ?_<|λf=>R<|rg 25 J J (λg=>j J<|c J (λh2=>?_)<|λh2=>c7<|eZ f<|wk (bJ J) ⟨bE J J,A⟩)<|λg=>j J<|c J (λh2=>oZ)<|λh2=>c7<|eZ f<|wk (bJ J) ⟨bE J J,A⟩
  .refine bw J J (Xi m k h hm) J (rt J<|eL<|aS (k,m%k) ⟨?_,l,?_⟩ (fg _ O)<|wk (bJ J) ⟨bE J J,A⟩)
   .show Nat.gcd k (m%k)=_;rw[<-hg,yc m k,Nat.gcd_rec k m,yc]
   .exact bQ (rL<|xw<|fg _ O) l
  .have g:Z (b m)<=2:=by have g:(Z (b m):G)<=2:=aT g;omega
   have h2:Z (b k)<=2:=by have h2:(Z (b k):G)<=2:=aT h2;omega
   have s:=Xq g;have t:=Xq h2;refine R<|rc J J (Xk m s)<|rc J J (Xk k t)<|j J ?_;refine M<|ay<|bf (α:=Y×Y) (λx=>⟨[(4,.c<|.P 2000 0),(7,cU x.1),(8,cU x.2)],[(2000,.box 42 0 [.B ah,.V<|.slice none 0 0])],10,[]⟩) (λx=>Nat.gcd x.1 x.2=Int.gcd a e/\x.1<18446744073709551616/\x.2<18446744073709551616) (λx=>x.2) (m,k) ⟨hg,s,t⟩ (wk (bJ J) ⟨bE J J,A⟩) ?_;rintro⟨u,v⟩ ⟨i,g2,C⟩;simp only at i g2 C;refine M<|I J<|c J (λd=>?_)<|λd=>?_
   .have d:0<v:=by have d:(v:G)>0:=aT d;omega
    have n:=fg u d;refine aD<|ay<|rt J (eL<|aS (v,u%v) ⟨?_,C,by show u%v<_;omega⟩ n<|wk ⟨sR J,sR J,sE J ?_,A⟩ ⟨bE J J,A⟩) (hp:=?_)
    .show Nat.gcd v (u%v)=_;rw[<-i,yc u v,Nat.gcd_rec v u,yc]
    .exact bK<|lJ u v
    .simp only[Pr.an,Pr.h,num,gf,true_and,and_true];omega
   .have d:v=0:=by have d:¬(v:G)>0:=a4 d;omega
    subst d;rw[J4]at i;subst i;refine bh<|aI<|R<|rc J J (Kv _ g2)<|rc J J (n9 ah _)<|j J<|bI ?_;repeat(first|refine cG ?_|refine kE ?_|refine k8 ?_)
    exact atR J
 .have h:k=0:=by have h:¬(Z (b k):G)>0:=a4 h;exact F' λo=>by have:=nZ.2 o;omega
  subst h;rw[J4]at hg;subst hg;exact bh<|aI<|bw J J (n9 ah _) J<|cJ J
def aP(xs:V G)(p:G):AV:= .a [.S aq xs,.I .u64 p]
def Xr{a}{k}(d:fA a k=fA a (Z a))(e:k=0\/E a (k-1) 0≠0):h k a=aK a:=by
 unfold aK;rw[<-d];cases k with
 |zero=>rfl
 |succ k=>
  rcases e with e|e
  .omega
  .simp only[eh]at e;simp only[fA,e,bL]
def Xs ws p(g:Z ws<=1000000):r z 263 [aP ws p] (aP (aK ws) p):=by
 refine aJ Tryz.func263 ?_;refine I J<|I J ?_;refine M<|ay<|bf (α:=Y) (λk=>⟨[(1,.c<|.P 0 0),(2,.c<|.P 1000 0),(3,y k)],[(0,.box 221 0 [.S aq ws,.I .u64 p]),(1000,.box 221 0 [.V (.slice none 0 0),.I .u64 0])],2,[]⟩) (λk=>k<=Z ws/\fA ws k=fA ws (Z ws)) (λk=>k) (Z ws) ⟨aW _,J⟩ (wk (bJ J) ⟨bE J J,bE J J,A⟩) ?_;rintro k ⟨i,a⟩;refine M<|R ?_;refine rg 9 J J (λh=>?_)<|λh=>?_
 .simp at h;refine j J (c J (λd=>?_)<|λd=>?_)
  .refine aD (ay<|rt J<|eL<|aS (k-1) ⟨O,?_⟩ (O:k-1<k)<|wk ⟨sR J,sR J,sE J ?_,A⟩ ⟨bE J J,bE J J,A⟩)
   .rw[<-a];obtain⟨e,rfl⟩:∃e,k=e+1:=⟨k-1,O⟩;have f:E ws e 0=0:=by have:af (((e+1:Y):G)-1)=e:=O;simpa[this]using d
    simp only[eh,fA,f,b7]
   .congr 2;omega
  .refine bh<|aI<|I J<|bO J ?_;refine a6 (aP · p) ?_;rw[<-Xr a (.inr ?_)]
   .simp
   .have:af ((k:G)-1)=k-1:=by omega
    simpa[this]using d
 .simp at h;subst h;refine j J<|c J (λd=>by simp at d)<|λ_=>?_;refine bh<|aI<|I J<|bO J ?_;exact a6 (aP · p)<|Xr a<|.inl J
def rp(p:G)(a:V G):Prop:=∀i,0<=E a i 0/\E a i 0<p
def KO{p}{a}(d:rp p a) i{x}(e:0<=x)(f:x<p):rp p (a.set i x):=by
 intro j;have:=d j;simp only[aM,Pt]at this⊢;split
 .split
  .exact⟨e,f⟩
  .rename_i g k;simp only[Option.getD_none];exact⟨gK _,O⟩
 .exact this
def Qd{p}(a:0<p) n:rp p (bg n 0):=by
 intro j;simp only[aM,ll];split
 .exact⟨gK _,a⟩
 .exact⟨gK _,a⟩
def qu(a f:V G)(p:G)(i:Y):Y->V G->V G
 |0,e=>e
 |d+1,e=>(qu a f p i d e).set (i+d)<|(E (qu a f p i d e) (i+d) 0+E a i 0*E f d 0)%p
def lK(a d:V G)(p:G):Y->V G
 |0=>bg (Z a+Z d-1) 0
 |i+1=>qu a d p i (Z d)<|lK a d p i
def Gf(a f:V G)(p:G)(i:Y)(d:V G):∀e,Z (qu a f p i e d)=Z d
 |0=>rfl
 |e+1=>by rw[qu,ru,Gf a f p i d e]
def Gg(a d:V G)(p:G):∀i,Z (lK a d p i)=Z a+Z d-1
 |0=>by simp[lK]
 |i+1=>by rw[lK,Gf,Gg a d p i]
def KP{a b:V G}{p:G}(e:0<p)(i:Y){f:V G}(g:rp p f):∀d,rp p (qu a b p i d f)
 |0=>g
 |d+1=>KO (KP e i g d) _ (ij _ O)<|ik _ e
def Gi(a e:V G){p:G}(d:0<p):∀i,rp p (lK a e p i)
 |0=>Qd d _
 |i+1=>KP d i (Gi a e d i) _
def cH(a d:V G)(p:G):V G:=if a=[]\/d=[]then[]else aK (lK a d p<|Z a)
def Xt x a d p(i:0<=x/\x<p)(f:0<=a/\a<p)(e:0<=d/\d<p)(k:p<=2147483648):(aw .u64<|x+aw .u64 (a*d)).tmod p=(x+a*d)%p:=by have g:0<=a*d:=iP f.1 e.1;have l:a*d<=2147483648*2147483648:=vA O O e.1 O;rw[wrap_u64 (a*d) g O,wrap_u64 _ O O,lj O]
def bm.trans{x a d}(f:bm x a)(k:bm a d):bm x d:=⟨λg v e=>k.1 g v<|f.1 g v e,λi e=>f.2 i<|k.2 i e⟩
def bm.a2{x i k}(e:bm (.c x) (.c i)):bm (.a [x,k]) (.a [i,k]):=by
 refine⟨?_,?_⟩
 .rintro g v ⟨vs,rfl,v1,r,rfl,l,f⟩;exact⟨_,J,v1,r,J,e.1 g v1 l,f⟩
 .intro m d;have f:=e.2 m;simp only[AV.ak,bP,g8,aY]at d f⊢;exact d.elim (λe=> .inl<|f e) .inr
def aiP a b p(x:Z a<=1000)(B:Z b<=1000)(k:0<p)(n:p<=2147483648)(o:rp p a)(q:rp p b):r z 292 [aP a p,aP b p] (aP (cH a b p) p):=by
 refine aJ Tryz.func292 ?_;refine I J<|M<|R ?_;have l:a=[]\/b=[]->aP [] p=aP (cH a b p) p:=λh=>by rw[cH,ao h]
 refine rg 12 J J (λh=>?_)<|λh=>?_
 .have h:a=[]:=by simpa using h
  refine re J (c J (λd=>?_)<|λd=>by simp at d);exact I J<|bI<|cG<|g7 cj J<|bm.trans (bm.a2<|bm.nil aq)<|bm.of_eq<|l<|.inl h
 .have h:a≠[]:=by simpa using h
  refine re J<|c J (λd=>?_)<|λd=>?_
  .have d:b=[]:=by simpa using d
   exact I J<|bI<|cG<|g7 cj J<|bm.trans (bm.a2<|bm.nil aq)<|bm.of_eq<|l<|.inr d
  .have d:b≠[]:=by simpa using d
   have C:=cv.2 h;have F:=cv.2 d;refine aD<|R ?_;refine rm aq (Z a+Z b-1) J J J J J J (lH .u64) O ?_ ?_ ?_
   .show _*8<=_;omega
   .show _*1<=_;omega
   refine re J<|M<|I J ?_;refine ay<|bf (α:=Y) (λi=>⟨[(2,.c<|.P 0 0),(3,.c<|.P 1000 0),(4,.c<|.P 2000 0),(5,.c<|.X 2008000),(32,y<|Z a),(33,y i)],[(0,.box 221 0 [.S aq a,.I .u64 p]),(1000,.box 221 0 [.S aq b,.I .u64 p]),(2000,.box 221 0 [.V (.slice none 0 0),.I .u64 0]),(2008000,.vec 150 aq<|lK a b p i)],4,[]⟩) (λi=>i<=Z a) (λi=>Z a-i) 0 (a8 _) (wk (bJ J) ⟨bE J J,bE J J,bE J J,bE J J,A⟩) ?_;intro i H;have s:=Gg a b p i;refine I J<|M ?_;refine c J (λf=>?_)<|λf=>?_
   .have f:i<Z a:=by simpa using f
    refine aD<|M<|ay<|I J<|I J ?_;refine ay<|bf (α:=Y) (λj=>⟨[(2,.c<|.P 0 0),(3,.c<|.P 1000 0),(4,.c<|.P 2000 0),(5,.c<|.X 2008000),(6,y i),(32,y<|Z a),(33,y i),(38,y<|Z b),(39,y j)],[(0,.box 221 0 [.S aq a,.I .u64 p]),(1000,.box 221 0 [.S aq b,.I .u64 p]),(2000,.box 221 0 [.V (.slice none 0 0),.I .u64 0]),(2008000,.vec 150 aq<|qu a b p i j<|lK a b p i)],7,[]⟩) (λj=>j<=Z b) (λj=>Z b-j) 0 (a8 _) (wk (bJ J) ⟨bE J J,bE J J,bE J J,bE J J,A⟩) ?_;intro j K;have t:=Gf a b p i (lK a b p i) j;refine I J<|M ?_;refine c J (λg=>?_)<|λg=>?_
    .have g:j<Z b:=by simpa using g
     have u:=o i;have v:=q j;have gr:=KP k (a:=a) (b:=b) i (Gi a b k i) j<|i+j;have m:af ((i:G)+(j:G))=i+j:=O;refine aD<|M<|ay<|I J<|rt J ?_ (hp:=jJ);refine bH<|rt J<|aS (j+1) g Qe<|wk (bJ J) ⟨bE J J,bE J J,bE J J,bE J ?_,A⟩;rw[qu,m,<-Xt _ _ _ p gr u v n];rfl
    .have g:¬j<Z b:=by simpa using g
     have e:j=Z b:=O;subst e;refine bh<|bH<|rt J<|aS (i+1) f nY<|wk (bJ J) ⟨bE J J,bE J J,bE J J,bE J J,A⟩
   .have f:¬i<Z a:=by simpa using f
    have e:i=Z a:=O;subst e;refine bh<|aI<|c8 2008000 J J J<|bw J J (Xs (lK a b p<|Z a) p O) J<|bO J ?_;rw[cH,w<|λe=>e.elim h d];rfl
def aiQ(x:G)(a:V G)(d:Z a<=1000000):nC z 290 [N aq (x::a)] 150 aq (x::a):=by
 refine FQ Tryz.func290 J J J J T ?_;refine I J<|M<|R<|rx J J A<|j J ?_;refine c J (λh=>by simp at h)<|λh=>?_;refine aD<|R<|fM aq [] J J (ra J J J J J J J J J ?_ ?_<|j J<|bI<|FP (id:=2002000) cj J J)
 .show(_+(_+1)+(_+(_+1))/4+192)*8<=_;simp only[rz];omega
 .show(_+(_+1))*1<=_;simp only[rz];omega
def aiR ws p(a:Z ws<=1000000):r z 232 [aP ws p] (y<|(Z ws:G)-1):=by refine aJ Tryz.func232 ?_;exact I J<|I J<|cJ J
def tb(e:V G)(p f:G)(i:Y):Y->V G->V G
 |0,d=>d
 |a+1,d=>(tb e p f i a d).set (i+a)<|(E (tb e p f i a d) (i+a) 0+(p-f)*E e a 0)%p
def gP(a d:V G)(p v:G)(m n:Y):Y->V G×V G
 |0=>(bg m 0,a)
 |k+1=>((gP a d p v m n k).1.set (m-(k+1))<|(gP a d p v m n k).2.getD (m-(k+1)+n) 0*v%p,tb d p ((gP a d p v m n k).2.getD (m-(k+1)+n) 0*v%p) (m-(k+1)) (Z d) (gP a d p v m n k).2)
def KQ(e:V G)(p f:G)(i:Y)(a:V G):∀d,Z (tb e p f i d a)=Z a
 |0=>rfl
 |d+1=>by rw[tb,ru,KQ e p f i a d]
def Qf{b:V G}{p c:G}(d:0<p)(i:Y){e:V G}(f:rp p e):∀a,rp p (tb b p c i a e)
 |0=>f
 |a+1=>KO (Qf d i f a) _ (ij _ O)<|ik _ d
def KR(a d:V G)(p v:G)(m n:Y):∀k,(gP a d p v m n k).1.length=m/\(gP a d p v m n k).2.length=Z a
 |0=>by simp[gP]
 |k+1=>by have:=KR a d p v m n k;simp only[gP,ru,KQ];exact this
def Qg{a:V G}(e:V G){p:G}(v:G)(m n:Y)(d:0<p)(f:rp p a):∀k,rp p (gP a e p v m n k).1/\rp p (gP a e p v m n k).2
 |0=>⟨Qd d _,f⟩
 |k+1=>by have g:=Qg e v m n d f k;exact⟨KO g.1 _ (ij _ O)<|ik _ d,Qf d _ g.2 _⟩
def aL(a d:V G)(p:G):V G×V G:=
 if Z a<=Z d-1 then([],a)
 else(λx=>(x.1,aK<|h (Z d-1) x.2)) (gP a d p (iB (af<|E d (Z d-1) 0) (af p):Y) (Z a-(Z d-1)) (Z d-1)<|Z a-(Z d-1))
def aiS x a d p(i:0<=x/\x<p)(f:0<=a/\a<=p)(e:0<=d/\d<p)(k:p<=2147483648):(aw .u64<|x+aw .u64 (a*d)).tmod p=(x+a*d)%p:=by have g:0<=a*d:=iP f.1 e.1;have l:a*d<=2147483648*2147483648:=vA O O e.1 O;rw[wrap_u64 (a*d) g O,wrap_u64 _ O O,lj O]
def Xu a d p(f:0<=a/\a<p)(e:0<=d/\d<p)(i:p<=2147483648):(aw .u64<|a*d).tmod p=a*d%p:=by have g:0<=a*d:=iP f.1 e.1;have k:a*d<=2147483648*2147483648:=vA O O e.1 O;rw[wrap_u64 (a*d) g O,lj O]
def Xv a p(d:0<=a/\a<p)(f:a≠0)(e:2<=p)(g:p<=2147483648):r z 291 [cU a,cU p] (.t [(ah,[.I .u64 (iB (af a) (af p):Y)]),(ah,[.I .i64 0])]):=by have h:=aiN (af a) (af p) O (by rw[n5 O];omega) O O;rwa[uq d.1,uq (by omega:0<=p)]at h
def bm.ta{x e f}{i}(k:bm (.c x) (.c e)):bm (.t<|(ae,[x,f])::i) (.t<|(ae,[e,f])::i):=by
 refine⟨?_,?_⟩
 .rintro g v ⟨vs,rfl,v1,r1,rfl,⟨us,rfl,v2,l,rfl,m,d⟩,n⟩;exact⟨_,J,_,_,J,⟨_,J,v2,l,J,k.1 g v2 m,d⟩,n⟩
 .intro o a;have d:=k.2 o;simp only[AV.ak,eo,bP,g8,aY]at a d⊢;rcases a with(a|a)|a
  .exact .inl<|.inl<|d a
  .exact .inl<|.inr a
  .exact .inr a
def aiT x a' b p{a}(ea:a=x::a')(la:Z a<=1000)(lb:Z b<=1000)(u:2<=p)(B:p<=2147483648)(ha:rp p a)(hb:rp p b)(F:b≠[])(l:E b (Z b-1) 0≠0):r z 264 [aP a p,aP b p] (.t [(ae,[.S aq (aL a b p).1,.I .u64 p]),(ae,[.S aq (aL a b p).2,.I .u64 p])]):=by
 refine aJ Tryz.func264 ?_;have hpz:p≠0:=O;have pb:=cv.2 F;have C:nC z 290 [N aq a] 150 aq a:=by rw[ea]at la⊢;exact aiQ x a' (by simp at la;omega)
 refine I J<|R<|Ab J J C<|re J<|bw J J (aiR b p O) J<|M<|I J ?_;refine c J (λh=>?_)<|λh=>?_
 .have h:Z a<=Z b-1:=by have h:(Z a:G)<=(Z b:G)-1:=dL;omega
  have e:aL a b p=([],a):=by rw[aL,ao h]
  rw[e];refine I J<|bI<|cG<|g7 cj J ?_;exact bm.ta<|bm.nil aq
 .have h:¬Z a<=Z b-1:=by have h:¬(Z a:G)<=(Z b:G)-1:=dL;omega
  obtain⟨n,D⟩:∃n,Z b=n+1:=⟨Z b-1,O⟩;obtain⟨m,hm⟩:∃m,Z a=n+m:=⟨Z a-n,O⟩;have e:aL a b p=((gP a b p (iB (af<|E b n 0) (af p):Y) m n m).1,aK<|(gP a b p (iB (af<|E b n 0) (af p):Y) m n m).2.take n):=by rw[aL,w h,D,hm,eh,Gj]
  rw[e];rw[D,eh]at l;have en:(Z b:G)-1=(n:G):=O;generalize T:(iB (af<|E b n 0) (af p):Y)=v;have H:(0:G)<=(v:G)/\(v:G)<p:=by have:=Qc (af<|E b n 0) (af p-2) (af p) O;unfold iB at T;omega
  rw[en];have f:=Xv (E b n 0) p (hb n) l u B;rw[T]at f;refine aD<|bw J J f J<|R ?_;refine rm aq m J J J J J J (lH .u64) O ?_ ?_ ?_
  .show _*8<=_;omega
  .show _*1<=_;omega
  refine re J<|M<|I J ?_;refine ay<|bf (α:=Y) (λk=>⟨[(2,.c<|.P 0 0),(3,.c<|.P 1000 0),(4,.c<|.P 2000 0),(5,.c<|.P 3000 0),(6,.c<|.X 1002000),(7,y n),(8,cU v),(10,.c<|.X 5004000),(11,y<|(m:G)-1-k)],[(0,.box 221 0 [.S aq a,.I .u64 p]),(1000,.box 221 0 [.S aq b,.I .u64 p]),(2000,.box 221 0 [.V (.slice none 0 0),.I .u64 0]),(3000,.box 221 0 [.V (.slice none 0 0),.I .u64 0]),(1002000,.vec 150 aq (gP a b p v m n k).2),(5004000,.vec 150 aq (gP a b p v m n k).1)],7,[]⟩) (λk=>k<=m) (λk=>m-k) 0 (a8 _) (wk ⟨sR J,sR J,sR J,sR J,sR J,sR J,sR J,sR J,sE J ?_,A⟩ ⟨bE J J,bE J J,bE J J,bE J J,bE J J,bE J J,A⟩) ?_
  .exact a6 y (by simp only[fF];omega)
  intro k hk;have K:=KR a b p v m n k;have o:=Qg b v m n O ha k;refine M<|I J ?_;refine c J (λh3=>?_)<|λh3=>?_
  .have h3:k<m:=by have h3:(m:G)-1-k>=0:=zy;omega
   obtain⟨i,hi⟩:∃i,m=i+(k+1):=⟨m-(k+1),O⟩;have ei:(m:G)-1-k=(i:G):=O;have q:m-(k+1)=i:=O;rw[ei];have L:af ((i:G)+(n:G))=i+n:=O;generalize hc:(gP a b p v m n k).2.getD (i+n) 0*v%p=d;have vY:0<=d/\d<p:=by rw[<-hc];exact⟨ij _ O,ik _ O⟩
   have Q:=o.2<|i+n;refine aD<|M<|ay<|I J (hp:=jJ)<|I J ?_;refine ay<|bf (α:=Y) (λj=>⟨[(2,.c<|.P 0 0),(3,.c<|.P 1000 0),(4,.c<|.P 2000 0),(5,.c<|.P 3000 0),(6,.c<|.X 1002000),(7,y n),(8,cU v),(10,.c<|.X 5004000),(11,y i),(65,y<|Z b),(66,y j)],[(0,.box 221 0 [.S aq a,.I .u64 p]),(1000,.box 221 0 [.S aq b,.I .u64 p]),(2000,.box 221 0 [.V (.slice none 0 0),.I .u64 0]),(3000,.box 221 0 [.V (.slice none 0 0),.I .u64 0]),(1002000,.vec 150 aq<|tb b p d i j (gP a b p v m n k).2),(5004000,.vec 150 aq<|(gP a b p v m n k).1.set i d)],10,[]⟩) (λj=>j<=Z b) (λj=>Z b-j) 0 (a8 _) (wk (bJ J) ⟨bE J J,bE J J,bE J J,bE J J,bE J J,bE J ?_,A⟩) ?_
   .rw[<-hc,<-Xu _ _ p Q H B,<-L];rfl
   intro j hj;have hlj:=KQ b p d i (gP a b p v m n k).2 j;have U:=Qf (b:=b) (p:=p) (c:=d) O i o.2 j<|i+j;refine I J<|M ?_;refine c J (λg=>?_)<|λg=>?_
   .have g:j<Z b:=by simpa using g
    have gb:=hb j;have W:af ((i:G)+(j:G))=i+j:=O;have s:E ((gP a b p v m n k).1.set i d) i 0=d:=by rw[aM,List.getElem?_set_self O];rfl
    have Xw:Z ((gP a b p v m n k).1.set i d)=m:=by rw[ru];exact K.1
    refine aD<|M<|ay<|I J<|rt J ?_ (hp:=jJ);refine bH<|rt J<|aS (j+1) g Qe<|wk (bJ J) ⟨bE J J,bE J J,bE J J,bE J J,bE J ?_,bE J J,A⟩;rw[tb,W,<-aiS _ (p-d) _ p U O gb B];have e2:aw .u64 (p-E ((gP a b p v m n k).1.set i d) (af (i:G)) 0)=p-d:=by rw[b6,s,wrap_u64 _ O O]
    rw[<-e2];rfl
   .have g:¬j<Z b:=by simpa using g
    have e:j=Z b:=O;subst e;refine bh<|bH<|rt J<|aS (k+1) h3 (O:m-(k+1)<m-k)<|wk ⟨sR J,sR J,sR J,sR J,sR J,sR J,sR J,sR J,sE J ?_,A⟩ ⟨bE J J,bE J J,bE J J,bE J J,bE J ?_,bE J ?_,A⟩
    .exact a6 y O
    .rw[gP,q,hc]
    .rw[gP,q,hc]
  .have h3:¬k<m:=by have h3:¬(m:G)-1-k>=0:=zy;omega
   have e:k=m:=O;subst e;refine bh<|aI<|c8 1002000 J J J<|c8 5004000 J J J<|bw J J (Xs ((gP a b p v k n k).2.take n) p Gd) J<|cJ J
def sm(f:Y->G):Y->G
 |0=>0
 |k+1=>sm f k+f k
def KS(a B:Y->G)(n:Y):∀k,jK a B n k=sm (λi=>a i*B (n-i)) k
 |0=>rfl
 |k+1=>by rw[jK,sm,KS a B n k]
def fN{f g:Y->G}:∀{k:Y},(∀i,i<k->f i=g i)->sm f k=sm g k
 |0,_=>rfl
 |k+1,a=>by rw[sm,sm,fN<|λi d=>a i O,a k O]
def o0{f:Y->G}{k}(a:∀i,i<k->f i=0):sm f k=0:=by
 induction k with
 |zero=>rfl
 |succ k d=>rw[sm,d<|λi e=>a i O,a k O];rfl
def KT(f g:Y->G):∀k,sm (λi=>f i+g i) k=sm f k+sm g k
 |0=>rfl
 |k+1=>by simp only[sm,KT f g k];omega
def ym(a:G)(f:Y->G):∀k,sm (λi=>a*f i) k=a*sm f k
 |0=>by simp[sm]
 |k+1=>by simp only[sm,ym a f k,nq]
def Qh a(f:Y->G) k:sm (λi=>f i*a) k=sm f k*a:=by rw[et,<-ym];exact fN<|λi _=>et _ _
def Xx(f:Y->G):∀k,sm f (k+1)=f 0+sm (λi=>f<|i+1) k
 |0=>by simp[sm]
 |k+1=>by rw[sm,Xx f k,sm];omega
def Xy(f:Y->G):∀k,sm f k=sm (λi=>f<|k-1-i) k
 |0=>rfl
 |k+1=>by rw[sm,Xy f k,Xx<|λi=>f<|k+1-1-i];have:sm (λi=>f<|k+1-1-(i+1)) k=sm (λi=>f<|k-1-i) k:=fN (λi _=>by congr 1;omega);rw[this,(O:k+1-1-0=k)];omega
def Xz(F:Y->Y->G):∀n,sm (λi=>sm (λa=>F i a)<|i+1) n=sm (λa=>sm (λk=>F (a+k) a)<|n-a) n
 |0=>rfl
 |n+1=>by
  rw[sm,Xz F n];have d:sm (λa=>sm (λk=>F (a+k) a)<|n+1-a) n=sm (λa=>sm (λk=>F (a+k) a) (n-a)+F n a) n:=by refine fN<|λa e=>?_;rw[(O:n+1-a=(n-a)+1),sm,(O:a+(n-a)=n)]
  rw[show sm (λa=>sm (λk=>F (a+k) a)<|n+1-a) (n+1)=sm (λa=>sm (λk=>F (a+k) a)<|n+1-a) n+sm (λk=>F (n+k) n) (n+1-n)from J,d,KT];rw[(O:n+1-n=1),show sm (λa=>F n a) (n+1)=sm (λa=>F n a) n+F n n from J,show sm (λk=>F (n+k) n) 1=0+F (n+0) n from J,iR];have f:sm (λa=>F n a) n=sm (F n) n:=rfl;omega
def PS:Type:=Y->G
namespace PS
instance:Add PS:=⟨λA B i=>A i+B i⟩
instance:Mul PS:=⟨λA B=>conv A B⟩
instance:Neg PS:=⟨λA i=> -(A i)⟩
instance:_root_.Sub PS:=⟨λA B i=>A i-B i⟩
instance:OfNat PS 0:=⟨λ_=>(0:G)⟩
instance:OfNat PS 1:=⟨λi=>if i=0 then(1:G)else 0⟩
def K(a:G):PS:=λi=>if i=0 then a else 0
def X(k:Y):PS:=λi=>if i=k then 1 else 0
def ext{a B:PS}(d:∀i,a i=B i):a=B:=funext d
def eI(a B:PS) i:(a+B) i=a i+B i:=rfl
def Gk(a:PS) i:(-a) i= -(a i):=rfl
def uC(a B:PS) i:(a-B) i=a i-B i:=rfl
def lL i:(0:PS) i=0:=rfl
def e9(a B:PS) n:(a*B) n=sm (λi=>a i*B (n-i)) (n+1):=KS a B n<|n+1
def add_comm(a B:PS):a+B=B+a:=ext λi=>ux _ _
def add_assoc(a B C:PS):a+B+C=a+(B+C):=ext λi=>Int.add_assoc _ _ _
def zero_add(a:PS):0+a=a:=ext λi=>Ap _
def add_zero(a:PS):a+0=a:=ext λi=>qm _
def add_neg(a:PS):a+ -a=0:=ext λi=>Int.add_right_neg _
def XA(a:PS): -a+a=0:=ext λi=>Int.add_left_neg _
def sub_def(a B:PS):a-B=a+ -B:=ext λi=>P0
def neg_zero: -(0:PS)=0:=rfl
def neg_add(a B:PS): -(a+B)= -a+ -B:=ext λi=>Int.neg_add
def mul_comm(a B:PS):a*B=B*a:=by
 refine ext λn=>?_
 rw[e9,e9,Xy];refine fN<|λi d=>?_;rw[et];congr 1<;>congr 1<;>omega
def mul_add(a B C:PS):a*(B+C)=a*B+a*C:=by
 refine ext λn=>?_
 rw[eI,e9,e9,e9,<-KT];exact fN (λi _=>by rw[eI,nq])
def add_mul(a B C:PS):(a+B)*C=a*C+B*C:=by rw[mul_comm,mul_add,mul_comm C a,mul_comm C B]
def mul_assoc(a B C:PS):a*B*C=a*(B*C):=by
 refine ext λn=>?_
 rw[e9,e9];have d:sm (λi=>(a*B) i*C (n-i)) (n+1)=sm (λi=>sm (λj=>a j*B (i-j)*C (n-i))<|i+1) (n+1):=fN (λi _=>by rw[e9,Qh]);rw[d,Xz<|λi j=>a j*B (i-j)*C (n-i)];refine fN<|λj e=>?_;rw[e9,<-ym,(O:n+1-j=n-j+1)];refine fN<|λk f=>?_;rw[iF,(O:j+k-j=k),(O:n-(j+k)=n-j-k)]
def mul_zero(a:PS):a*0=0:=by
 refine ext λn=>?_
 rw[e9];exact o0 (λi _=>by rw[lL,gy])
def zero_mul(a:PS):0*a=0:=by rw[mul_comm,mul_zero]
def mq k a i:(X k*a) i=if k<=i then a (i-k)else 0:=by
 rw[e9];by_cases h:k<=i
 .rw[ao h];have e:sm (λj=>X k j*a (i-j)) (i+1)=X k k*a (i-k):=by have:=Ku (X k) a i k (i+1) O (λj _ d=>by simp[X,d]);exact(KS (X k) a i<|i+1).symm.trans this
  rw[e];simp[X]
 .rw[w h];exact o0 (λj d=>by simp[X,(O:j≠k)])
def eW a d i:(K a*d) i=a*d i:=by rw[e9];have:=Ku (K a) d i 0 (i+1) O (λj _ e=>by simp[K,e]);rw[show sm (λj=>K a j*d (i-j)) (i+1)=K a 0*d (i-0)from(KS (K a) d i<|i+1).symm.trans this];simp[K]
def Gn:(1:PS)=K 1:=rfl
def o4:K 0=0:=ext λi=>by simp[K,lL]
def one_mul(a:PS):1*a=a:=ext λi=>by rw[Gn,eW,jR]
def mul_one(a:PS):a*1=a:=by rw[mul_comm,one_mul]
def neg_eq a: -a=K (-1)*a:=ext λi=>by rw[eW,Gk];omega
def neg_mul(a B:PS): -a*B= -(a*B):=by rw[neg_eq,neg_eq<|a*B,mul_assoc]
def mul_neg(a B:PS):a* -B= -(a*B):=by rw[mul_comm,neg_mul,mul_comm B a]
def C6 a d:K (a+d)=K a+K d:=ext λi=>by rw[eI];unfold K;split<;>rfl
def yn a d:K (a*d)=K a*K d:=ext λi=>by rw[eW];unfold K;split<;>simp
def KU a k:X (a+k)=X a*X k:=ext λi=>by
 rw[mq];unfold X;by_cases h:a<=i
 .rw[ao h];by_cases h2:i=a+k
  .rw[ao h2,ao O]
  .rw[w h2,w O]
 .rw[w h,w O]
instance:Std.Associative (α:=PS) (·+·):=⟨add_assoc⟩
instance:Std.Commutative (α:=PS) (·+·):=⟨add_comm⟩
instance:Std.Associative (α:=PS) (·*·):=⟨mul_assoc⟩
instance:Std.Commutative (α:=PS) (·*·):=⟨mul_comm⟩
end PS
def ps(a:V G):PS:=λi=>E a i 0
def cy a i:ps a i=E a i 0:=rfl
def Cg(m:G)(a B:PS):Prop:=∃U:PS,a=B+PS.K m*U
def Cg.at{m}{a B}(d:Cg m a B) i:a i%m=B i%m:=by obtain⟨U,rfl⟩:=d;rw[PS.eI,PS.eW];exact Kh _ _ _
def Cg.of{m}{a B}(d:∀i,a i%m=B i%m):Cg m a B:=by
 let U:PS:=λi=>a i/m-B i/m
 refine⟨U,PS.ext λi=>?_⟩;have f:=mZ (a i) m;have g:=mZ (B i) m;have:=d i;have e:U i=a i/m-B i/m:=rfl;rw[PS.eI,PS.eW,e,CY];omega
def Cg.dvd{m}{a B}(d:Cg m a B) i:m∣a i-B i:=by obtain⟨U,rfl⟩:=d;rw[PS.eI,PS.eW];exact⟨U i,O⟩
def Cg.Qi{m}{a B}(d:∀i,m∣a i-B i):Cg m a B:=Cg.of λi=>Qj.2<|At<|d i
def Cg.refl m a:Cg m a a:=⟨0,by rw[PS.mul_zero,PS.add_zero]⟩
def Cg.of_eq{m}{a B}(d:a=B):Cg m a B:=d▸Cg.refl m a
def Cg.symm{m}{a B}(d:Cg m a B):Cg m B a:=Cg.of λi=>(d.at i).symm
def Cg.trans{m}{a B C}(d:Cg m a B)(k:Cg m B C):Cg m a C:=Cg.of λi=>(d.at i).trans<|k.at i
def Cg.add{m}{a B C d}(e:Cg m a B)(k:Cg m C d):Cg m (a+C) (B+d):=by obtain⟨U,rfl⟩:=e;obtain⟨V,rfl⟩:=k;exact⟨U+V,by rw[PS.mul_add];ac_rfl⟩
def Cg.neg{m}{a B}(d:Cg m a B):Cg m (-a) (-B):=by obtain⟨U,rfl⟩:=d;exact⟨-U,by rw[PS.neg_add,PS.mul_neg]⟩
def Cg.sub{m}{a B C d}(e:Cg m a B)(k:Cg m C d):Cg m (a-C) (B-d):=by rw[PS.sub_def,PS.sub_def];exact e.add k.neg
def Cg.mul{m}{d B C a}(e:Cg m d B)(k:Cg m C a):Cg m (d*C) (B*a):=by obtain⟨U,rfl⟩:=e;obtain⟨V,rfl⟩:=k;refine⟨B*V+U*a+PS.K m*U*V,?_⟩;simp only[PS.mul_add,PS.add_mul];ac_rfl
def Cg.Gq{m}a{C d}(k:Cg m C d):Cg m (a*C) (a*d):=(Cg.refl m a).mul k
def Cg.Au{m}{a B}(k:Cg m a B) C:Cg m (a*C) (B*C):=k.mul<|Cg.refl m C
def Cg.XB{m}a{C d}(k:Cg m C d):Cg m (a+C) (a+d):=(Cg.refl m a).add k
def Cg.C7{m}{a B}(k:Cg m a B) C:Cg m (a+C) (B+C):=k.add<|Cg.refl m C
def Cg.K{m a d}(e:a%m=d%m):Cg m (PS.K a) (PS.K d):=Cg.of λi=>by
 unfold PS.K;split
 .exact e
 .rfl
def Dl(p:G)(n:Y)(a:PS):Prop:=∀i,n<=i->a i%p=0
def Dl.cg{p}{n}{a B}(d:Dl p n a)(k:Cg p a B):Dl p n B:=λi e=>by rw[<-k.at i];exact d i e
def Dl.le{p}{n m}{a}(d:Dl p n a)(k:n<=m):Dl p m a:=λi e=>d i O
def Dl.add{p}{n}{a B}(e:Dl p n a)(k:Dl p n B):Dl p n (a+B):=λi d=>by rw[PS.eI,Gs,e i d,k i d];rfl
def Dl.neg{p}{n}{a}(d:Dl p n a):Dl p n (-a):=λi e=>by rw[PS.Gk];exact At<|Int.dvd_neg.2<|C8<|d i e
def Dl.sub{p}{n}{a B}(d:Dl p n a)(k:Dl p n B):Dl p n (a-B):=by rw[PS.sub_def];exact d.add k.neg
def XC{p}{f:Y->G}{k}(a:∀i,i<k->f i%p=0):sm f k%p=0:=by
 induction k with
 |zero=>exact gA _
 |succ k d=>rw[sm,Gs,d<|λi e=>a i O,a k O];rfl
def KV{p a d:G}(e:a%p=0):a*d%p=0:=by rw[o5,e,mj,gA]
def KW{p a d:G}(e:d%p=0):a*d%p=0:=by rw[et];exact KV e
def Dl.mul{p}{n m}{d B}(e:Dl p (n+1) d)(k:Dl p m B):Dl p (n+m) (d*B):=λi f=>by
 rw[PS.e9];refine XC<|λj g=>?_;by_cases a:n+1<=j
 .exact KV<|e j a
 .exact KW<|k (i-j) O
def Dl.mul'{p}{n m}{a B}(d:Dl p n a)(k:Dl p m B):Dl p (n+m) (a*B):=by
 cases n with
 |zero=>
  intro i e
  rw[PS.e9]
  exact XC<|λj f=>KV<|d j<|a8 _
 |succ n=>exact(d.mul k).le O
def Dl.top{p}{n m}{a B}(e:Dl p (n+1) a)(k:Dl p (m+1) B):(a*B) (n+m)%p=a n*B m%p:=by
 rw[PS.e9];have:∀r,r<=n+m+1->sm (λi=>a i*B (n+m-i)) r%p=if n<r then a n*B m%p else 0:=by
  intro r g;induction r with
  |zero=>simp[sm]
  |succ r f=>
   rw[sm,Gs,f O]
   by_cases d:n<r
   .rw[ao d,ao O,KV<|e r O,qm,lM]
   .rw[w d];by_cases h2:n=r
    .subst h2;rw[ao O,Ap,lM,(O:n+m-n=m)]
    .rw[w O,KW<|k _ O];rfl
 rw[this _ (aW _),ao O]
def aiV{p}{a}(d:Dl p 0 a):Cg p a 0:=Cg.of λi=>by rw[d i (a8 _),PS.lL,gA]
def kf p a:Dl p (Z a) (ps a):=λi d=>by rw[cy,aM,jP d];simp
def aiW p k:Dl p (k+1) (PS.X k):=λi a=>by unfold PS.X;rw[w O];simp
def Qk p a:Dl p 1 (PS.K a):=λi d=>by unfold PS.K;rw[w O];simp
def aiX p n:Dl p n 0:=λi _=>by rw[PS.lL,gA]
def XD p:Dl p 1 1:=Qk p 1
def dy(p:Y):Prop:=2<=p/\∀d,2<=d->d*d<=p->p%d≠0
def dy.C9{p d}(f:dy p)(i:d∣p):d=1\/d=p:=by
 let ⟨e,he⟩:=i;have l:=f.1;have m:d≠0:=by intro a;subst a;simp at he;omega
 have a:e≠0:=by intro a;subst a;simp at he;omega
 by_cases d1:d=1
 .exact .inl d1
 by_cases k:e=1
 .subst k;right;omega
 exfalso;by_cases g:d<=e
 .exact f.2 d O (by rw[he];exact ia d g) (by rw[he];exact Nat.mul_mod_right d e)
 .exact f.2 e O (by rw[he];exact ef e O) (by rw[he];exact Nat.mul_mod_left d e)
def dy.coprime{p a}(d:dy p)(f:¬p∣a):Nat.Coprime p a:=by
 rcases d.C9 (Nat.gcd_dvd_left p a)with e|e
 .exact e
 .exact absurd (e▸Ql p a) f
def dy.dvd_mul{p a b}(e:dy p)(f:p∣a*b):p∣a\/p∣b:=by
 by_cases d:p∣a
 .exact .inl d
 .exact .inr<|(e.coprime d).dvd_of_dvd_mul_left f
def dy.XE{p}{a d}(f:dy p)(g:(p:G)∣a*d):(p:G)∣a\/(p:G)∣d:=by
 have:p∣aA a*aA d:=by rw[<-qv];have:=Gt.2 g;rwa[ob]at this
 rcases f.dvd_mul this with e|e
 .exact .inl (Gt.1<|by rwa[ob])
 .exact .inr (Gt.1<|by rwa[ob])
def dy.o6{p}{a d}(f:dy p)(g:a%(p:G)≠0)(i:d%(p:G)≠0):a*d%(p:G)≠0:=λe=>by
 rcases f.XE (C8 e)with e|e
 .exact g<|At e
 .exact i<|At e
def ch:Y->Y->Y
 |_,0=>1
 |0,_+1=>0
 |n+1,k+1=>ch n k+ch n (k+1)
def qx n:ch n 0=1:=by cases n<;>rfl
def yo:∀(n k:Y),n<k->ch n k=0
 |0,0,a=>by omega
 |0,k+1,_=>rfl
 |n+1,0,a=>by omega
 |n+1,k+1,a=>by rw[ch,yo n k O,yo n (k+1) O]
def Gu:∀n,ch n n=1
 |0=>rfl
 |n+1=>by rw[ch,Gu n,yo n (n+1) O]
def KX:∀(n k:Y),(k+1)*ch (n+1) (k+1)=(n+1)*ch n k
 |0,0=>rfl
 |0,k+1=>by rw[yo 1 (k+1+1) O];rfl
 |n+1,0=>by have:=KX n 0;rw[qx]at this;rw[show ch (n+1+1) (0+1)=ch (n+1) 0+ch (n+1) (0+1)from J,qx];omega
 |n+1,k+1=>by have a:=KX n k;have d:=KX n<|k+1;rw[ch,uD,d];rw[(EV:(k+1+1)*ch (n+1) (k+1)=(k+1)*ch (n+1) (k+1)+ch (n+1) (k+1)),a];rw[show ch (n+1) (k+1)=ch n k+ch n (k+1)from J];grind
def dy.aiY{p k}(a:dy p)(f:0<k)(g:k<p):p∣ch p k:=by
 obtain⟨n,rfl⟩:∃n,p=n+1:=⟨p-1,O⟩;obtain⟨j,rfl⟩:∃j,k=j+1:=⟨k-1,O⟩;have d:n+1∣(j+1)*ch (n+1) (j+1):=⟨ch n j,KX n j⟩;rcases a.dvd_mul d with e|e
 .have:=uE O e;omega
 .exact e
def pw(a:PS):Y->PS
 |0=>1
 |n+1=>pw a n*a
def sP(f:Y->PS):Y->PS
 |0=>0
 |k+1=>sP f k+f k
def Qm{f g:Y->PS}:∀{k:Y},(∀i,i<k->f i=g i)->sP f k=sP g k
 |0,_=>rfl
 |k+1,a=>by rw[sP,sP,Qm<|λi d=>a i O,a k O]
def XF(f g:Y->PS):∀k,sP (λi=>f i+g i) k=sP f k+sP g k
 |0=>(PS.add_zero 0).symm
 |k+1=>by simp only[sP,XF f g k];ac_rfl
def Qn(f:Y->PS)(a:PS):∀k,sP (λi=>f i*a) k=sP f k*a
 |0=>(PS.zero_mul a).symm
 |k+1=>by simp only[sP,Qn f a k,PS.add_mul]
def KY(f:Y->PS):∀k,sP f (k+1)=f 0+sP (λi=>f<|i+1) k
 |0=>by simp only[sP];exact PS.add_comm _ _
 |k+1=>by rw[sP,KY f k,sP,PS.add_assoc]
def aiZ{m}{f:Y->PS}{k}(a:∀i,i<k->Cg m (f i) 0):Cg m (sP f k) 0:=by
 induction k with
 |zero=>exact Cg.refl m _
 |succ k d=>
  have:=(d<|λi e=>a i O).add<|a k O
  rwa[PS.add_zero]at this
def XG(a B:PS):∀n,pw (a+B) n=sP (λk=>PS.K (ch n k)*(pw a k*pw B (n-k))) (n+1)
 |0=>by rw[show sP (λk=>PS.K (ch 0 k)*(pw a k*pw B (0-k))) (0+1)=0+1*(1*1)from J,PS.zero_add,PS.mul_one,PS.mul_one];rfl
 |n+1=>by
  rw[pw,XG a B n,PS.mul_add,<-Qn,<-Qn];rw[KY (λk=>PS.K (ch (n+1) k)*(pw a k*pw B (n+1-k))) (n+1)];have d:sP (λi=>PS.K (ch (n+1)<|i+1)*(pw a (i+1)*pw B (n+1-(i+1)))) (n+1)=sP (λi=>PS.K (ch n i)*(pw a i*pw B (n-i))*a) (n+1)+sP (λi=>PS.K (ch n<|i+1)*(pw a (i+1)*pw B (n-i))) (n+1):=by rw[<-XF];refine Qm<|λi _=>?_;rw[(O:n+1-(i+1)=n-i),ch,wh,PS.C6,PS.add_mul,pw];ac_rfl
  have e:sP (λi=>PS.K (ch n i)*(pw a i*pw B (n-i))*B) (n+1)=PS.K (ch (n+1) 0)*(pw a 0*pw B (n+1-0))+sP (λi=>PS.K (ch n<|i+1)*(pw a (i+1)*pw B (n-i))) (n+1):=by
   rw[KY,show sP (λi=>PS.K (ch n<|i+1)*(pw a (i+1)*pw B (n-i))) (n+1)=sP (λi=>PS.K (ch n<|i+1)*(pw a (i+1)*pw B (n-i))) n+PS.K (ch n<|n+1)*(pw a (n+1)*pw B (n-n))from J];rw[yo n (n+1) O,qx,qx,show PS.K ((0:Y):G)=0 from PS.o4,PS.zero_mul,PS.add_zero];have f:sP (λi=>PS.K (ch n<|i+1)*(pw a (i+1)*pw B (n-(i+1)))*B) n=sP (λi=>PS.K (ch n<|i+1)*(pw a (i+1)*pw B (n-i))) n:=by refine Qm<|λi l=>?_;rw[(O:n-i=n-(i+1)+1),pw.eq_2 B];ac_rfl
   rw[f];have g:pw B (n+1-0)=pw B (n-0)*B:=rfl;rw[g];ac_rfl
  rw[d,e];ac_rfl
def dy.Gv{p}(h:dy p) a B:Cg p (pw (a+B) p) (pw a p+pw B p):=by
 rw[XG];obtain⟨n,rfl⟩:∃n,p=n+1:=⟨p-1,Av⟩;rw[sP,KY];rw[Gu,qx,(O:n+1-(n+1)=0),C'];have e:Cg ((n+1:Y):G) (sP (λi=>PS.K (ch (n+1)<|i+1)*(pw a (i+1)*pw B (n+1-(i+1)))) n) 0:=by refine aiZ<|λi m=>?_;have d:=h.aiY (k:=i+1) O O;have:Cg ((n+1:Y):G) (PS.K (ch (n+1) (i+1):Y)) (PS.K 0):=Cg.K (by rw[gA];exact At<|wz.2 d);rw[PS.o4]at this;have f:=this.Au<|pw a (i+1)*pw B (n+1-(i+1));rwa[PS.zero_mul]at f
 have g:PS.K ((1:Y):G)*(pw a 0*pw B (n+1))=pw B (n+1):=by rw[show PS.K ((1:Y):G)=1 from J,PS.one_mul,show pw a 0=1 from J,PS.one_mul]
 have l:PS.K ((1:Y):G)*(pw a (n+1)*pw B 0)=pw a (n+1):=by rw[show PS.K ((1:Y):G)=1 from J,PS.one_mul,show pw B 0=1 from J,PS.mul_one]
 rw[g,l];have:=((Cg.refl ((n+1:Y):G)<|pw B<|n+1).add e).add<|Cg.refl _<|pw a<|n+1;rw[PS.add_zero]at this;rw[PS.add_comm (pw a<|n+1)];exact this
def Qo(a:G):∀n,pw (PS.K a) n=PS.K (a^n)
 |0=>by rw[n7];rfl
 |n+1=>by rw[pw,Qo a n,<-PS.yn,fb]
def XH:∀n,pw 1 n=1
 |0=>rfl
 |n+1=>by rw[pw,XH n,PS.mul_one]
def dy.Da{p:Y}(h:dy p):∀a:Y,((a:G)^p)%(p:G)=(a:G)%(p:G)
 |0=>by obtain⟨n,rfl⟩:∃n,p=n+1:=⟨p-1,Av⟩;rw[fb];simp
 |a+1=>by
  have f:=h.Da a;have d:=(h.Gv (PS.K (a:G)) 1).at 0;rw[show PS.K (a:G)+1=PS.K ((a+1:Y):G)by rw[PS.Gn,<-PS.C6];rfl,Qo,XH,PS.eI,Qo]at d;have e:∀c:G,PS.K c 0=c:=λc=>by simp[PS.K]
  rw[e,e,PS.Gn,e,Gs,f,<-Gs]at d;exact d
def dy.ai0{p a}(h:dy p)(d:¬p∣a):a^(p-1)%p=1:=by
 have f:=h.Da a;obtain⟨n,rfl⟩:∃n,p=n+1:=⟨p-1,Av⟩;have g:((n+1:Y):G)∣(a:G)*((a:G)^n-1):=by rw[CY,mm,et,<-fb];exact C8<|Qj.1 f
 rcases h.XE g with e|e
 .exact absurd (wz.1 e) d
 .have h3:((a:G)^n)%((n+1:Y):G)=1%((n+1:Y):G):=Qj.2<|At e;have i:(1:G)%((n+1:Y):G)=1:=gx T Av;rw[i]at h3;simp only[eh];have:((a^n%(n+1):Y):G)=1:=zy;omega
def dy.inv{p a}(d:dy p)(e:¬p∣a):a*(a^(p-2)%p)%p=1:=by rw[Db,Nat.mod_mod,<-Db];have:=d.ai0 e;have f:=d.1;rwa[(O:p-1=p-2+1),fp,gO]at this
def Qp:∀(f d a n p:Y),n<2^f->d<p->qt f d a n p=d*a^n%p
 |0,d,a,n,p,h,e=>by have:n=0:=dL;subst this;rw[qt,oY,qj,n5 e]
 |f+1,d,a,n,p,h,e=>by
  rw[qt];split
  .rename_i k;subst k;rw[oY,qj,n5 e]
  .have l:0<p:=by omega
   have g:n/2<2^f:=by rw[fp]at h;omega
   have i:(a*a%p)^(n/2)%p=a^(2*(n/2))%p:=by rw[<-Nat.pow_mod,<-Nat.pow_two,Dc]
   split
   .rename_i m;rw[Qp f _ _ _ _ g (fg _ l),Db,i,<-Db,Nat.mod_mul_mod];have:a^n=a*a^(2*(n/2)):=by rw[gO,<-fp];congr 1;omega
    rw[this,uB]
   .rename_i m;rw[Qp f _ _ _ _ g e,Db,i,<-Db];have:2*(n/2)=n:=O;rw[this]
def ai1 a n p(d:n<18446744073709551616)(e:1<p):s' a n p=a^n%p:=by rw[s',Qp _ _ _ _ _ d<|fg _ O,n5 e,iT,<-Nat.pow_mod]
def XI a p(d:p<18446744073709551616)(e:1<p):iB a p=a^(p-2)%p:=ai1 a (p-2) p O e
def Qq(n:Y):Y->Bool:=λk=>Nat.rec (motive:=λ_=>Bool) ae (λi a=>match Nat.beq (n%(i+2)) 0 with|true=>ah|false=>a) k
def XJ{n:Y}:∀{k:Y},Qq n k=ae->∀d,2<=d->d<k+2->n%d≠0
 |0,_,d,h2,g=>by omega
 |k+1,i,d,h2,g=>by
  have a:(match Nat.beq (n%(k+2)) 0 with|true=>ah|false=>Qq n k)=ae:=i;split at a
  .cases a
  .rename_i f;by_cases e:d=k+2
   .subst e;intro l;rw[l]at f;cases f
   .exact XJ a d h2 O
def ai2:Qq 2147483647 46340=ae:=dN
def ai3:dy 2147483647:=⟨T,λd a f=>XJ ai2 d a (by
 by_cases e:d<46342
 .exact e
 .have:46342*46342<=d*d:=mn O O;omega)⟩
def XK:∀(m n:Y),m+n=2147483647->0<m->∃p,dy p/\n<p/\p<=2147483647/\∀q,n<q->q<p->¬dy q
 |0,_,_,d=>by omega
 |m+1,n,d,_=>by
  by_cases e:dy (n+1)
  .exact⟨n+1,e,O,O,λq a f=>O⟩
  .by_cases g:m=0
   .subst g;have:n+1=2147483647:=O;rw[this]at e;exact absurd ai3 e
   .let ⟨p,a,f,i,k⟩:=XK m (n+1) O O;refine⟨p,a,O,i,λq s l=>?_⟩;by_cases o:q=n+1
    .rw[o];exact e
    .exact k q O l
def XL n(k:dy n)(t:n<=2147483647):r z 204 [cU n] (cB ae):=by
 refine aJ Tryz.func204 ?_;have u:=k.1;refine I J<|M<|R<|rg 6 J J (λg=>?_)<|λg=>?_
 .exfalso;have g:(n:G)<2:=aT g;omega
 refine j J<|c J (λl=>?_)<|λ_=>aD ?_
 .exfalso;have l:(n:G)>2147483647:=aT l;omega
 refine M<|I J<|ay<|bf (α:=Y) (λd=>⟨[(0,cU n),(3,cU d)],[],4,[]⟩) (λd=>2<=d/\(d-1)*(d-1)<=n) (λd=>n+2-d) 2 ⟨T,O⟩ aU ?_;rintro d ⟨m,o⟩;have f:d<65536:=by
  by_cases e:d<65536
  .exact e
  .have:65535*65535<=(d-1)*(d-1):=mn O O;omega
 have p:d*d<4294967296:=KL f f;have q:aw .u64 ((d:G)*(d:G))=((d*d:Y):G):=by rw[<-eY,wrap_u64 _ O O]
 refine M<|I J<|c J (λa=>?_)<|λa=>?_
 .have a:aw .u64 ((d:G)*(d:G))<=(n:G):=aT a;rw[q]at a;have a:d*d<=n:=O;have s:=k.2 d m a;refine aD (M<|ay<|I J (hp:=aF)<|c J (λi=>?_)<|λ_=>c7<|bH ?_)
  .exfalso;have i:(n:G).tmod (d:G)=0:=eq_of_beq i;rw[lJ]at i;omega
  .have:d<=n:=bQ (KZ d O) a;refine rt J<|aS (d+1) ⟨O,by rw[eh];exact a⟩ (O:n+2-(d+1)<n+2-d)<|wk ⟨sR J,sE J ?_,A⟩ A;refine bK ?_;show aw .u64 ((d:G)+1)=((d+1:Y):G);rw[wrap_u64 _ O O];omega
 .exact bh<|aI<|I J<|cJ J
def ai4 n(s:¬dy n)(v:n<=2147483647):r z 204 [cU n] (cB ah):=by
 refine aJ Tryz.func204 ?_;refine I J<|M<|R<|rg 6 J J (λi=>?_)<|λi=>?_
 .exact j J (c J (λ_=>I J<|bI<|cG<|atR J)<|λl=>by cases l)
 have p:2<=n:=by have i:¬(n:G)<2:=a4 i;omega
 refine j J<|c J (λl=>?_)<|λ_=>aD ?_
 .exfalso;have l:(n:G)>2147483647:=aT l;omega
 refine M<|I J<|ay<|bf (α:=Y) (λd=>⟨[(0,cU n),(3,cU d)],[],4,[]⟩) (λd=>2<=d/\(d-1)*(d-1)<=n/\∀k,2<=k->k<d->n%k≠0) (λd=>n+2-d) 2 ⟨T,O,λk m p=>O⟩ aU ?_;rintro d ⟨x,t,f⟩;have g:d<65536:=by
  by_cases e:d<65536
  .exact e
  .have:65535*65535<=(d-1)*(d-1):=mn O O;omega
 have u:d*d<4294967296:=KL g g;have q:aw .u64 ((d:G)*(d:G))=((d*d:Y):G):=by rw[<-eY,wrap_u64 _ O O]
 refine M<|I J<|c J (λa=>?_)<|λa=>?_
 .have a:aw .u64 ((d:G)*(d:G))<=(n:G):=aT a;rw[q]at a;have a:d*d<=n:=O;refine aD (M<|ay<|I J (hp:=aF)<|c J (λo=>?_)<|λo=>c7<|bH ?_)
  .refine I J<|bI ?_;repeat(first|refine cG ?_|refine kE ?_|refine k8 ?_)
   exact atR J
  .have o:(n:G).tmod (d:G)≠0:=m5 o;rw[lJ]at o;have:d<=n:=bQ (KZ d O) a;refine rt J (aS (d+1) ⟨O,by rw[eh];exact a,λk m p=>?_⟩ (O:n+2-(d+1)<n+2-d)<|wk ⟨sR J,sE J ?_,A⟩ A)
   .by_cases e:k=d
    .subst e;omega
    .exact f k m O
   .refine bK ?_;show aw .u64 ((d:G)+1)=((d+1:Y):G);rw[wrap_u64 _ O O];omega
 .exfalso;have a:¬aw .u64 ((d:G)*(d:G))<=(n:G):=a4 a;rw[q]at a;refine s ⟨p,λk m i=>f k m ?_⟩;by_cases e:k<d
  .exact e
  .have:d*d<=k*k:=mn O O;omega
def ai5 n(k:n<2147483647):∃p,dy p/\n<p/\p<=2147483647/\(∀q,n<q->q<p->¬dy q)/\r z 174 [cU n] (.t [(ah,[.I .u64 p]),(ah,[.I .i64 0])]):=by
 let ⟨p,d,h2,f,g⟩:=XK (2147483647-n) n O O;refine⟨p,d,h2,f,g,?_⟩;refine aJ Tryz.func174 ?_;refine I J<|M<|I J<|c J (λh=>?_)<|λ_=>aD ?_
 .exfalso;have h:(n:G)>=2147483647:=aT h;omega
 refine I J<|M<|ay<|bf (α:=Y) (λq=>⟨[(4,cU q)],[],4,[]⟩) (λq=>n<q/\q<=p) (λq=>p-q) (n+1) ⟨O,O⟩ (wk ⟨sE J ?_,A⟩ A) ?_
 .refine bK ?_;show aw .u64 ((n:G)+1)=((n+1:Y):G);rw[wrap_u64 _ O O];omega
 rintro q ⟨a,i⟩;by_cases e:q=p
 .subst e;refine M<|bw J J (XL q d f) J<|c J (λh=>eV)<|λ_=>?_;exact bh<|aI<|I J<|cJ J
 .refine M<|bw J J (ai4 q (g q a O) O) J<|c J (λ_=>?_)<|λh=>eV;refine aD<|ay<|rt J<|eL<|aS (q+1) ⟨O,O⟩ (O:p-(q+1)<p-q)<|wk ⟨sE J ?_,A⟩ A;refine bK ?_;show aw .u64 ((q:G)+1)=((q+1:Y):G);rw[wrap_u64 _ O O];omega
end Go.El
