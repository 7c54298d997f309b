/- Contracts: products of words. Own work; no condition. -/
import Derived.Test.YtceihkmakfdcnaaGreatD4
import Derived.Test.YtceihkmakfdcnaaGreatD1
set_option linter.all false
set_option maxHeartbeats 16000000
set_option maxRecDepth 100000
open BitVec renaming ofInt->jm
open Bool renaming false->ah,true->ae
open Decidable renaming byContradiction->HX
open Go.El renaming cS->I,rr->N,ja->S,re->z,du->j,jd->r,cI->R,rb->F
open Go.IntKind renaming wrap->ay,bits->dm,signed->Eo
open Go.Proofs.Tryz renaming prog->q
open Int renaming toNat->af,natAbs->aC,ediv_ediv_of_nonneg->akJ,gcd->iu,neg_ediv_of_dvd->akP,pow_nonneg->Zv,fdiv->R8
open List renaming length->Z,getD->E,take->c,replicate->bc,drop->aA
open Nat renaming gcd->nT
open _root_ renaming List->V,Int->G,Nat->Y
namespace Go.El
open Go Go.Proofs Go.RowKit
structure RA(a b:V G)(x:Y×V G):Prop where
 i:x.1<=a.length
 len:x.2.length=a.length+b.length
 r:bT x.2
 z:∀d,x.1+b.length<=d->x.2.getD d 0=0
 v:val x.2=val (a.take x.1)*val b
structure Bx(a b:V G)(i:Y)(x:Y×V G×G):Prop where
 k:x.1<=b.length
 len:x.2.1.length=a.length+b.length
 r:bT x.2.1
 z:∀d,i+b.length<=d->x.2.1.getD d 0=0
 c0:0<=x.2.2
 c1:x.2.2<4294967296
 v:val x.2.1+x.2.2*4294967296^(i+x.1)=val (a.take i)*val b+a.getD i 0*val (b.take x.1)*4294967296^i
def HO{x y:G}(f:0<=x)(a:x<=4294967295)(d:0<=y)(g:y<=4294967295):0<=x*y/\x*y<=18446744065119617025:=by refine⟨jx f d,?_⟩;have i:x*y<=4294967295*y:=hP a d;omega
def Bx.next{a d}{i}{x}(f:Bx a d i x)(H:i<Z a)(l:x.1<Z d)(m:bT a)(n:bT d):Bx a d i (x.1+1,x.2.1.set (i+x.1)<|(E a i 0*E d x.1 0+E x.2.1 (i+x.1) 0+x.2.2)%4294967296,(E a i 0*E d x.1 0+E x.2.1 (i+x.1) 0+x.2.2)/4294967296):=by
 have o:=dt m i;have p:=dt n x.1;have C:=f.c0;have K:=f.c1;have L:=dt f.r<|i+x.1;have M:=HO o.1 O p.1 O;have g:i+x.1<Z x.2.1:=by rw[f.len];omega
 refine⟨l,by simp[f.len],yu f.r _ ⟨O,O⟩,?_,(by show 0<=_/_;omega),(by show _/_<(4294967296:G);omega),?_⟩
 .intro j t;simp only;rw[uk _ _ _ _ g,w O];exact f.z j t
 .simp only;rw[PV _ _ _ g,km,<-rq,fK];have u:=f.v;have k:(4294967296:G)^(i+x.1)=4294967296^i*4294967296^x.1:=Int.pow_add ..;generalize P:(4294967296:G)^(i+x.1)=q at u k⊢;generalize ht:E a i 0*E d x.1 0+E x.2.1 (i+x.1) 0+x.2.2=s;have y:s%4294967296+s/4294967296*4294967296=s:=O;have e:s%4294967296*q+s/4294967296*(q*4294967296)=s*q:=by rw[show s/4294967296*(q*4294967296)=s/4294967296*4294967296*q by grind,<-nI,y]
  have Q:s*q=E a i 0*E d x.1 0*q+E x.2.1 (i+x.1) 0*q+x.2.2*q:=by rw[<-ht];grind
  have A:(s%4294967296-E x.2.1 (i+x.1) 0)*q=s%4294967296*q-E x.2.1 (i+x.1) 0*q:=by grind
  have B:E a i 0*(val (c x.1 d)+E d x.1 0*4294967296^x.1)*4294967296^i=E a i 0*val (c x.1 d)*4294967296^i+E a i 0*E d x.1 0*q:=by rw[k];grind
  rw[A,B];omega
def Bx.done{a f}{i}{o}{l}(d:Bx a f i (Z f,o,l))(m:i<Z a):RA a f (i+1,o.set (i+Z f) l):=by
 have g:Z o=Z a+Z f:=d.len;have n:=d.c0;have p:=d.c1;have s:E o (i+Z f) 0=0:=d.z _<|aO _;refine⟨m,by simp[g],yu d.r _ ⟨n,p⟩,?_,?_⟩
 .intro j t;simp only at t⊢;rw[uk _ _ _ _ O,w O];exact d.z j O
 .simp only;rw[HK _ _ _ O s,km];have k:=d.v;simp only[fR]at k;rw[k];grind
def akB a d(B:bT a)(H:bT d)(la:Z a<=1099511627776)(lb:Z d<=1099511627776):r q 146 [I aq a,I aq d] (I aq<|ao<|af<|val a*val d):=by
 refine aI Tryz.func146 ?_;refine N J<|F ?_;refine rm aq (Z a+Z d) J J J J J J (mI .u32) J ?_ ?_ ?_
 .show _*4<=_;omega
 .show _*1<=_;omega
 refine z J<|j<|N J ?_;refine au<|a8 (α:=Y×V G) (λx=>⟨[(0,I aq a),(1,I aq d),(5,.c<|.X 1005000),(6,R x.1)],[(1005000,.vec 142 aq x.2)],3,[]⟩) (RA a d) (λx=>Z a-x.1) (0,bc (Z a+Z d) 0) ?_ ?_ ?_
 .refine⟨aY _,az,rf _,?_,Bu⟩;intro e _;simp only[aK,lM];split<;>rfl
 .exact wk (bO J) ⟨bR J,h⟩
 .rintro⟨i,o⟩ l;have g:Z o=Z a+Z d:=l.len;refine j<|N J ?_;refine al J (λm=>?_) (λm=>?_)
  .have m:i<Z a:=by simpa using m
   refine aD<|j<|au<|N J<|j<|N J ?_;refine au<|a8 (α:=Y×V G×G) (λx=>⟨[(0,I aq a),(1,I aq d),(5,.c<|.X 1005000),(6,R i),(7,cU x.2.2),(8,R x.1)],[(1005000,.vec 142 aq x.2.1)],6,[]⟩) (Bx a d i) (λx=>Z d-x.1) (0,o,0) ?_ ?_ ?_
   .refine⟨aY _,g,l.r,l.z,hO _,(by show(0:G)<_;decide),?_⟩;have:=l.v;simp only at this;simp[this,val]
   .exact wk (bO J) ⟨bR J,h⟩
   .rintro⟨k,o,c⟩ n;have g:Z o=Z a+Z d:=n.len;have t:0<=c:=n.c0;have u:c<4294967296:=n.c1;refine j<|N J ?_;refine al J (λp=>?_) (λp=>?_)
    .have p:k<Z d:=by simpa using p
     have L:=dt B i;have M:=dt H k;have P:=dt n.r<|i+k;simp only at P;have w:=HO L.1 O M.1 O;refine aD<|j<|au<|N J ?_ (hp:=kv);have f:af ((i:G)+(k:G))=i+k:=O;have C:ay .u64 (ay .u64 (ay .u64 (ay .u64 (E a (af (i:G)) 0)*ay .u64 (E d (af (k:G)) 0))+ay .u64 (E o (af<|(i:G)+(k:G)) 0))+c)=E a i 0*E d k 0+E o (i+k) 0+c:=by rw[f,bY,bY,wrap_u64 (E a i 0) O O,wrap_u64 (E d k 0) O O,wrap_u64 (E o (i+k) 0) O O,wrap_u64 (E a i 0*E d k 0) O O,wrap_u64 (E a i 0*E d k 0+E o (i+k) 0) O O,wrap_u64 _ O O]
     have y:=n.next m p B H;simp only at y;generalize ht:E a i 0*E d k 0+E o (i+k) 0+c=s at y C;have A:ay .u32 (s.tmod 4294967296)=s%4294967296:=by rw[me O,wrap_u32 _ O O]
     have Q:ay .u64 (s.tdiv 4294967296)=s/4294967296:=by rw[uj O,wrap_u64 _ O O]
     refine eP (st':=⟨[(0,I aq a),(1,I aq d),(5,.c<|.X 1005000),(6,R i),(8,R k),(9,cU s)],[(1005000,.vec 142 aq o)],8,[]⟩) (wk ⟨sR J,sR J,sR J,sR J,sR J,sE J ?_,h⟩ ⟨bR J,h⟩) ?_
     .exact bP C
     refine N J<|rt J<|bw<|rt J<|aT (k+1,o.set (i+k)<|s%4294967296,s/4294967296) y (O:Z d-(k+1)<Z d-k)<|wk ⟨sR J,sR J,sR J,sR J,sE J ?_,sE J ?_,h⟩ ⟨bE J ?_,h⟩
     .exact bP Q
     .rfl
     .rw[A,f]
    .have p:¬k<Z d:=by simpa using p
     have T:k=Z d:=by have:=n.k;simp only at this;omega
     subst T;have U:=n.done m;have f:af ((i:G)+(Z d:G))=i+Z d:=O;have A:ay .u32 c=c:=wrap_u32 c t u;refine a7<|aL<|rt J<|bw<|rt J<|aT (i+1,o.set (i+Z d) c) U nS<|wk ⟨sR J,sR J,sR J,sE J ?_,h⟩ ⟨bE J ?_,h⟩
     .rfl
     .rw[A,f]
  .have m:¬i<Z a:=by simpa using m
   have W:i=Z a:=by have:=l.i;simp only at this;omega
   subst W;refine a7<|aL<|cY 1005000 J J J<|F ?_;refine rc J J (y7 _)<|z J<|bU J ?_;have K:=l.v;simp only[fR]at K;rw[oN l.r];simp only[K]
def Sm(a:G):Prop:=Z (eG a)<=1099511627776
def sg(neg:Bool)(m:Y):G:=if neg then-(m:G)else m
def y8 a:sg (cd a) (aC a)=a:=by
 unfold sg cd;by_cases h:a<0
 .simp[h];omega
 .simp[h];omega
def o5{m}:0<Z (ao m)↔m≠0:=by
 constructor
 .intro h e;subst e;simp[Dc]at h
 .intro h;rw[wQ h];simp
def Y6 neg m:(AV.a [.B (neg&&decide (0<Z (ao m))),.S aq<|ao m])=aZ (sg neg m):=by
 have d:cd (sg neg m)=(neg&&decide (0<Z (ao m))):=by
  unfold cd sg;cases neg with
  |false=>simp
  |true=>
   simp only[cj,Bool.true_and]
   rw[Bool.eq_iff_iff]
   simp only[decide_eq_true_eq]
   rw[o5];omega
 have f:aC (sg neg m)=m:=by unfold sg;cases neg<;>simp
 unfold aZ;simp only[av,eG,d,f]
def qC neg m:r q 135 [cB neg,I aq<|ao m] (aZ<|sg neg m):=by have:=akx neg<|ao m;rw[PX,Y6]at this;exact this
def jq n(d: -9223372036854775808<=n)(g:n<=9223372036854775807):r q 84 [R n] (aZ n):=by
 refine aI Tryz.func84 ?_;refine N J<|j<|N J ?_;refine al J (λh=>?_)<|λh=>?_
 .have h:n<0:=by simpa using h
  have e:ay .u64 (ay .u64 (0-(n+1))+1)=(af (-n):Y):=by rw[wrap_u64 (0-(n+1)) O O,wrap_u64 _ O O];omega
  refine F ?_;refine rc J J (f:=136) (r:=I aq<|ao<|af<| -n) (by rw[e];exact Ep _ O) ?_;refine rc J J (qC ae _)<|z J<|bL<|cK<|eJ J ?_;have a:sg ae (af<| -n)=n:=by unfold sg;simp;omega
  rw[a];rfl
 .have h:¬n<0:=by simpa using h
  have e:ay .u64 n=(af n:Y):=by rw[wrap_u64 _ O O];omega
  refine aD<|F ?_;refine rc J J (f:=136) (r:=I aq<|ao<|af n) (by rw[show(AV.c (num .u64 n).1)=cU ((af n:Y):G)from bP e];exact Ep _ O) ?_;refine rc J J (qC ah _)<|z J<|bU J ?_;have a:sg ah (af n)=n:=by unfold sg;simp;omega
  rw[a];rfl
def fB(a:G):G:=if a<0 then-1 else if a=0 then 0 else 1
def By a:r q 94 [aZ a] (R<|fB a):=by
 refine aI Tryz.func94 ?_;refine N J<|j<|N J ?_;refine al J (λh=>?_)<|λh=>?_
 .have h:a<0:=by simpa[cd]using h
  refine N J<|bL<|cK<|eJ J ?_;rw[fB,b h];rfl
 .have h:¬a<0:=by simpa[cd]using h
  refine aD<|N J<|bU J ?_;have e:(if ae=ah then(0:G)else if(1:G)<Z (eG a)then 1 else Z (eG a))=fB a:=by
   rw[w D,fB,w h];by_cases d:a=0
   .subst d;rfl
   .have:0<Z (eG a):=o5.2 O;rw[w d];split<;>omega
  exact je e
def Y7 a:r q 97 [aZ a] (aZ<| -a):=by
 refine aI Tryz.func97 ?_;refine N J<|F ?_;refine rc J J (qC (!cd a)<|aC a)<|z J<|bU J ?_;have d:sg (!cd a) (aC a)= -a:=by
  unfold sg cd;by_cases h:a<0
  .simp[h];omega
  .simp[h];omega
 rw[d];rfl
def HP m k:r q 144 [I aq (ao m),I aq<|ao k] (R<|dR m k):=by have:=aky (ao m) (ao k) (dW m) (dW k) (vk m)<|vk k;rw[eN,eN]at this;exact this
def LS a f:r q 95 [aZ a,aZ f] (R<|dR a f):=by
 refine aI Tryz.func95 ?_;refine N J<|j<|F ?_;refine rg 7 J J (λh=>?_)<|λh=>?_
 .have i:a<0:=by simpa[cd]using h
  refine z J<|al J (λg=>?_)<|λg=>?_
  .have l:¬f<0:=by simpa[cd]using g
   refine N J<|bL<|cK<|eJ J ?_;rw[dR,b O];rfl
  .have l:f<0:=by simpa[cd]using g
   refine aD<|j<|F ?_;refine rg 15 J J (λk=>?_)<|λk=>?_
   .simp[cd,i]at k
   .refine z J<|al J (λd=>by simp at d)<|λ_=>?_;refine aD<|j<|N J ?_;refine al J (λd=>?_) (λd=>?_)
    .refine bt J J (HP _ _) J<|bL<|cK<|eJ J ?_;have e:dR (aC f) (aC a)=dR a f:=by unfold dR;split<;>split<;>(try split)<;>omega
     exact je e
    .simp[cd,i]at d
 .have i:¬a<0:=by simpa[cd]using h
  refine z J<|al J (λg=>by simp at g)<|λg=>?_;refine aD<|j<|F ?_;refine rg 15 J J (λk=>?_)<|λk=>?_
  .refine z J (al J (λd=>?_)<|λd=>?_)
   .have l:f<0:=by simpa[cd]using d
    refine N J<|bL<|cK<|eJ J ?_;rw[dR,w O,b O];rfl
   .have l:¬f<0:=by simpa[cd]using d
    refine aD<|j<|N J ?_;refine al J (λd=>?_)<|λd=>?_
    .simp[cd,i]at d
    .refine aD<|bt J J (HP _ _) J<|bU J ?_;have e:dR (aC a) (aC f)=dR a f:=by unfold dR;split<;>split<;>(try split)<;>omega
     exact je e
  .simp[cd,i]at k
def Y8 m k(a:Z (ao m)<=1099511627776)(d:Z (ao k)<=1099511627776):r q 143 [I aq (ao m),I aq<|ao k] (I aq<|ao<|m+k):=by have:=akz (ao m) (ao k) (dW m) (dW k) a d;rw[eN,eN,(O:af ((m:G)+(k:G))=m+k)]at this;exact this
def s'{m k}(a:m<=k):Z (ao m)<=Z (ao k):=AI (by have:=tI (n:=k);omega)
def RB m k(a:k<=m)(d:Z (ao m)<=1099511627776):r q 145 [I aq (ao m),I aq<|ao k] (I aq<|ao<|m-k):=by have:=akA (ao m) (ao k) (dW m) (dW k) (s' a) (by rw[eN,eN];omega) d;rw[eN,eN,(O:af ((m:G)-(k:G))=m-k)]at this;exact this
def RC m k(a:Z (ao m)<=1099511627776)(d:Z (ao k)<=1099511627776):r q 146 [I aq (ao m),I aq<|ao k] (I aq<|ao<|m*k):=by have:=akB (ao m) (ao k) (dW m) (dW k) a d;rw[eN,eN,show af ((m:G)*(k:G))=m*k by rw[<-fD];rfl]at this;exact this
def kZ a d(l:Sm a)(m:Sm d):r q 91 [aZ a,aZ d] (aZ<|a*d):=by
 refine DS Tryz.func91 J J J J J D ?_;refine N J<|F ?_;refine rc J J (RC _ _ l m)<|rc J J (qC _ _)<|z J<|bL<|ig cv J<|bl.of_eq ?_;have n:sg (cd a !=cd d) (aC a*aC d)=a*d:=by have f:=y8 a;have g:=y8 d;generalize aC a=x at f⊢;generalize aC d=y at g⊢;cases i:cd a<;>cases k:cd d<;>rw[i]at f<;>rw[k]at g<;>simp only[sg,cj,bN,iB]at f g<;>rw[<-f,<-g]<;>simp[sg]<;>grind
 exact be aZ n
def xq a d(k:Sm a)(l:Sm d):r q 90 [aZ a,aZ d] (aZ<|a+d):=by
 refine aI Tryz.func90 ?_;refine N J<|j<|N J ?_;refine al J (λh=>?_)<|λh=>?_
 .have h:cd a=cd d:=by simpa using h
  refine F<|rc J J (Y8 _ _ k l)<|rc J J (qC _ _)<|z J<|bL<|cK<|eJ J ?_;have f:sg (cd a) (aC a+aC d)=a+d:=by unfold cd sg at*;by_cases g:a<0<;>by_cases h2:d<0<;>simp[g,h2]at h⊢<;>omega
  exact be aZ f
 .have h:cd a≠cd d:=by simpa using h
  refine aD<|j<|bt J J (HP _ _) J ?_;refine al J (λh2=>?_)<|λh2=>?_
  .have h2:aC a<aC d:=by
    have h2:dR (aC a) (aC d)<0:=qq;unfold dR at h2;split at h2
    .omega
    .split at h2<;>omega
   refine F<|rc J J (RB _ _ O l)<|rc J J (qC _ _)<|z J<|bL<|cK<|eJ J ?_;have f:sg (cd d) (aC d-aC a)=a+d:=by unfold cd sg at*;by_cases g:a<0<;>by_cases i:d<0<;>simp[g,i]at h⊢<;>omega
   exact be aZ f
  .have h2:aC d<=aC a:=by
    have h2:¬dR (aC a) (aC d)<0:=qq;unfold dR at h2;split at h2
    .omega
    .omega
   refine aD<|F<|rc J J (RB _ _ O k)<|rc J J (qC _ _)<|z J<|bU J ?_;have f:sg (cd a) (aC a-aC d)=a+d:=by unfold cd sg at*;by_cases g:a<0<;>by_cases i:d<0<;>simp[g,i]at h⊢<;>omega
   exact be aZ f
def akC(m k:Y)(d:m<18446744073709551616)(f:k<18446744073709551616):r q 184 [cU m,cU k] (cU<|nT m k):=by
 refine aI Tryz.func184 ?_;refine N J<|j<|au<|a8 (α:=Y×Y) (λx=>⟨[(0,cU x.1),(1,cU x.2)],[],1,[]⟩) (λx=>nT x.1 x.2=nT m k/\x.1<18446744073709551616/\x.2<18446744073709551616) (λx=>x.2) (m,k) ⟨J,d,f⟩ aM ?_;rintro⟨x,y⟩ ⟨hg,hx,a⟩;simp only at hg hx a;refine j<|N J ?_;refine al J (λh=>?_)<|λh=>?_
 .have h:0<y:=by have:(y:G)>0:=et;omega
  refine aD<|au<|N J<|N J<|rt J<|eE<|aT (y,x%y) ⟨?_,a,?_⟩ ?_<|wk ⟨sR J,sE J ?_,aX⟩ aX
  .rw[<-hg,y' x y,Nat.gcd_rec y x,y']
  .exact iI (fS _ h)<|yv a
  .exact fS _ h
  .have e:(x:G).tmod (y:G)=((x%y:Y):G):=by rw[me O];omega
   exact bP e
 .have h:y=0:=by have:¬(y:G)>0:=et;omega
  subst h;refine a7<|aL<|N J<|bU J ?_;rw[<-hg,LU]
def Y9 m:E (ao m) 0 0=((m%4294967296:Y):G):=by
 by_cases h:m=0
 .subst h;rfl
 .rw[wQ h];rfl
def akD m(a:m<18446744073709551616):E (ao m) 1 0=((m/4294967296:Y):G):=by
 by_cases h:m=0
 .subst h;rfl
 .rw[wQ h,PW,Y9];congr 1;omega
def RD m(a:m<18446744073709551616):r q 185 [I aq (ao m)] (cU m):=by
 refine aI Tryz.func185 ?_;refine N J<|F ?_;refine rc J J (Bt _ 1<|dW m)<|rc J J (Bt _ 0<|dW m)<|z J<|bU J ?_;have e:ay .u64 (ay .u64 (E (ao m) 1 0*4294967296)+E (ao m) 0 0)=m:=by rw[Y9,akD m a,wrap_u64 (((m/4294967296:Y):G)*4294967296) O O,wrap_u64 _ O O];omega
 exact bP e
def HQ{m}(a:m<18446744073709551616):Z (ao m)<=2:=AI (O:(m:G)<4294967296^2)
structure Es(a:V G)(d:G)(x:Y×V G×G):Prop where
 k:x.1<=a.length
 len:x.2.1.length=a.length
 r:bT x.2.1
 r0:0<=x.2.2
 r1:x.2.2<d
 v:val (a.drop x.1)=val (x.2.1.drop x.1)*d+x.2.2
def drop_cons(l:V G) a(d:a<Z l):aA a l=E l a 0::aA (a+1) l:=by rw[rK d];simp[aK,cO d]
def LV{f a d:G}(i:0<=f)(k:f<d)(l:0<=a)(m:a<4294967296)(n:d<4294967296):0<=f*4294967296+a/\f*4294967296+a<18446744073709551616/\0<=(f*4294967296+a)/d/\(f*4294967296+a)/d<4294967296/\0<=(f*4294967296+a)%d/\(f*4294967296+a)%d<d:=by have g:0<d:=O;refine⟨O,O,yw O O,?_,iN _ O,iO _ g⟩;apply Dg g;have:(f+1)*4294967296<=d*4294967296:=hP O D;omega
def Es.next{a}{d}{f}{m}{i}(l:Es a d (f+1,m,i))(o:bT a)(p:d<4294967296):Es a d (f,m.set f<|(i*4294967296+E a f 0)/d,(i*4294967296+E a f 0)%d):=by have g:=dt o f;have s:0<=i:=l.r0;have t:i<d:=l.r1;have n:=LV s t g.1 g.2 p;have B:f+1<=Z a:=l.k;have u:Z m=Z a:=l.len;refine⟨by show f<=_;omega,by simp[u],yu l.r _ ⟨n.2.2.1,n.2.2.2.1⟩,n.2.2.2.2.1,n.2.2.2.2.2,?_⟩;have A:val (aA (f+1) a)=val (aA (f+1) m)*d+i:=l.v;simp only;rw[drop_cons a f O,drop_cons (m.set f _) f b8,uk _ _ _ _ O,b J,List.drop_set_of_lt O];simp only[val];rw[A];have:=nU (i*4294967296+E a f 0) d;generalize (i*4294967296+E a f 0)/d=x at*;generalize (i*4294967296+E a f 0)%d=y at*;grind
def Y' a d(u:bT a)(n:0<d)(y:d<4294967296)(U:Z a<=1099511627776):r q 217 [I aq a,cU d] (.t [(ah,[.S aq (ao<|af<|val a/d)]),(ah,[.I .u64 (val a%d)])]):=by
 refine aI Tryz.func217 ?_;refine N J<|F ?_;refine rm aq (Z a) J J J J J J (mI .u32) J ?_ ?_ ?_
 .show _*4<=_;omega
 .show _*1<=_;omega
 refine z J<|N J<|du<|N J ?_;refine au<|a8 (α:=Y×V G×G) (λx=>⟨[(0,I aq a),(1,cU d),(6,.c<|.X 1002000),(7,cU x.2.2),(8,R<|(x.1:G)-1)],[(1002000,.vec 142 aq x.2.1)],4,[]⟩) (Es a d) (λx=>x.1) (Z a,bc (Z a) 0,0) ?_ ?_ ?_
 .exact⟨aO _,az,rf _,hO _,n,xr⟩
 .exact wk (bO J) ⟨bR J,h⟩
 .rintro⟨k,l,f⟩ i;have A:Z l=Z a:=i.len;have o:0<=f:=i.r0;have p:f<d:=i.r1;have W:k<=Z a:=i.k;refine du<|N J ?_;refine al J (λm=>?_) (λm=>?_)
  .have m:(k:G)-1>=0:=by simpa using m
   obtain⟨j,rfl⟩:∃j,k=j+1:=⟨k-1,O⟩;have B:af (((j+1:Y):G)-1)=j:=O;have g:=dt u j;have L:=LV o p g.1 g.2 y;have C:=i.next u y;refine aD<|du<|au<|N J ?_;have H:ay .u64 (ay .u64 (f*4294967296)+ay .u64 (E a (af<|((j+1:Y):G)-1) 0))=f*4294967296+E a j 0:=by rw[B,wrap_u64 (f*4294967296) O O,wrap_u64 (E a j 0) O O,wrap_u64 _ O O]
   generalize ht:f*4294967296+E a j 0=s at C L H;have M:ay .u32 (ay .u64<|s.tdiv d)=s/d:=by rw[uj O,wrap_u64 _ O O,wrap_u32 _ O O]
   have P:s.tmod d=s%d:=me O;refine eP (st':=⟨[(0,I aq a),(1,cU d),(6,.c<|.X 1002000),(8,R<|((j+1:Y):G)-1),(9,cU s)],[(1002000,.vec 142 aq l)],6,[]⟩) (wk ⟨sR J,sR J,sR J,sR J,sE J ?_,h⟩ ⟨bR J,h⟩) ?_
   .exact bP H
   refine N J<|rt J<|bw<|rt J<|aT (j,l.set j<|s/d,s%d) C s8<|wk ⟨sR J,sR J,sR J,sE J ?_,sE J ?_,h⟩ ⟨bE J ?_,h⟩
   .exact bP P
   .refine je ?_;show((j+1:Y):G)-1-1=(j:G)-1;omega
   .rw[M,B]
  .have m:¬((k:G)-1>=0):=by simpa using m
   have:k=0:=O;subst this;refine a7<|aL<|cY 1002000 J J J<|F ?_;refine rc J J (y7 _)<|z J<|bU J ?_;have K:val a=val l*d+f:=i.v;have Q:bT l:=i.r;have eq:val a/d=val l:=by rw[K,vS,Bz _ _ O,Et o p];omega
   have T:val a%d=f:=by rw[K,vS,RE,gX o p]
   rw[oN Q,eq,T];rfl
def bl.t2{x i y}(d:bl (.c x) (.c i)):bl (.t [(ah,[x]),(ah,[y])]) (.t [(ah,[i]),(ah,[y])]):=by
 refine⟨?_,?_⟩
 .rintro g v ⟨vs,rfl,v1,r,rfl,k,f⟩;exact⟨_,J,v1,r,J,d.1 g v1 k,f⟩
 .intro l a;have f:=d.2 l;simp only[AV.ak,eW,bV,iD,bg]at a f⊢;exact a.elim (λd=> .inl<|f d) .inr
def akE m k(a:k≠0)(g:m<k\/k<4294967296)(i:Z (ao m)<=1099511627776):r q 186 [I aq (ao m),I aq<|ao k] (.t [(ah,[.S aq (ao<|m/k)]),(ah,[.S aq (ao<|m%k)])]):=by
 refine aI Tryz.func186 ?_;refine N J<|j<|bt J J (HP m k) J ?_;refine al J (λh2=>?_)<|λh2=>?_
 .have h2:m<k:=by
   have h2:dR m k<0:=qq;unfold dR at h2;split at h2
   .omega
   .split at h2<;>omega
  refine N J<|bL<|cK<|ig cv J ?_;rw[BA h2,o6 h2];exact bl.t2<|bl.nil aq
 .have h2:¬m<k:=by have h2:¬dR m k<0:=qq;unfold dR at h2;split at h2<;>omega
  have l:k<4294967296:=g.resolve_left h2;have n:ao k=[(k:G)]:=by rw[wQ a,(O:k%4294967296=k),(O:k/4294967296=0)];rfl
  refine aD<|j<|N J ?_;rw[n];refine al J (λd=>?_) (λd=>by simp at d);refine F ?_;have o:ay .u64 (k:G)=k:=wrap_u64 _ O O;refine rc J J (f:=217) (r:= .t [(ah,[.S aq (ao<|m/k)]),(ah,[.I .u64 ((m%k:Y):G)])]) ?_ ?_
  .have:=Y' (ao m) k (dW m) O O i;rw[eN,show af ((m:G)/(k:G))=m/k from J,show(m:G)%(k:G)=((m%k:Y):G)from J]at this;rw[show(AV.c (num .u64<|[(k:G)].getD (af (0:G)) 0).1)=cU (k:G)from bP o];exact this
  refine z J<|bt J J (Ep _ ?_) J<|bL<|cK<|atR J;have:=fS m<|rM a;omega
def RF a B(d:0<B):(aC a:G)=((aC a%B:Y):G)+(B:G)*((aC a/B:Y):G)/\aC a%B<B:=by refine⟨?_,fS _ d⟩;have:=Nat.mod_add_div (aC a) B;rw[<-fD,<-xt,this]
def Za{a}{B:Y}(d:0<B)(f:¬a<0):a/(B:G)=((aC a/B:Y):G)/\a%(B:G)=((aC a%B:Y):G):=by let ⟨g,h2⟩:=RF a B d;exact(RH O).2 ⟨O,O,O⟩
def Zb{a}{B}(d:0<B)(i:a<0)(f:aC a%B=0):a/(B:G)= -((aC a/B:Y):G)/\a%(B:G)=0:=by let ⟨g,h2⟩:=RF a B d;refine(RH O).2 ⟨?_,O,O⟩;rw[f]at g;rw[Int.mul_neg];omega
def Zc{a}{B}(d:0<B)(f:a<0)(g:aC a%B≠0):a/(B:G)= -((aC a/B+1:Y):G)/\a%(B:G)=((B-aC a%B:Y):G):=by let ⟨i,h2⟩:=RF a B d;refine(RH O).2 ⟨?_,O,O⟩;rw[Int.mul_neg,xt,om];omega
def Eu a d(k l:Y)(f:a/(aC d:G)=sg (cd a) k)(g:a%(aC d:G)=l):a/d=sg (cd a !=cd d) k/\a%d=sg ah l:=by
 by_cases m:d<0
 .have e:d= -(aC d:G):=by omega
  have i:cd d=ae:=by simp[cd,m]
  rw[e,BB,Int.emod_neg,<-e,f,g,i];refine⟨?_,J⟩;unfold sg;cases cd a<;>simp
 .have e:d=(aC d:G):=by omega
  have i:cd d=ah:=by simp[cd,m]
  rw[<-e]at f g;rw[f,g,i];refine⟨?_,J⟩;cases cd a<;>rfl
def rN:Y->G->G->G->G->G->G
 |0,a,_,_,_,_=>a
 |f+1,a,d,v1,v2,u2=>if a>=4294967296\/a*v2>d*4294967296+u2 then(if d+v1>=4294967296 then a-1 else rN f (a-1) (d+v1) v1 v2 u2)else a
def LW{M i l y v t n A u:G}(g:Kn1 M i l y v t n A u):∀(f:Y)(a d:G),t=a*i+d->0<=d->d<4294967296->4294967296<=d+f*2147483648->u/v<=a->u/v<=rN f a d i l n/\rN f a d i l n<=u/v+1/\rN f a d i l n<4294967296
 |0,a,d,_,_,h2,B,_=>by omega
 |f+1,a,d,ht,L,h2,B,H=>by
  have q0:=g.q0;have Df:=g.Df;have C:=g.qe;rw[rN];split
  .rename_i k;have K:u/v<a:=by
    rcases k with k|k
    .omega
    .exact g.down ht O k
   have m:t=(a-1)*i+(d+i):=by rw[Gv,kL];omega
   split
   .rename_i s;have x:=g.ah3 m s;have k:a-1-1<=u/v:=g.close m O x (by have P:(a-1)*l<=4294967296*4294967296:=wT O (by have:=g.WI;omega) g.AJ D;have:=g.iZ;omega);exact⟨O,O,x⟩
   .rename_i s;exact LW g f (a-1) (d+i) m O O O O
  .rename_i k;have o:a<4294967296:=by
    by_cases e:a<4294967296
    .exact e
    .exact absurd (.inl O) k
   have p:a*l<=d*4294967296+n:=by
    by_cases e:a*l<=d*4294967296+n
    .exact e
    .exact absurd (.inr O) k
   have:=g.close ht O o p;exact⟨H,O,o⟩
def Ev{a d:G}(f:0<=a):a.tdiv d=a/d:=uj f
def HR{a d:G}(f:0<=a):a.tmod d=a%d:=me f
def akF U v a n(H:bT U)(hv:bT v)(hn:Z v=n+2)(hj:a+n+3<=Z U)(hl:Z U<=1099511627777){v' u' u}
  (K:Kn1 (4294967296^n) (E v (n+1) 0) (E v n 0) v' (val v) (E U (a+(n+2)) 0*4294967296+E U (a+(n+1)) 0) (E U (a+n) 0) u' u):
  ui Tryz.prog 218 [.c (.W 0 a<|n+3),I aq v] 142 aq U (cU<|rN 2 ((E U (a+(n+2)) 0*4294967296+E U (a+(n+1)) 0)/E v (n+1) 0) ((E U (a+(n+2)) 0*4294967296+E U (a+(n+1)) 0)%E v (n+1) 0) (E v (n+1) 0) (E v n 0)<|E U (a+n) 0) U:=by
 refine HI Tryz.func218 J J J J J D ?_
 have g1:=dt H<|a+(n+2)
 have g2:=dt H<|a+(n+1)
 have g3:=dt H<|a+n
 have k1:=dt hv<|n+1
 have k2:=dt hv n
 have qe:=K.qe
 have a1:af ((Z v:G))=n+2:=O
 have V:af ((Z v:G)-1)=n+1:=O
 have a3:af ((Z v:G)-2)=n:=O
 generalize hQ:rN 2 ((E U (a+(n+2)) 0*4294967296+E U (a+(n+1)) 0)/E v (n+1) 0) ((E U (a+(n+2)) 0*4294967296+E U (a+(n+1)) 0)%E v (n+1) 0) (E v (n+1) 0) (E v n 0) (E U (a+n) 0)=Q0
 refine N J<|N J<|N J (hp:=kv) ?_
 rw[a1,V]
 have e6:ay .u64 (ay .u64 (ay .u64 (E U (a+(n+2)) 0)*4294967296)+ay .u64 (E U (a+(n+1)) 0))=E U (a+(n+2)) 0*4294967296+E U (a+(n+1)) 0:=by rw[wrap_u64 (E U (a+(n+2)) 0) O O,wrap_u64 (E U (a+(n+1)) 0) O O,wrap_u64 (_*_) O O,wrap_u64 _ O O]
 have C:ay .u64 (E v (n+1) 0)=E v (n+1) 0:=wrap_u64 _ O O
 have L:ay .u64 (E v n 0)=E v n 0:=wrap_u64 _ O O
 have M:ay .u64 (E U (a+n) 0)=E U (a+n) 0:=wrap_u64 _ O O
 have k:0<=E U (a+(n+2)) 0*4294967296+E U (a+(n+1)) 0:=O
 have ht1:E U (a+(n+2)) 0*4294967296+E U (a+(n+1)) 0<18446744073709551616:=O
 have P:=@Kn1.small _ _ _ _ _ _ _ _ _ K
 have dz:=@LW _ _ _ _ _ _ _ _ _ K
 have Q:=K.first
 generalize E U (a+(n+2)) 0*4294967296+E U (a+(n+1)) 0=t at*
 generalize m:E v (n+1) 0=v1 at*
 generalize o:E v n 0=v2 at*
 generalize p:E U (a+n) 0=u2 at*
 have s:ay .u64 (E v (af<|(Z v:G)-1) 0)=v1:=by rw[V,m];exact C
 have x2:ay .u64 (E v (af<|(Z v:G)-2) 0)=v2:=by rw[a3,o];exact L
 have x3:ay .u64 (E U (a+af ((Z v:G)-2)) 0)=u2:=by rw[a3,p];exact M
 have T:0<=t/v1:=yw k O
 have X:0<=t%v1:=iN _ O
 have vT:t%v1<v1:=iO _ O
 have di:=nU t v1
 refine eP (st':=⟨[(0,.c<|.W 0 a<|n+3),(1,I aq v),(5,R<|Z v),(6,cU t)],[(0,.vec 142 aq U)],4,[]⟩) (wk ⟨sR J,sR J,sR J,⟨_,J,bl.of_eq<|bP e6⟩,aX⟩ ⟨bR J,aX⟩) ?_
 have hp1:((-9223372036854775808<=(Z v:G)-1/\(Z v:G)-1<=9223372036854775807)/\0<=(Z v:G)-1/\(Z v:G)-1<(Z v:G))/\ay .u64 (E v (af<|(Z v:G)-1) 0)≠0:=by rw[s];omega
 refine N J (hp:=Zd)<|N J (hp:=Zd) ?_
 refine j<|au<|a8 (α:=Y×G×G) (λx=>⟨[(0,.c<|.W 0 a<|n+3),(1,I aq v),(5,R<|Z v),(6,cU t),(7,cU x.2.1),(8,cU x.2.2)],[(0,.vec 142 aq U)],6,[]⟩) (λx=>rN x.1 x.2.1 x.2.2 v1 v2 u2=Q0/\t=x.2.1*v1+x.2.2/\0<=x.2.2/\x.2.2<4294967296/\4294967296<=x.2.2+x.1*2147483648/\u/val v<=x.2.1) (λx=>x.1) (2,t/v1,t%v1) ⟨hQ,by show t=t/v1*v1+t%v1;rw[eX];omega,X,(O:t%v1<4294967296),RI,Q⟩ (wk ⟨sR J,sR J,sR J,sR J,sE J ?_,sE J ?_,aX⟩ ⟨bR J,aX⟩) ?_
 .refine bP ?_;show ay .u64 (t.tdiv<|ay .u64<|E v (af<|(Z v:G)-1) 0)=t/v1;have:=Int.ediv_le_self v1 k;rw[s,Ev k,wrap_u64 _ T O]
 .refine bP ?_;show(t.tmod<|ay .u64<|E v (af<|(Z v:G)-1) 0)=t%v1;rw[s,HR k]
 .rintro⟨f,q,r⟩ ⟨i,h2,h3,h4,h5,h6⟩;simp only at i h2 h3 h4 h5 h6;have HS:=K.q0;have hqs:=P h2 h3;cases f with
  |zero=>omega
  |succ f=>
  rw[rN]at i;have y:0<=q*v2/\q*v2<18446744073709551616:=by refine⟨jx O O,?_⟩;have:q*v2<=4294967297*4294967295:=wT O O O D;omega
  refine j<|F<|rg 42 J J (λh=>?_)<|λh=>?_
  .have A:q>=4294967296:=by simpa using h
   have g:q>=4294967296\/q*v2>r*4294967296+u2:= .inl A;refine z J (al J (λ_=>?_)<|λd=>by cases d);have e:u/val v<q:=by
    rcases g with g|g
    .have:=K.Df;omega
    .exact K.down h2 O g
   have B:ay .u64 (q-1)=q-1:=wrap_u64 _ O O;have S:ay .u64 (r+ay .u64 (E v (af<|(Z v:G)-1) 0))=r+v1:=by rw[s,wrap_u64 _ O O]
   refine aD<|au<|N J<|N J (hp:=kv)<|N J<|al J (λd=>?_)<|λd=>?_
   .have d:r+v1>=4294967296:=by
     have d:4294967296<=ay .u64 (r+ay .u64 (E v (af<|(Z v:G)-1) 0)):=by simpa using d
     omega
    rw[b g,b d]at i;refine nN<|KU<|ou<|nO<|aL<|N J<|bL<|yZ cv J (bl.of_eq ?_) J;refine bP ?_;rw[<-i];exact B
   .have d:¬r+v1>=4294967296:=by
     have d:ay .u64 (r+ay .u64 (E v (af<|(Z v:G)-1) 0))<4294967296:=by simpa using d
     omega
    rw[b g,w d]at i;refine cP<|eE<|aT (f,q-1,r+v1) ⟨i,LX,LY,LZ,L0,L1⟩ (dK f)<|wk ⟨sR J,sR J,sR J,sR J,⟨_,J,bl.of_eq<|bP B⟩,⟨_,J,bl.of_eq<|bP S⟩,aX⟩ ⟨bR J,aX⟩
  .have A:¬q>=4294967296:=by have:q<4294967296:=et;omega
   have w3:ay .u64 (q*ay .u64 (E v (af<|(Z v:G)-2) 0))=q*v2:=by rw[x2,wrap_u64 _ y.1 y.2]
   have w4:ay .u64 (ay .u64 (r*4294967296)+ay .u64 (E U (a+af ((Z v:G)-2)) 0))=r*4294967296+u2:=by rw[x3,wrap_u64 (r*4294967296) O O,wrap_u64 _ O O]
   refine z J (hp:=kv)<|al J (λl=>?_)<|λl=>?_
   .have g:q>=4294967296\/q*v2>r*4294967296+u2:= .inr (by
     have l:ay .u64 (q*ay .u64 (E v (af<|(Z v:G)-2) 0))>ay .u64 (ay .u64 (r*4294967296)+ay .u64 (E U (a+af ((Z v:G)-2)) 0)):=by simpa using l
     rw[w3,w4]at l;exact l)
    have e:u/val v<q:=by
     rcases g with g|g
     .have:=K.Df;omega
     .exact K.down h2 O g
    have B:ay .u64 (q-1)=q-1:=wrap_u64 _ O O;have S:ay .u64 (r+ay .u64 (E v (af<|(Z v:G)-1) 0))=r+v1:=by rw[s,wrap_u64 _ O O]
    refine aD<|au<|N J<|N J (hp:=kv)<|N J<|al J (λd=>?_)<|λd=>?_
    .have d:r+v1>=4294967296:=by
      have d:4294967296<=ay .u64 (r+ay .u64 (E v (af<|(Z v:G)-1) 0)):=by simpa using d
      omega
     rw[b g,b d]at i;refine nN<|KU<|ou<|nO<|aL<|N J<|bL<|yZ cv J (bl.of_eq ?_) J;refine bP ?_;rw[<-i];exact B
    .have d:¬r+v1>=4294967296:=by
      have d:ay .u64 (r+ay .u64 (E v (af<|(Z v:G)-1) 0))<4294967296:=by simpa using d
      omega
     rw[b g,w d]at i;refine cP<|eE<|aT (f,q-1,r+v1) ⟨i,LX,LY,LZ,L0,L1⟩ (dK f)<|wk ⟨sR J,sR J,sR J,sR J,⟨_,J,bl.of_eq<|bP B⟩,⟨_,J,bl.of_eq<|bP S⟩,aX⟩ ⟨bR J,aX⟩
   .have g:¬(q>=4294967296\/q*v2>r*4294967296+u2):=by
     have l:¬ay .u64 (q*ay .u64 (E v (af<|(Z v:G)-2) 0))>ay .u64 (ay .u64 (r*4294967296)+ay .u64 (E U (a+af ((Z v:G)-2)) 0)):=by simpa using l
     rw[w3,w4]at l;omega
    rw[w g]at i;subst i;exact a7<|aL<|N J<|bL<|yZ cv J (bl.refl _) J
def bS:Y->G->V G
 |0,_=>[]
 |n+1,x=>x%4294967296::bS n (x/4294967296)
def tb:∀(n:Y)(x:G),Z (bS n x)=n
 |0,_=>rfl
 |n+1,x=>by rw[bS,ik,tb n]
def HT:∀(n:Y)(x:G),bT (bS n x)
 |0,_=>PT
 |n+1,x=>yr.2 ⟨⟨iN _ D,iO _ D⟩,HT n _⟩
def o7 n:(4294967296:G)^(n+1)=4294967296^n*4294967296:=fK _ _
def L2(x:G) n:x/4294967296^(n+1)=x/4294967296^n/4294967296:=by rw[o7,akJ<|by have:=jF n;omega]
def Ze(x:G) n:x/4294967296^(n+1)=x/4294967296/4294967296^n:=by rw[o7,eX,akJ D]
def RJ(x:G) n:x%4294967296^(n+1)=x%4294967296+4294967296*(x/4294967296%4294967296^n):=by
 have f:=nU x<|4294967296^(n+1);have g:=nU x 4294967296;have i:=nU (x/4294967296)<|4294967296^n;rw[Ze,o7]at f;rw[o7];generalize x/4294967296/4294967296^n=a at*;generalize x/4294967296%4294967296^n=b at*;generalize x/4294967296=c at*;have e:4294967296^n*4294967296*a=4294967296*(4294967296^n*a):=by rw[eX (4294967296^n) 4294967296,jl]
 rw[e]at f;generalize (4294967296:G)^n*a=d at*;omega
def HU:∀(n:Y)(x:G),val (bS n x)=x%4294967296^n
 |0,x=>by rw[o8,Int.emod_one];rfl
 |n+1,x=>by rw[bS,val,HU n,RJ]
def Ew:∀(n:Y)(x:G),bS (n+1) x=bS n x++[x/4294967296^n%4294967296]
 |0,x=>by rw[o8,uo];rfl
 |n+1,x=>by rw[bS,Ew n,bS,Ze];rfl
def L3:∀(n:Y)(x y:G),x%4294967296^n=y%4294967296^n->bS n x=bS n y
 |0,_,_,_=>rfl
 |n+1,x,y,a=>by rw[RJ,RJ]at a;rw[bS,bS,L3 n (x/4294967296) (y/4294967296) O,(O:x%4294967296=y%4294967296)]
def RK n x y:bS n (x+y*4294967296^n)=bS n x:=L3 n _ _<|RE _ _ _
def Zf:∀{a:V G},bT a->bS (Z a) (val a)=a
 |[],_=>rfl
 |d::a,f=>by let ⟨g,h2⟩:=yr.1 f;rw[ik,bS,val];rw[(O:(d+4294967296*val a)%4294967296=d),(O:(d+4294967296*val a)/4294967296=val a),Zf h2]
def dk(U:V G)(a:Y)(d:V G):V G:=c a U++(d++aA (a+Z d) U)
def L4 U a:dk U a []=U:=by simp[dk]
def xu{U}{j}{ws}(a:j+Z ws<=Z U):Z (dk U j ws)=Z U:=by simp[dk];omega
def L5{U}{j}{ws}(d:j+Z ws<=Z U):E (dk U j ws) (j+Z ws) 0=E U (j+Z ws) 0:=by unfold dk;have a:(c j U).length=j:=b8;rw[aK,DG O,a,DG O,tT,aK];congr 2;omega
def L6{U}{j}{ws}a(d:j+Z ws<Z U):(dk U j ws).set (j+Z ws) a=dk U j (ws++[a]):=by unfold dk;have f:(c j U).length=j:=b8;rw[L7 _ _ O,f,L7 _ _ O,(O:j+Z ws-j-Z ws=0)];rw[rK d,L8,l7,iq];rfl
def RL{U}{f}{a}(d:bT U)(g:bT a):bT (dk U f a):=PU (jk d _)<|PU g<|yt d _
def RM{U}{a}{d}(f:a+Z d<=Z U):aA a (dk U a d)=d++aA (a+Z d) U:=by unfold dk;have g:(c a U).length=a:=b8;rw[AY O,tU O,tS]
def Zg{U}{a}{d}(f:a+Z d<=Z U):c a (dk U a d)=c a U:=by unfold dk;have g:(c a U).length=a:=b8;rw[wY O,iY O]
def RN(U:V G) a i:(aA a U).getD i 0=E U (a+i) 0:=by rw[aK,tT,aK]
def Zh U v a i d{g c b}(m:g=val ((aA a U).take i)-d*val (List.take i v))(n:g/4294967296^i= -(c+b)):
  (let p:=d*List.getD v i 0+c
   let t:=4294967296+List.getD U (a+i) 0-p%4294967296-b
   let f:=val ((aA a U).take<|i+1)-d*val (List.take (i+1) v)
   bS (i+1) f=bS i g++[t%4294967296]/\f/4294967296^(i+1)= -(p/4294967296+(1-t/4294967296))):=by
 intro p t f
 have k:f=g+(E U (a+i) 0-d*E v i 0)*4294967296^i:=by show val ((aA a U).take<|i+1)-d*val (List.take (i+1) v)=_;rw[km,km,RN,m,om,Gv,jl];omega
 have l:f/4294967296^i= -(c+b)+(E U (a+i) 0-d*E v i 0):=by rw[k,Bz _ _ (by have:=jF i;omega),n]
 have o:p=d*E v i 0+c:=rfl
 have s:t=4294967296+E U (a+i) 0-p%4294967296-b:=rfl
 clear_value p t
 refine⟨?_,?_⟩
 .rw[Ew,k,RK,<-k,l];congr 2;omega
 .rw[L2,l];omega
def Zi U v a i{f c}(l:f=val ((aA a U).take i)+val (List.take i v))(m:f/4294967296^i=c):
  (let t:=List.getD U (a+i) 0+List.getD v i 0+c
   let d:=val ((aA a U).take<|i+1)+val (List.take (i+1) v)
   bS (i+1) d=bS i f++[t%4294967296]/\d/4294967296^(i+1)=t/4294967296):=by
 intro t d
 have g:d=f+(E U (a+i) 0+E v i 0)*4294967296^i:=by show val ((aA a U).take<|i+1)+val (List.take (i+1) v)=_;rw[km,km,RN,l,nI];omega
 have k:d/4294967296^i=c+(E U (a+i) 0+E v i 0):=by rw[g,Bz _ _ (by have:=jF i;omega),m]
 have n:t=E U (a+i) 0+E v i 0+c:=rfl
 clear_value t
 refine⟨?_,?_⟩
 .rw[Ew,g,RK,<-g,k];congr 2;omega
 .rw[L2,k];omega
def Zj{v}(f:bT v){a}(d:0<=a)(o:a<4294967296) i:0<=a*val (c i v)/4294967296^i/\a*val (c i v)/4294967296^i<4294967296:=by have g:=l0<|jk f i;have p:=m8<|jk f i;have s:=tJ (m:=(c i v).length) (n:=i) b8;have k:=jF i;have l:0<=a*val (c i v):=jx d g;refine⟨yw l O,Dg k ?_⟩;have t:a*val (c i v)<=4294967296*val (c i v):=hP O g;have u:4294967296*val (c i v)<4294967296*4294967296^i:=Int.mul_lt_mul_of_pos_left O D;omega
def Zk{v}{q a}i(d:a=q*val (c i v)/4294967296^i):q*val (c (i+1) v)/4294967296^(i+1)=(q*E v i 0+a)/4294967296:=by rw[L2,km,om,<-jl,Bz _ _ (by have:=jF i;omega),d,vS]
def akK{v}(f:bT v){a}(d:0<=a)(k:a<4294967296){L}(l:Z v<L):a*val (c L v)/4294967296^L=0:=by
 rw[mA v L O];have g:=l0 f;have o:=m8 f;have p:=tJ (m:=Z v) (n:=L-1) O;have i:(4294967296:G)^L=4294967296^(L-1)*4294967296:=by rw[<-o7];congr 1;omega
 have s:a*val v<=4294967296*val v:=hP O g;exact Et (jx d g) (by rw[i];omega)
def akL U v a L d(Q:bT U)(B:bT v)(hj:a+L<=Z U)(T:Z v<L)(f:0<=d)(M:d<4294967296)(hl:Z U<=1099511627777):
  ui q 219 [.c (.W 0 a L),I aq v,cU d] 142 aq U (cB<|decide<|val ((aA a U).take L)-d*val v<0) (dk U a<|bS L<|val ((aA a U).take L)-d*val v):=by
 refine HI Tryz.func219 J J J J J D ?_
 refine N J<|N J<|N J<|j<|N J ?_
 refine au<|a8 (α:=Y×G×G) (λx=>⟨[(0,.c<|.W 0 a L),(1,I aq v),(2,cU d),(7,cU x.2.1),(8,cU x.2.2),(9,R x.1)],[(0,.vec 142 aq<|dk U a<|bS x.1<|val ((aA a U).take x.1)-d*val (c x.1 v))],5,[]⟩) (λx=>x.1<=L/\(val ((aA a U).take x.1)-d*val (c x.1 v))/4294967296^x.1= -(x.2.1+x.2.2)/\x.2.1=d*val (c x.1 v)/4294967296^x.1/\(x.2.2=0\/x.2.2=1)) (λx=>L-x.1) (0,0,0) ⟨aY _,xr,xr,.inl J⟩ (wk (bO J) ⟨bE J ?_,h⟩) ?_
 .exact be (aG.vec 142 aq) (L4 U a).symm
 rintro⟨i,C,b⟩ ⟨r,h2,g,k⟩
 simp only at r h2 g k
 have z:=Zj B f M i
 rw[<-g]at z
 refine j<|N J ?_
 refine al J (λl=>?_)<|λl=>?_
 .have l:i<L:=by simpa using l
  have F:=dt B i;have gu:=dt Q<|a+i;have hm:0<=d*E v i 0/\d*E v i 0<=18446744065119617025:=HO f O F.1 O;have m:=Zh U v a i d (c:=C) (b:=b) J h2;have H:=Zk (v:=v) (q:=d) i g;simp only at m;let ⟨s1,s2⟩:=m;have n:Z (bS i<|val ((aA a U).take i)-d*val (c i v))=i:=tb _ _;have S:=xu (U:=U) (j:=a) (ws:=bS i<|val ((aA a U).take i)-d*val (c i v)) O;have o:=L5 (U:=U) (j:=a) (ws:=bS i<|val ((aA a U).take i)-d*val (c i v)) O;have s:=λw=>L6 (U:=U) (j:=a) (ws:=bS i<|val ((aA a U).take i)-d*val (c i v)) w O
  rw[n]at o s;refine aD<|j<|au<|bt J J (Bt v i B) J ?_;have V:ay .u64 (ay .u64 (d*E v i 0)+C)=d*E v i 0+C:=by rw[wrap_u64 (d*E v i 0) O O,wrap_u64 _ O O]
  generalize K:d*E v i 0+C=p at*;have u:0<=p/\p<18446744073709551616:=O;refine eP (st':=⟨[(0,.c<|.W 0 a L),(1,I aq v),(2,cU d),(8,cU b),(9,R i),(10,cU p)],[(0,.vec 142 aq<|dk U a<|bS i<|val ((aA a U).take i)-d*val (c i v))],7,[]⟩) (wk ⟨sR J,sR J,sR J,sR J,sR J,⟨_,J,bl.of_eq<|bP V⟩,h⟩ ⟨bR J,h⟩) ?_;generalize hX:dk U a (bS i<|val ((aA a U).take i)-d*val (c i v))=X at*;refine N J<|N J (hp:=kv) ?_;have P:af (i:G)=i:=bY i;have w2:ay .u64 (p.tdiv 4294967296)=p/4294967296:=by rw[Ev u.1,wrap_u64 _ O O]
  have w3:ay .u64 (ay .u64 (ay .u64 (4294967296+ay .u64 (X.getD (a+af (i:G)) 0))-p.tmod 4294967296)-b)=4294967296+E U (a+i) 0-p%4294967296-b:=by rw[P,o,HR u.1,wrap_u64 (E U (a+i) 0) O O,wrap_u64 (4294967296+_) O O,wrap_u64 (_-p%4294967296) O O,wrap_u64 _ O O]
  generalize ht:4294967296+E U (a+i) 0-p%4294967296-b=t at*;have y:0<=t/\t<8589934592:=O;refine eP (st':=⟨[(0,.c<|.W 0 a L),(1,I aq v),(2,cU d),(7,cU<|p/4294967296),(9,R i),(11,cU t)],[(0,.vec 142 aq X)],9,[]⟩) (wk ⟨sR J,sR J,sR J,⟨_,J,bl.of_eq<|bP w2⟩,sR J,⟨_,J,bl.of_eq<|bP w3⟩,h⟩ ⟨bR J,h⟩) ?_;refine N J (hp:=kv)<|rt J ?_;refine bw<|rt J<|aT (i+1,p/4294967296,1-t/4294967296) ⟨l,s2,H.symm,(O:1-t/4294967296=0\/1-t/4294967296=1)⟩ (O:L-(i+1)<L-i)<|wk ⟨sR J,sR J,sR J,sR J,sE J ?_,sE J ?_,h⟩ ⟨bE J ?_,h⟩
  .refine bP ?_;show ay .u64 (1-ay .u64 (t.tdiv 4294967296))=1-t/4294967296;rw[Ev y.1,wrap_u64 (t/4294967296) O O,wrap_u64 _ O O]
  .exact be R O
  .refine be (aG.vec 142 aq) ?_;show X.set (a+af (i:G)) (ay .u32<|t.tmod 4294967296)=dk U a (bS (i+1) _);rw[s1,P,HR y.1,wrap_u32 _ O O,s]
 .have l:¬i<L:=by simpa using l
  have e:i=L:=O;subst e;rw[akK B f M T]at g;rw[mA v i O]at h2⊢;refine a7<|aL<|N J<|bL<|yZ cv J (bl.of_eq ?_) J;refine be cB ?_;show(b==1)=_;have K:=jF i;rcases k with k|k
  .subst k g;have:0<=val ((aA a U).take i)-d*val v:=by have A:=nU (val ((aA a U).take i)-d*val v)<|4294967296^i;have h6:=iN (val ((aA a U).take i)-d*val v) (O:(4294967296:G)^i≠0);rw[h2]at A;simp at A;omega
   rw[nr O];rfl
  .subst k g;have:val ((aA a U).take i)-d*val v<0:=by have A:=nU (val ((aA a U).take i)-d*val v)<|4294967296^i;have h6:=iO (val ((aA a U).take i)-d*val v) K;rw[h2]at A;simp at A;omega
   rw[o9 O];rfl
def akM U v a L(s:bT U)(o:bT v)(H:a+L<=Z U)(M:Z v<=L)(P:Z U<=1099511627777):
  ui q 220 [.c (.W 0 a L),I aq v] 142 aq U (.t []) (dk U a<|bS L<|val ((aA a U).take L)+val v):=by
 refine HI Tryz.func220 J J J J J D ?_
 refine N J<|N J ?_
 refine au<|a8 (α:=Y×G) (λx=>⟨[(0,.c<|.W 0 a L),(1,I aq v),(4,cU x.2),(5,R x.1)],[(0,.vec 142 aq<|dk U a<|bS x.1<|val ((aA a U).take x.1)+val (c x.1 v))],3,[]⟩) (λx=>x.1<=L/\(val ((aA a U).take x.1)+val (c x.1 v))/4294967296^x.1=x.2/\(x.2=0\/x.2=1)) (λx=>L-x.1) (0,0) ⟨aY _,xr,.inl J⟩ (wk (bO J) ⟨bE J ?_,h⟩) ?_
 .exact be (aG.vec 142 aq) (L4 U a).symm
 rintro⟨i,n⟩ ⟨u,h2,y⟩
 simp only at u h2 y
 refine j<|N J ?_
 refine al J (λd=>?_)<|λd=>?_
 .have d:i<L:=by simpa using d
  have C:=dt o i;have K:=dt s<|a+i;have f:=Zi U v a i (c:=n) J h2;simp only at f;let ⟨s1,s2⟩:=f;have g:Z (bS i<|val ((aA a U).take i)+val (c i v))=i:=tb _ _;have A:=xu (U:=U) (j:=a) (ws:=bS i<|val ((aA a U).take i)+val (c i v)) O;have k:=L5 (U:=U) (j:=a) (ws:=bS i<|val ((aA a U).take i)+val (c i v)) O;have l:=λw=>L6 (U:=U) (j:=a) (ws:=bS i<|val ((aA a U).take i)+val (c i v)) w O
  rw[g]at k l;generalize Q:dk U a (bS i<|val ((aA a U).take i)+val (c i v))=X at*;have p:af (i:G)=i:=bY i;refine aD<|j<|au<|F<|rc J J (Bt v i o) (hp:=kv)<|z J ?_;have B:ay .u64 (ay .u64 (ay .u64 (X.getD (a+af (i:G)) 0)+E v i 0)+n)=E U (a+i) 0+E v i 0+n:=by rw[p,k,wrap_u64 (E U (a+i) 0) O O,wrap_u64 (_+E v i 0) O O,wrap_u64 _ O O]
  generalize ht:E U (a+i) 0+E v i 0+n=t at*;have m:0<=t/\t<8589934592:=O;refine eP (st':=⟨[(0,.c<|.W 0 a L),(1,I aq v),(5,R i),(6,cU t)],[(0,.vec 142 aq X)],5,[]⟩) (wk ⟨sR J,sR J,sR J,⟨_,J,bl.of_eq<|bP B⟩,h⟩ ⟨bR J,h⟩) ?_;refine N J (hp:=kv)<|rt J ?_;refine bw<|rt J<|aT (i+1,t/4294967296) ⟨d,s2,(O:t/4294967296=0\/t/4294967296=1)⟩ (O:L-(i+1)<L-i)<|wk ⟨sR J,sR J,sE J ?_,sE J ?_,h⟩ ⟨bE J ?_,h⟩
  .refine bP ?_;show ay .u64 (t.tdiv 4294967296)=t/4294967296;rw[Ev m.1,wrap_u64 (t/4294967296) O O]
  .exact be R O
  .refine be (aG.vec 142 aq) ?_;show X.set (a+af (i:G)) (ay .u32<|t.tmod 4294967296)=dk U a (bS (i+1) _);rw[s1,p,HR m.1,wrap_u32 _ O O,l]
 .have d:¬i<L:=by simpa using d
  have e:i=L:=O;subst e;rw[mA v i O];exact a7<|YT cv J (bl.refl _) J
def RO{v}{n}(f:Z v=n+2):val v=(E v (n+1) 0*4294967296+E v n 0)*4294967296^n+val (c n v):=by
 have d:=km v n;have a:=km v<|n+1;rw[mA v (n+1+1) O,o7]at a;rw[a,d,nI];have e:E v (n+1) 0*(4294967296^n*4294967296)=E v (n+1) 0*4294967296*4294967296^n:=by rw[eX (4294967296^n),jl]
 rw[e];omega
def akN U d n:val ((aA d U).take<|n+3)=((E U (d+(n+2)) 0*4294967296+E U (d+(n+1)) 0)*4294967296+E U (d+n) 0)*4294967296^n+val ((aA d U).take n):=by have i:=km (aA d U) n;have f:=km (aA d U)<|n+1;have g:=km (aA d U)<|n+2;rw[RN]at i f g;rw[o7]at f;rw[o7 (n+1),o7]at g;rw[show n+3=n+2+1 from J,g,f,i];generalize (4294967296:G)^n=M;generalize E U (d+(n+2)) 0=a;generalize E U (d+(n+1)) 0=b;generalize E U (d+n) 0=c;grind
def Zl{U v}{j n}(a:bT U)(f:bT v)(o:Z v=n+2)(s:j+n+3<=Z U)(d:2147483648<=E v (n+1) 0)(g:val ((aA j U).take<|n+3)<val v*4294967296):
  Kn1 (4294967296^n) (E v (n+1) 0) (E v n 0) (val<|c n v) (val v) (E U (j+(n+2)) 0*4294967296+E U (j+(n+1)) 0) (E U (j+n) 0) (val<|(aA j U).take n) (val<|(aA j U).take<|n+3):=by
 have p:=dt f<|n+1
 have i:=dt f n
 have t:=dt a<|j+(n+2)
 have u:=dt a<|j+(n+1)
 have k:=dt a<|j+n
 have l:=m8<|jk f n
 have m:=m8<|jk (yt a j) n
 rw[(b8:(c n v).length=n)]at l
 rw[(b8:Z ((aA j U).take n)=n)]at m
 exact⟨jF n,d,p.2,i.1,i.2,l0<|jk f n,l,O,k.1,k.2,l0<|jk (yt a j) n,m,RO o,akN U j n,g⟩
structure uq(A v:G)(lb M:Y)(x:Y×V G×V G):Prop where
 k:x.1<=M+1
 ul:x.2.1.length=M+lb+1
 ur:bT x.2.1
 ub:val (x.2.1.drop x.1)<v
 ql:x.2.2.length=M+1
 qr:bT x.2.2
 qz:∀i,i<x.1->x.2.2.getD i 0=0
 eq:A=val x.2.1+v*val x.2.2
def za U a(d:a<=Z U):val U=val (c a U)+4294967296^a*val (aA a U):=by have:=Db (c a U)<|aA a U;rw[sI]at this;rw[this];congr 3;simp;omega
def Zm{a}(d:bT a) n(f:n<=Z a)(g:val a<4294967296^n):val (aA n a)=0:=by
 have i:=za a n f;have k:=l0<|jk d n;have l:=l0<|yt d n;by_cases e:val (aA n a)=0
 .exact e
 .exfalso;have:4294967296^n*1<=4294967296^n*val (aA n a):=kK O (by have:=jF n;omega);omega
def uq.RP{A v}{d M a}{U Q}(f:uq A v d M (a+1,U,Q))(n:v<4294967296^d):val (aA a U)=val ((aA a U).take<|d+1)/\val ((aA a U).take<|d+1)<v*4294967296:=by
 have o:a+1<=M+1:=f.k;have p:Z U=M+d+1:=f.ul;have g:bT U:=f.ur;have s:val (aA (a+1) U)<v:=f.ub;have m:aA a U=E U a 0::aA (a+1) U:=by rw[rK O];simp[aK,cO (O:a<Z U)]
 have i:val ((aA (a+1) U).drop d)=0:=Zm (yt g _) d b8 O;have l:val (aA a U)=val ((aA a U).take<|d+1):=by have:=za (aA a U) (d+1) b8;rw[qp]at this;rw[qp]at i;rw[this,(O:a+(d+1)=a+1+d),i];simp
 refine⟨l,?_⟩;rw[<-l,m,val];have:=dt g a;omega
def uq.next{A v}{d M a}{U Q}(g:uq A v d M (a+1,U,Q))(l:0<v)(L:v<4294967296^d):
  uq A v d M (a,dk U a<|bS (d+1)<|val ((aA a U).take<|d+1)%v,Q.set a<|val ((aA a U).take<|d+1)/v):=by
 let ⟨H,P⟩:=g.RP L
 have D:a+1<=M+1:=g.k
 have T:Z U=M+d+1:=g.ul
 have K:bT U:=g.ur
 have o:Z Q=M+1:=g.ql
 have p:bT Q:=g.qr
 have m:∀i,i<a+1->E Q i 0=0:=g.qz
 have heq:A=val U+v*val Q:=g.eq
 have s:0<=val ((aA a U).take<|d+1):=l0<|jk (yt K _) _
 generalize hu:val ((aA a U).take<|d+1)=u at*
 have W:=iN u (O:v≠0)
 have X:=iO u l
 have b:0<=u/v:=yw s O
 have c:u/v<4294967296:=Dg l (by rw[eX];exact P)
 have t:=nU u v
 have B:Z (bS (d+1)<|u%v)=d+1:=tb _ _
 have f:a+Z (bS (d+1)<|u%v)<=Z U:=O
 have C:u%v<4294967296^(d+1):=by rw[o7];have:=jF d;omega
 have q:val (aA (a+(d+1)) U)=0:=by
  have:=za (aA a U) (d+1) b8;rw[qp,hu,H]at this;have F:=jF<|d+1;have r:4294967296^(d+1)*val (aA (a+(d+1)) U)=0:=O;rcases Int.mul_eq_zero.1 r with e|e
  .omega
  .exact e
 have n:val (aA a<|dk U a<|bS (d+1)<|u%v)=u%v:=by rw[RM f,Db,HU,gX W C,B,q];simp
 refine⟨(O:a<=M+1),by show Z (dk _ _ _)=_;rw[xu f];exact T,RL K<|HT _ _,by show val (aA a<|dk U a _)<v;rw[n];exact X,by show(Q.set _ _).length=_;simp[o],yu p _ ⟨b,c⟩,?_,?_⟩
 .intro i I;show(Q.set a _).getD i 0=0;rw[aK,RQ O,<-aK];exact m i O
 .show A=val (dk U a _)+v*val (Q.set a _);rw[PV Q a _ O,m a O,za (dk U a _) a (by rw[xu f];omega),Zg f,n,heq,za U a O,H];have w:v*(val Q+(u/v-0)*4294967296^a)=v*val Q+4294967296^a*(v*(u/v)):=by generalize u/v=x;generalize (4294967296:G)^a=y;grind
  have z:4294967296^a*u=4294967296^a*(u%v)+4294967296^a*(v*(u/v)):=by rw[<-om,t]
  rw[w,z];omega
def uq.fin{A v}{g M}{U Q}(a:uq A v g M (0,U,Q)):val Q=A/v/\val U=A%v:=by have f:val U<v:=a.ub;have d:=l0 a.ur;have heq:A=val U+v*val Q:=a.eq;simp only at d;have i:0<v:=O;rw[heq,Int.add_mul_ediv_left _ _ O,Et d f,L9,gX d f];exact⟨O,J⟩
def akO{b1:G}(g:1<=b1)(i:b1<4294967296):2147483648<=b1*(4294967296/(b1+1)):=by
 have k:=nU 4294967296<|b1+1;have l:=iO 4294967296 (O:0<b1+1);generalize 4294967296/(b1+1)=d at*;generalize (4294967296:G)%(b1+1)=r at*;by_cases m:2147483648<=b1
 .have a:1<=d:=by
   by_cases e:1<=d
   .exact e
   .have:(b1+1)*d<=(b1+1)*0:=kK O O;omega
  have:b1*1<=b1*d:=kK a O;omega
 .have f:0<=(b1-1)*(4294967296-2*b1-2):=jx O O;have n:(b1-1)*(4294967296-2*b1-2)=b1*4294967296-2*(b1*b1)-4294967296+2:=by grind
  have o:(b1+1)*(b1*d)=b1*(4294967296-r):=by rw[show(b1+1)*(b1*d)=b1*((b1+1)*d)by grind];congr 1;omega
  have p:b1*(4294967296-b1)<=b1*(4294967296-r):=kK O O;have s:b1*(4294967296-b1)=b1*4294967296-b1*b1:=by rw[Ey]
  by_cases e:2147483648<=b1*d
  .exact e
  .exfalso;have:(b1+1)*(b1*d)<=(b1+1)*2147483647:=kK O O;omega
def Sm.of{a}(d:aC a<18446744073709551616):Sm a:=bm (HQ d) D
def zb n(a: -9223372036854775808<=n)(d:n<=9223372036854775807):r q 30 [R n] (aQ (n:Rat)):=by refine aI Tryz.func30 ?_;refine N J<|F<|rc J J (jq n a d)<|rc J J (jq 1 D D)<|z J<|bU J ?_;rfl
def RR a:r q 40 [aQ a] (R<|fB a.num):=by refine aI Tryz.func40 ?_;refine N J<|bt J J (By a.num) J<|cw J
def L' n d(g:d≠0):(Rat.divInt n d).num=n/(if d<0 then-((iu n d:Y):G)else((iu n d:Y):G))/\((Rat.divInt n d).den:G)=d/(if d<0 then-((iu n d:Y):G)else((iu n d:Y):G)):=by
 have f:((iu n d:Y):G)∣n:=Int.gcd_dvd_left ..;have a:((iu n d:Y):G)∣d:=RS ..;have i:iu n d≠0:=by intro k;have:=(RT.1 k).2;exact g this
 rw[Rat.num_divInt,Rat.den_divInt,w g,Int.gcd_comm d n];by_cases h:d<0
 .rw[b h,Int.sign_eq_neg_one_of_neg h,BB,BB];refine⟨?_,?_⟩
  .rw[Int.neg_mul,kL,akP f]
  .rw[xv,(O:((aC d:Y):G)= -d),akP a]
 .rw[w h,Int.sign_eq_one_of_pos O,kL];refine⟨J,?_⟩;rw[xv,(O:((aC d:Y):G)=d)]
def akQ{k n}(f:Z (ao k)=n+2){a}(i:a=E (ao k) (n+1) 0){d:Y}(H:(d:G)=4294967296/(a+1)):
  1<=a/\a<4294967296/\1<=d/\d<4294967296/\((k*d:Y):G)<4294967296^(n+2)/\Z (ao<|k*d)=n+2/\2147483648<=E (ao<|k*d) (n+1) 0:=by
 have l:=dt (dW k)<|n+1
 have C:=vk k
 have h:a≠0:=by
  rcases C with e|e
  .rw[e]at f;simp at f
  .rw[f]at e;rw[i];exact e
 rw[<-i]at l
 have K:=nU 4294967296<|a+1
 have L:=iN 4294967296 (O:a+1≠0)
 have j:=iO 4294967296 (O:0<a+1)
 have o:=akO (b1:=a) O l.2
 rw[<-H]at K o
 have q:(1:G)<=d:=by
  by_cases e:(1:G)<=d
  .exact e
  .have:(d:G)=0:=by omega
   rw[this]at o;simp at o
 have r:(d:G)<4294967296:=by have:2*(d:G)<=(a+1)*d:=hP O O;omega
 have M:=RO f
 rw[eN,<-i]at M
 have P:=m8<|jk (dW k) n
 rw[(b8:Z (c n<|ao k)=n)]at P
 have w:=l0<|jk (dW k) n
 have Q:=dt (dW k) n
 have z:=jF n
 generalize E (ao k) n 0=g at*
 generalize val (c n<|ao k)=D at*
 have p:(4294967296:G)^(n+1)=4294967296^n*4294967296:=o7 n
 have T:a*4294967296^(n+1)<=(k:G):=by have:(a*4294967296)*4294967296^n<=(a*4294967296+g)*4294967296^n:=hP O O;rw[p,show a*(4294967296^n*4294967296)=a*4294967296*4294967296^n by rw[eX (4294967296^n),jl]];omega
 have U:(k:G)<(a+1)*4294967296^(n+1):=by
  have s:(a*4294967296+g+1)*4294967296^n<=(a*4294967296+4294967296)*4294967296^n:=hP O O;have t:(a*4294967296+g+1)*4294967296^n=(a*4294967296+g)*4294967296^n+4294967296^n:=by rw[nI _ 1,kL]
  have u:(a*4294967296+4294967296)*4294967296^n=(a+1)*(4294967296^n*4294967296):=by generalize (4294967296:G)^n=y;grind
  rw[p,<-u];omega
 have A:((k*d:Y):G)<4294967296^(n+2):=by
  rw[fD,o7];have s:(k:G)*d<(a+1)*4294967296^(n+1)*d:=HV U O;have t:(a+1)*4294967296^(n+1)*d=4294967296^(n+1)*((a+1)*d):=by generalize (4294967296:G)^(n+1)=y;grind
  have u:4294967296^(n+1)*((a+1)*d)<=4294967296^(n+1)*4294967296:=kK O O;omega
 have B:Z (ao<|k*d)=n+2:=by have s:Z (ao<|k*d)<=n+2:=AI A;have t:=s' (m:=k) (k:=k*d)<|oy _ O;omega
 refine⟨O,l.2,O,O,A,B,?_⟩
 have v:=RO B
 have W:=m8<|jk (dW<|k*d) n
 rw[(b8:Z (c n<|ao<|k*d)=n)]at W
 have X:=dt (dW<|k*d) n
 have b:=dt (dW<|k*d)<|n+1
 rw[eN,fD]at v
 generalize E (ao<|k*d) n 0=x at*
 generalize E (ao<|k*d) (n+1) 0=c1 at*
 generalize val (c n<|ao<|k*d)=F at*
 by_cases e:2147483648<=c1
 .exact e
 .exfalso;have s:(c1*4294967296+x+1)*4294967296^n<=(c1*4294967296+4294967296)*4294967296^n:=hP O O;have t:(c1*4294967296+x+1)*4294967296^n=(c1*4294967296+x)*4294967296^n+4294967296^n:=by rw[nI _ 1,kL]
  have u:(c1*4294967296+4294967296)*4294967296^n=(c1+1)*4294967296^(n+1):=by rw[p];generalize (4294967296:G)^n=y;grind
  have I:a*4294967296^(n+1)*d<=(k:G)*d:=hP T O;have J:(c1+1)*4294967296^(n+1)<=a*d*4294967296^(n+1):=hP O O;have N:a*4294967296^(n+1)*d=a*d*4294967296^(n+1):=by generalize (4294967296:G)^(n+1)=y;grind
  omega
def Zn{U}{a}{d f}(g:a+Z d<=Z U)(i:Z f=Z d):dk (dk U a d) a f=dk U a f:=by unfold dk;rw[show(c a U++(d++aA (a+Z d) U)).take a=c a U from Zg g,i];have k:(c a U).length=a:=b8;rw[List.drop_append,k,tU O,tS,(O:a+Z d-a=Z d),List.drop_left'];rfl
def akR m k n(y:Z (ao k)=n+2)(oQ:k<=m)(lm:Z (ao m)<=1099511627776):r q 186 [I aq (ao m),I aq<|ao k] (.t [(ah,[.S aq (ao<|m/k)]),(ah,[.S aq (ao<|m%k)])]):=by
 refine aI Tryz.func186 ?_;generalize T:E (ao k) (n+1) 0=b1;obtain⟨d,hd⟩:∃d:Y,(d:G)=4294967296/(b1+1):=⟨af<|4294967296/(b1+1),vN<|yw D<|by have:=dt (dW k)<|n+1;omega⟩;let ⟨f1,f2,f3,f4,f5,f6,f7⟩:=akQ y T.symm hd;have sT:0<k:=by
  rcases qD k with e|e
  .subst e;rw[Dc]at y;simp at y
  .exact e
 have RU:n+2<=Z (ao m):=by rw[<-y];exact s' oQ
 obtain⟨M,hM⟩:∃M,Z (ao m)=M+(n+2):=⟨Z (ao m)-(n+2),O⟩;have RV:((m*d:Y):G)<4294967296^(M+(n+2)+1):=by have h1:=tI (n:=m);rw[hM]at h1;rw[o7,fD];have:=jF<|M+(n+2);have h2:(m:G)*d<=(m:G)*4294967296:=kK O O;omega
 have avx:Z (ao<|m*d)<=M+(n+2)+1:=AI RV;have b:¬dR (m:G) (k:G)<0:=by unfold dR;rw[w O];split<;>decide
 refine N J<|j<|bt J J (HP m k) J<|al J (λh=>absurd et b)<|λ_=>aD ?_;refine j<|N J<|al J (λh=>?_)<|λ_=>aD ?_
 .exfalso;have h:(Z (ao k):G)=1:=et;omega
 have a2:af ((Z (ao k):G)-1)=n+1:=O;have x1:ay .u64 (ay .u64 (E (ao k) (af<|(Z (ao k):G)-1) 0)+1)=b1+1:=by rw[a2,T,wrap_u64 b1 O O,wrap_u64 _ O O]
 have x2:ay .u64 ((4294967296:G).tdiv<|ay .u64<|ay .u64 (E (ao k) (af<|(Z (ao k):G)-1) 0)+1)=(d:G):=by rw[x1,Ev D,<-hd,wrap_u64 _ O O]
 refine N J<|N J (hp:=by simp only[Pr.an,Pr.h,num,gT,true_and,and_true];rw[x1];omega) ?_;refine eP (st':=⟨[(0,I aq<|ao m),(1,I aq<|ao k),(8,R ((n+2:Y):G)),(9,cU d)],[],5,[]⟩) (wk ⟨sR J,sR J,⟨_,J,bl.of_eq<|be (λiC:Y=>R (iC:G)) y⟩,⟨_,J,bl.of_eq<|bP x2⟩,aX⟩ aX) ?_;refine F<|rc J J (Ep d O)<|rc J J (RC k d O<|by have:=HQ (m:=d) O;omega)<|z J ?_;refine F<|rm aq (Z (ao m)+1) J J J J J J (mI .u32) O ?_ ?_<|z J ?_
 .show _*4<=_;omega
 .show _*1<=_;omega
 refine F<|rc J J (Ep d O)<|rc J J (RC m d O<|by have:=HQ (m:=d) O;omega) ?_;refine LR J J J J J RX az<|z J ?_;generalize H:ao (m*d)++aA (Z<|ao<|m*d) (bc (Z (ao m)+1) (0:G))=o;refine F<|rm aq (M+1) J J J J J J (mI .u32) O ?_ ?_<|z J ?_
 .show _*4<=_;omega
 .show _*1<=_;omega
 have A:val o=((m*d:Y):G):=by rw[<-H,Db,eN,(az:aA (Z<|ao<|m*d) (bc (Z (ao m)+1) (0:G))=bc (Z (ao m)+1-Z (ao<|m*d)) 0),Ka];simp
 have B:bT o:=by rw[<-H];exact PU (dW _)<|yt (rf _) _
 have akS:Z o=M+(n+2)+1:=by rw[<-H];simp;omega
 have vU:(0:G)<((k*d:Y):G):=by have:0<k*d:=zc sT O;omega
 have vV:uq ((m*d:Y):G) ((k*d:Y):G) (n+2) M (M+1,o,bc (M+1) 0):=by
  refine⟨aO _,akS,B,?_,az,rf _,λi hi=>?_,?_⟩
  .show val (aA (M+1) o)<_;have h1:=za o (M+1) O;have h2:=l0<|jk B<|M+1;have hp:=jF<|M+1;by_cases e:val (aA (M+1) o)<((k*d:Y):G)
   .exact e
   .exfalso;have h3:4294967296^(M+1)*((k*d:Y):G)<=4294967296^(M+1)*val (aA (M+1) o):=kK O O;have h4:=Kb (dW k) (vk k) (by intro e;rw[e]at y;simp at y);rw[eN,y,(O:n+2-1=n+1)]at h4;have h5:=tI (n:=m);rw[hM,(O:M+(n+2)=M+1+(n+1)),Int.pow_add]at h5;have h6:4294967296^(M+1)*4294967296^(n+1)*(d:G)<=4294967296^(M+1)*((k*d:Y):G):=by rw[fD,jl];exact kK (hP h4 O) O
    have h7:(m:G)*d<4294967296^(M+1)*4294967296^(n+1)*(d:G):=HV h5 O;rw[A,fD m d]at h1;omega
  .show E (bc (M+1) (0:G)) i 0=0;rw[aK,lM];split<;>rfl
  .show _=val o+_*val (bc (M+1) 0);rw[Ka,A];omega
 refine j<|N J ?_;refine au<|a8 (α:=Y×V G×V G) (λx=>⟨[(8,R ((n+2:Y):G)),(9,cU d),(10,I aq<|ao<|k*d),(11,.c<|.X 6003000),(12,.c<|.X 8005000),(13,R<|(x.1:G)-1)],[(6003000,.vec 142 aq x.2.1),(8005000,.vec 142 aq x.2.2)],10,[]⟩) (uq ((m*d:Y):G) ((k*d:Y):G) (n+2) M) (λx=>x.1) (M+1,o,bc (M+1) 0) vV (wk ⟨sR J,sR J,sR J,sR J,sR J,sE J ?_,aX⟩<|xa J) ?_
 .exact be R O
 rintro⟨P,U,Q⟩ p;have mc:Z U=M+(n+2)+1:=p.ul;have l:bT U:=p.ur;have Ma:Z Q=M+1:=p.ql;have LC:P<=M+1:=p.k;refine j<|N J ?_;refine al J (λh=>?_)<|λh=>?_
 .have h:(P:G)-1>=0:=by simpa using h
  obtain⟨a,rfl⟩:∃a,P=a+1:=⟨P-1,O⟩;have ej:((a+1:Y):G)-1=(a:G):=O;rw[ej];have g:=p.next vU f5;let ⟨_,xw⟩:=p.RP f5;have hK:=Zl (U:=U) (v:=ao<|k*d) (j:=a) (n:=n) l (dW _) f6 O f7 (by rw[eN];exact xw);have qe:=dt (dW<|k*d)<|n+1;have K:=LW hK 2 ((E U (a+(n+2)) 0*4294967296+E U (a+(n+1)) 0)/E (ao<|k*d) (n+1) 0)<|(E U (a+(n+2)) 0*4294967296+E U (a+(n+1)) 0)%E (ao<|k*d) (n+1) 0;have L:=hK.first;generalize RY:E (ao<|k*d) (n+1) 0=v1 at K qe f7 L;generalize hte:E U (a+(n+2)) 0*4294967296+E U (a+(n+1)) 0=t at K L;have zd:=iN t (O:v1≠0);have vT:=iO t (O:0<v1);have K:=K (by have h1:=nU t v1;have h2:=eX (t/v1) v1;omega) zd O O L;rw[<-hte,<-RY]at K;have RZ:=akF U (ao<|k*d) a n l (dW _) f6 O O hK;have HS:=hK.q0;generalize rN 2 ((E U (a+(n+2)) 0*4294967296+E U (a+(n+1)) 0)/E (ao<|k*d) (n+1) 0) ((E U (a+(n+2)) 0*4294967296+E U (a+(n+1)) 0)%E (ao<|k*d) (n+1) 0) (E (ao<|k*d) (n+1) 0) (E (ao<|k*d) n 0) (E U (a+n) 0)=f at*;rw[eN]at K HS;have Zo:=akL U (ao<|k*d) a (n+3) f l (dW _) O O O K.2.2 O;rw[eN]at Zo;rw[show n+2+1=n+3 from J]at g xw;generalize hu:val ((aA a U).take<|n+3)=u at*;have ze:=nU u ((k*d:Y):G);have HH:=iN u (O:((k*d:Y):G)≠0);have EA:=iO u vU;generalize hv:((k*d:Y):G)=v at*;refine aD<|j<|au ?_;refine F<|Y3 a (a+(n+3)) J J J J J J O O (O:a+(n+3)<=Z U)<|z J ?_
  refine eP (st':=⟨[(8,R ((n+2:Y):G)),(9,cU d),(10,I aq<|ao<|k*d),(11,.c<|.X 6003000),(12,.c<|.X 8005000),(13,R a),(14,.c<|.W 6003000 a<|n+3)],[(6003000,.vec 142 aq U),(8005000,.vec 142 aq Q)],12,[]⟩) (wk ⟨sR J,sR J,sR J,sR J,sR J,sR J,⟨_,J,bl.of_eq<|be (λiC=>AV.c<|C.W 6003000 a iC) O⟩,aX⟩<|xa J) ?_;refine F<|y6 6003000 J RZ J J<|z J ?_;refine j<|F<|y6 6003000 J Zo J J<|z J ?_;have EB:∀x,Z (bS (n+3) x)=n+3:=λx=>tb _ _
  refine al J (λh=>?_)<|λh=>?_
  .have h:u-f*v<0:=by simpa using h
   have s:f=u/v+1:=by
    by_cases e:f=u/v
    .subst e;have:=eX (u/v) v;omega
    .omega
   have R0:f*v=v*(u/v)+v:=by rw[s,nI,kL,eX]
   have hr:bT (dk U a<|bS (n+3)<|u-f*v):=RL l<|HT _ _;have BC:=akM (dk U a<|bS (n+3)<|u-f*v) (ao<|k*d) a (n+3) hr (dW _) (by rw[xu uu];omega) O (by rw[xu uu];omega);have e1:dk (dk U a<|bS (n+3)<|u-f*v) a (bS (n+3)<|val (c (n+3)<|aA a<|dk U a<|bS (n+3)<|u-f*v)+val (ao<|k*d))=dk U a (bS (n+3)<|u%v):=by rw[Zn uu (by rw[EB,EB]),RM uu,wY uu,iY uu,HU,eN,hv];refine be (dk U a)<|L3 _ _ _ ?_;rw[Int.emod_add_emod];congr 1;omega
   rw[e1]at BC;have w1:ay .u64 (f-1)=u/v:=by rw[wrap_u64 _ O O];omega
   refine N J<|cu<|y6 6003000 J BC J J<|z J<|aL ?_;refine eP (st':=⟨[(8,R ((n+2:Y):G)),(9,cU d),(10,I aq<|ao<|k*d),(11,.c<|.X 6003000),(12,.c<|.X 8005000),(13,R a),(15,cU<|u/v)],[(6003000,.vec 142 aq<|dk U a<|bS (n+3)<|u%v),(8005000,.vec 142 aq Q)],16,[]⟩) (wk ⟨sR J,sR J,sR J,sR J,sR J,sR J,⟨_,J,bl.of_eq<|bP w1⟩,aX⟩<|xa J) ?_;refine rt J (hp:=kv) ?_;refine bw<|rt J<|aT (a,dk U a<|bS (n+3)<|u%v,Q.set a<|u/v) g (dK a)<|wk (bO J) ⟨bR J,bE J ?_,aX⟩;refine be (aG.vec 142 aq) ?_;show Q.set (af (a:G)) (ay .u32<|u/v)=Q.set a (u/v);rw[bY,wrap_u32 _ O O]
  .have h:¬u-f*v<0:=by simpa using h
   have s:f=u/v:=by
    by_cases e:f=u/v
    .exact e
    .exfalso;have e2:f=u/v+1:=O;have R0:f*v=v*(u/v)+v:=by rw[e2,nI,kL,eX]
     omega
   have e1:u-f*v=u%v:=by have:=eX (u/v) v;rw[s];omega
   refine aD ?_;refine eP (st':=⟨[(8,R ((n+2:Y):G)),(9,cU d),(10,I aq<|ao<|k*d),(11,.c<|.X 6003000),(12,.c<|.X 8005000),(13,R a),(15,cU<|u/v)],[(6003000,.vec 142 aq<|dk U a<|bS (n+3)<|u%v),(8005000,.vec 142 aq Q)],16,[]⟩) (wk ⟨sR J,sR J,sR J,sR J,sR J,sR J,⟨_,J,bl.of_eq<|bP s⟩,aX⟩ ⟨⟨_,J,mF.of_eq<|be (λiC=>aG.vec 142 aq<|dk U a<|bS (n+3) iC) e1⟩,bR J,aX⟩) ?_;refine rt J (hp:=kv) ?_;refine bw<|rt J<|aT (a,dk U a<|bS (n+3)<|u%v,Q.set a<|u/v) g (dK a)<|wk (bO J) ⟨bR J,bE J ?_,aX⟩;refine be (aG.vec 142 aq) ?_;show Q.set (af (a:G)) (ay .u32<|u/v)=Q.set a (u/v);rw[bY,wrap_u32 _ O O]
 .have h:¬(P:G)-1>=0:=by simpa using h
  have hc:P=0:=O;subst hc;let ⟨e1,e2⟩:=p.fin;have q1:aN Q=ao (m/k):=by
   rw[oN p.qr];show ao (af<|val Q)=_;rw[e1];have:((m*d:Y):G)/((k*d:Y):G)=((m/k:Y):G):=by rw[<-xv,Nat.mul_div_mul_right _ _ O]
   rw[this,bY]
  have q2:ao (af<|val (aN U)/(d:G))=ao (m%k):=by
   rw[WG];show ao (af<|val U/(d:G))=_;rw[e2];have:((m*d:Y):G)%((k*d:Y):G)/(d:G)=((m%k:Y):G):=by rw[<-HW,Nat.mul_mod_mul_right,<-xv,R1 _ O]
   rw[this,bY]
  have xx:=Y' (aN U) (d:G) (WH l) O O (by
   have h2:Z (aN U)<=n+2:=by rw[oN l];apply AI;have h3:val U<((k*d:Y):G):=p.ub;omega
   omega)
  rw[q2]at xx;refine a7<|aL<|cY 6003000 J J J<|cY 8005000 J J J ?_;refine F<|rc J J (y7 U)<|rc J J xx<|z J ?_;refine bt J J (y7 Q) J<|bU J ?_;rw[q1]
def Zp m k(d:k≠0)(a:Z (ao m)<=1099511627776):r q 186 [I aq (ao m),I aq<|ao k] (.t [(ah,[.S aq (ao<|m/k)]),(ah,[.S aq (ao<|m%k)])]):=by
 by_cases h:m<k\/k<4294967296
 .exact akE m k d h a
 .have g:2<=Z (ao k):=by
   by_cases e:2<=Z (ao k)
   .exact e
   .exfalso;have i:=tI (n:=k);have f:=tJ (m:=Z<|ao k) (n:=1) O;rw[Int.pow_one]at f;omega
  exact akR m k (Z (ao k)-2) O O a
def EC a d(o:d≠0)(n:Sm a)(l:Sm d):r q 183 [aZ a,aZ d] (.t [(ae,av .z<|a/d),(ae,av .z<|a%d),(ah,[.I .i64 0])]):=by
 refine aI Tryz.func183 ?_;refine N J<|j<|N J ?_;have f:aC d≠0:=O;refine al J (λh2=>?_)<|λh2=>?_
 .exfalso;have h2:(Z (eG d):G)=0:=qq;have:=o5.2 f;unfold eG at h2;omega
 .refine aD<|bt J J (Zp _ _ f n) J<|j<|F ?_;refine rg 25 J J (λh3=>?_) (λh3=>?_)
  .have h3:a<0:=by simpa[cd]using h3
   refine z J<|al J (λh4=>?_)<|λh4=>?_
   .have h4:aC a%aC d≠0:=by have h4:(Z (ao<|aC a%aC d):G)>0:=Mb;exact o5.1 O
    let ⟨e1,g⟩:=Zc (rM f) h3 h4;have hz:cd a=ae:=ED;let ⟨i,k⟩:=Eu a d (aC a/aC d+1) (aC d-aC a%aC d) EE g;have p:aC a%aC d<aC d:=fS _<|rM f;refine F<|rl aq [_] J J (rc J J (Y8 (aC a/aC d) 1 ?_ D)<|z J<|cu<|rc J J (RB (aC d) _ O l)<|z J<|aL<|F ?_)
    .exact bm (s'<|Nat.div_le_self _ _) n
    refine rc J J (qC _ _)<|rc J J (qC _ _)<|z J<|bU J ?_;rw[i,k];rfl
   .have h4:aC a%aC d=0:=by have h4:¬(Z (ao<|aC a%aC d):G)>0:=Mb;exact HX λm=>by have:=o5.2 m;omega
    let ⟨e1,g⟩:=Zb (rM f) h3 h4;have hz:cd a=ae:=ED;let ⟨i,k⟩:=Eu a d (aC a/aC d) (aC a%aC d) EE (by rw[g,h4];rfl);refine aD<|F<|rc J J (qC _ _)<|rc J J (qC _ _)<|z J<|bU J ?_;rw[i,k];rfl
  .have h3:¬a<0:=by simpa[cd]using h3
   refine z J<|al J (λh4=>by simp at h4)<|λh4=>?_;let ⟨e1,g⟩:=Za (rM f) h3;have hz:cd a=ah:=ED;let ⟨i,k⟩:=Eu a d (aC a/aC d) (aC a%aC d) EE g;refine aD<|F<|rc J J (qC _ _)<|rc J J (qC _ _)<|z J<|bU J ?_;rw[i,k];rfl
def akU m k(v:Z (ao m)<=1099511627776)(A:Z (ao k)<=1099511627776):r q 148 [I aq (ao m),I aq<|ao k] (I aq<|ao<|nT m k):=by
 refine aI Tryz.func148 ?_;refine N J<|j<|au<|a8 (α:=Y×Y) (λx=>⟨[(0,I aq<|ao x.1),(1,I aq<|ao x.2)],[],1,[]⟩) (λx=>nT x.1 x.2=nT m k/\Z (ao x.1)<=1099511627776/\Z (ao x.2)<=1099511627776) (λx=>x.2) (m,k) ⟨J,v,A⟩ aM ?_;rintro⟨x,y⟩ ⟨hg,lx,l⟩;simp only at hg lx l;refine j<|N J ?_;refine al J (λh=>?_)<|λh=>?_
 .have B:y≠0:=by have h:(Z (ao y):G)>0:=et;exact o5.1 O
  have a:r q 186 [I aq (ao x),I aq<|ao y] (.t [(ah,[.S aq (ao<|x/y)]),(ah,[.S aq (ao<|x%y)])]):=Zp x y B lx;have f:nT y (x%y)=nT m k:=by rw[<-hg,y' x y,Nat.gcd_rec y x,y']
  have g:x%y<y:=fS _ O;have i:Z (ao<|x%y)<=1099511627776:=bm (s' O) l;refine aD<|au<|j<|F ?_;refine rg 13 J J (λh2=>?_)<|λh2=>?_
  .have h2:Z (ao x)<=2:=by have h2:(Z (ao x):G)<=2:=qq;omega
   refine z J<|al J (λh3=>?_)<|λh3=>?_
   .have h3:Z (ao y)<=2:=by have h3:(Z (ao y):G)<=2:=AQ;omega
    have o:x<18446744073709551616:=by have C:=tI (n:=x);have p:=tJ h2;rw[show(4294967296:G)^2=18446744073709551616 from J]at p;omega
    have d:y<18446744073709551616:=by have C:=tI (n:=y);have p:=tJ h3;rw[show(4294967296:G)^2=18446744073709551616 from J]at p;omega
    refine F<|rc J J (RD x o)<|rc J J (RD y d)<|rc J J (akC x y o d)<|rc J J (Ep _ ?_)<|z J<|bL ?_
    .by_cases s:x=0
     .rw[s,Nat.gcd_zero_left];exact d
     .exact vW (Nat.gcd_le_left y O) o
    .repeat(first|refine cK ?_|refine kX ?_|refine lI ?_)
     refine eJ J ?_;rw[<-hg]
   .refine aD<|bt J J a J<|N J<|rt J<|eE<|aT (y,x%y) ⟨f,l,i⟩ g aM
  .refine z J<|al J (λh3=>by cases h3)<|λ_=>?_;refine aD<|bt J J a J<|N J<|rt J<|eE<|aT (y,x%y) ⟨f,l,i⟩ g aM
 .have h:Z (ao y)=0:=by have:¬(Z (ao y):G)>0:=et;omega
  have s:y=0:=HX λu=>by have:=o5.2 u;omega
  subst s;refine a7<|aL<|N J<|bU J ?_;rw[<-hg,LU]
def Mc a d(f:Sm a)(g:Sm d):r q 96 [aZ a,aZ d] (aZ<|iu a d):=by refine aI Tryz.func96 ?_;refine N J<|F ?_;refine rc J J (akU _ _ f g)<|rc J J (qC ah _)<|z J<|bU J ?_;rfl
def R2 a d(g:Sm a)(i:Sm d):r q 209 [aZ a,aZ d] (aZ<|a-d):=by
 refine aI Tryz.func209 ?_;have f:Sm (-d):=by unfold Sm eG at i⊢;rwa[Int.natAbs_neg]
 have e:=xq a (-d) g f;rw[<-R3]at e;exact N J<|F<|rc J J (Y7 d)<|rc J J e<|z J<|cw J
def akV a(k:0<=a)(l:a<9223372036854775808):r q 250 [aZ a] (.t [(ah,[.I .i64 a]),(ah,[.B ae])]):=by
 refine aI Tryz.func250 ?_;have f:aC a<18446744073709551616:=O;have m:=HQ f;have g:cd a=ah:=by simp[cd];omega
 refine N J<|j<|N J<|al J (λh=>?_)<|λ_=>aD ?_
 .exfalso;have h:(Z (eG a):G)>2:=et;unfold eG at h;omega
 refine bt J J (RD (aC a) f) J ?_;refine j<|F<|rg 15 J J (λh=>?_)<|λh=>?_
 .refine z J (al J (λd=>?_)<|λd=>?_)
  .have i: -9223372036854775808<=((aC a:Y):G)/\((aC a:Y):G)<=9223372036854775807:=by omega
   refine N J (bL<|cK<|eJ J ?_) (hp:=i);exact be (λx=>AV.t [(ah,[C.I .i64 x]),(ah,[C.B ae])]) O
  .exfalso;have e:decide (((aC a:Y):G)<9223372036854775808)=ae:=o9 O;rw[cond_true,e]at d;cases d
 .rw[g]at h;cases h
def HY(a:V G)(i:Y):r q 256 [I .z a,R i] (aZ<|E a i 0):=by
 refine aI Tryz.func256 ?_;refine N J<|j<|N J ?_;refine al J (λh=>?_)<|λh=>?_
 .have h:i<Z a:=by simpa using h
  refine N J<|bL<|cK<|eJ J ?_;rfl
 .have h:¬i<Z a:=by simpa using h
  refine aD<|bt J J (jq 0 D D) J<|bU J ?_;have e:E a i 0=0:=by simp[aK,iX<|vj h]
  rw[e];rfl
def Zq{a}:fB a=0↔a=0:=by
 unfold fB;split
 .omega
 .split<;>omega
def Md(a:V G):r q 255 [I .z a] (I .z<|aN a):=by
 refine aI Tryz.func255<|vJ 0 J λi=>?_;have i:Z a*2<=140737488355328:=i;refine N J<|du<|au<|a8 (α:=Y) (λk=>⟨[(0,I .z<|c k a)],[],1,[]⟩) (λk=>k<=Z a/\gk a k=gk a (Z a)) (λk=>k) (Z a) ⟨aO _,J⟩ (wk ⟨⟨_,J,bl.of_eq<|by rw[fR]⟩,aX⟩ aX) ?_;rintro k ⟨l,d⟩;have f:(c k a).length=k:=b8;refine du<|F ?_;refine rg 6 J J (λh=>?_)<|λh=>?_
 .have h:0<k:=by have h:(((c k a).length:Y):G)>0:=et;rw[f]at h;omega
  obtain⟨j,rfl⟩:∃j,k=j+1:=⟨k-1,O⟩;have g:af (((c (j+1) a).length:G)-1)=j:=by rw[f];omega
  have ev:(c (j+1) a).getD j 0=E a j 0:=by rw[aK,AH O,<-aK]
  refine jV J J J J J (By<|(c (j+1) a).getD (af<|((c (j+1) a).length:G)-1) 0) (z J ?_) (hp:=kv);refine al J (λh2=>?_)<|λh2=>?_
  .have h2:E a j 0=0:=by have h2:fB ((c (j+1) a).getD (af<|((c (j+1) a).length:G)-1) 0)=0:=qq;rw[g,ev]at h2;exact Zq.1 h2
   refine aD<|au<|rt J (eE<|aT j ⟨O,?_⟩ s8<|wk ⟨sE J ?_,aX⟩ aX) (hp:=kv)
   .rw[<-d,gk,b h2]
   .rw[g];simp only[qu,Lb];rw[oh O]
  .have h2:E a j 0≠0:=by have h2:¬fB ((c (j+1) a).getD (af<|((c (j+1) a).length:G)-1) 0)=0:=qq;rw[g,ev]at h2;exact λe=>h2 (Zq.2 e)
   refine a7<|aL<|N J<|bU J ?_;unfold aN;rw[<-d,gk,w h2]
 .have h:k=0:=by have h:¬(((c k a).length:Y):G)>0:=et;rw[f]at h;omega
  subst h;refine z J<|al J (λh2=>by simp at h2)<|λ_=>?_;refine a7<|aL<|N J<|bU J ?_;unfold aN;rw[<-d];rfl
def jW(l:V Rat):Y->Y
 |0=>0
 |n+1=>if(E l n 0).num=0 then jW l n else n+1
def fC(l:V Rat):V Rat:=c (jW l<|Z l) l
def kz(A B:Y->G)(n:Y):Y->G
 |0=>0
 |i+1=>kz A B n i+A i*B (n-i)
def conv(A B:Y->G)(n:Y):G:=kz A B n<|n+1
def R4(A B:Y->G)(n:Y):∀k,(∀i,i<k->A i*B (n-i)=0)->kz A B n k=0
 |0,_=>rfl
 |k+1,a=>by simp only[kz,R4 A B n k<|λi d=>a i O,a k O];rfl
def Me(A B:Y->G)(n d:Y):∀k,d<k->(∀i,i<k->i≠d->A i*B (n-i)=0)->kz A B n k=A d*B (n-d)
 |0,f,_=>by omega
 |k+1,f,h2=>by
  simp only[kz];by_cases a:k=d
  .subst a;rw[R4 A B n k (λi g=>h2 i O O)];omega
  .rw[Me A B n d k O (λi g=>h2 i O),h2 k O a];omega
def akW{A B:Y->G}{a d}(f:∀i,a<i->A i=0)(g:∀i,d<i->B i=0):conv A B (a+d)=A a*B d:=by
 unfold conv
 rw[Me A B (a+d) a _ O]
 .congr 2;omega
 .intro i k l;by_cases h:i<a
  .rw[g (a+d-i) O];simp
  .rw[f i O];simp
def lN(a d:V G):V G:=(List.range<|Z a+Z d-1).map<|conv (λi=>E a i 0)<|λi=>E d i 0
def Mf(m:Y)(a:m<18446744073709551616):r q 154 [cU m] (I aq<|ao m):=by
 refine aI Tryz.func154 ?_;refine N J<|F ?_;have d:ay .u32 (m:G)=((m%4294967296:Y):G):=Mg;have f:ay .u32 ((m:G).fdiv<|2^(min (af (32:G))<|dm .u64))=((m/4294967296:Y):G):=by
  have:(m:G).fdiv (2^(min (af (32:G))<|dm .u64))=((m/4294967296:Y):G):=by rw[BD _ D];rfl
  rw[this,wrap_u32 _ O O]
 refine rl aq [_,_] J J ?_;refine rc J J (vR _) ?_;refine z J<|bU J ?_;rw[d,f,Y4 m a]
def ph neg m:r q 153 [cB neg,I aq<|ao m] (aZ<|sg neg m):=by
 refine aI Tryz.func153 ?_;have i:=vR<|ao m;rw[PX]at i;refine N J<|bt J J i J<|j<|N J ?_;refine al J (λh=>?_)<|λh=>?_
 .have h:Z (ao m)=0:=by have h:(Z (ao m):G)=0:=et;omega
  have k:m=0:=HX λa=>by have:=o5.2 a;omega
  subst k;refine N J<|bL<|cK<|ig cv J ?_;have e:sg neg 0=0:=by cases neg<;>rfl
  rw[e];refine⟨?_,λn d=>by cases d⟩;rintro g v ⟨vs,rfl,v1,o,rfl,l,v2,p,rfl,f,rfl⟩;have f:v2= .slice none 0 0:=f;exact⟨_,J,v1,_,J,l,v2,_,J,by rw[f];exact YJ g.H,J⟩
 .have h:Z (ao m)≠0:=by have h:¬(Z (ao m):G)=0:=et;omega
  refine aD<|N J<|bU J ?_;rw[<-Y6];have e:(neg&&decide (0<Z (ao m)))=neg:=by have:0<Z (ao m):=O;simp[this]
  rw[e];rfl
def Mh(a:V G)(d:Z a<=1099511627776):r q 155 [I aq a] (I aq a):=by
 refine aI Tryz.func155 ?_;refine N J<|F<|YL J J J J J J J J ?_ ?_<|z J<|cY 1001000 J J J<|cw J
 .show(_+_/4+192)*4<=_;omega
 .show _*1<=_;omega
def R5 n(d: -9223372036854775808<=n)(g:n<=9223372036854775807):r q 124 [R n] (aZ n):=by
 refine aI Tryz.func124 ?_;refine N J<|N J<|j<|N J ?_;refine al J (λh=>?_)<|λh=>?_
 .have h:n<0:=by simpa using h
  have e:ay .u64 (0-ay .u64 n)=(af (-n):Y):=by simp[ay,dm,Eo];omega
  refine rt J<|aL<|F ?_;refine rc J J (f:=154) (r:=I aq<|ao<|af<| -n) (by rw[show(AV.c (num .u64<|0-ay .u64 n).1)=cU ((af (-n):Y):G)from bP e];exact Mf _ O) ?_;refine rc J J (ph _ _)<|z J<|bU J ?_;have a:sg (decide<|n<0) (af<| -n)=n:=by unfold sg;simp[h];omega
  exact be aZ a
 .have h:¬n<0:=by simpa using h
  have e:ay .u64 n=(af n:Y):=by rw[wrap_u64 _ O O];omega
  refine aD<|F ?_;refine rc J J (f:=154) (r:=I aq<|ao<|af n) (by rw[show(AV.c (num .u64 n).1)=cU ((af n:Y):G)from bP e];exact Mf _ O) ?_;refine rc J J (ph _ _)<|z J<|bU J ?_;have a:sg (decide<|n<0) (af n)=n:=by unfold sg;simp[h];omega
  exact be aZ a
def Zr a:r q 152 [aZ a] (R<|fB a):=by
 refine aI Tryz.func152 ?_;refine N J<|j<|N J ?_;refine al J (λh=>?_)<|λh=>?_
 .have h:a=0:=by
   have h:(Z (eG a):G)=0:=et;have:aC a=0:=HX λf=>by have:=o5.2 f;unfold eG at h;omega
   omega
  refine N J<|bL<|cK<|eJ J ?_;rw[h];rfl
 .have h:a≠0:=by have h:¬(Z (eG a):G)=0:=et;intro g;subst g;exact h J
  refine aD<|j<|N J ?_;refine al J (λd=>?_)<|λd=>?_
  .have d:a<0:=by simpa[cd]using d
   refine N J<|bL<|cK<|eJ J ?_;rw[fB,b d];rfl
  .have d:¬a<0:=by simpa[cd]using d
   refine aD<|N J<|bU J ?_;rw[fB,w d,w h];rfl
def R6 a(d:Sm a):r q 125 [aZ a] (aZ<| -a):=by
 refine aI Tryz.func125 ?_;refine N J<|F<|rc J J (Mh _ d)<|rc J J (ph (!cd a)<|aC a)<|z J<|bU J ?_;have f:sg (!cd a) (aC a)= -a:=by
  unfold sg cd;by_cases h:a<0
  .simp[h];omega
  .simp[h];omega
 exact be aZ f
def akX a k(P:bT a)(Q:bT k)(T:Z a<=1099511627776)(U:Z k<=1099511627776):r q 160 [I aq a,I aq k] (I aq<|ao<|af<|val a+val k):=by
 refine aI Tryz.func160 ?_;refine N J<|j<|N J ?_;refine al J (λh=>?_)<|λh=>?_
 .have n:Z a<=Z k:=by have h:Z a<Z k:=et;omega
  rw[vS (val a)];refine rt J<|aL ?_;revert P Q T U n;generalize k=X;generalize a=d;intro u y W e n;refine eP (st':=⟨[(0,I aq X),(1,I aq d)],[],30,[]⟩) aM<|F ?_;refine rm aq (X.length+1) J J J J J J (mI .u32) J ?_ ?_ ?_
  .show _*4<=_;omega
  .show _*1<=_;omega
  refine z J<|N J<|j<|N J ?_;refine au<|a8 (α:=Y×V G×G) (λx=>⟨[(0,I aq X),(1,I aq d),(5,.c<|.X 30003000),(6,cU x.2.2),(21,R X.length),(22,R x.1)],[(30003000,.vec 142 aq x.2.1)],33,[]⟩) (λx=>Er X d (X.length+1) x/\x.1<=X.length) (λx=>X.length-x.1) (0,bc (X.length+1) 0,0) ?_ ?_ ?_
  .refine⟨⟨aY _,az,rf _,?_,hO _,HL,Bu⟩,aY _⟩;intro w _;simp only[aK,lM];split<;>rfl
  .exact wk (bO J) ⟨bR J,aX⟩
  .rintro⟨i,o,c⟩ ⟨f,l⟩;have l:i<=X.length:=l;have A:Z o=X.length+1:=f.len;have g:0<=c:=f.c0;have H:c<=1:=f.c1;have S:=dt y i;have gb:=dt u i;refine N J<|j ?_;refine al J (λh=>?_) (λh=>?_)
   .have h:i<X.length:=by simpa using h
    have m:=f.next (O:i<X.length+1) y u;simp only at m;generalize ht:X.getD i 0+E d i 0+c=s at m;have B:ay .u32 s=s%4294967296:=by simp[ay,dm,Eo]
    have C:s.fdiv (2^(min (af (32:G))<|dm .u64))=s/4294967296:=by rw[BD _ D];rfl
    refine aD<|j<|au<|N J<|N J<|j<|N J ?_;refine al J (λh2=>?_)<|λh2=>?_
    .have h2:i<Z d:=by simpa using h2
     refine rt J<|aL ?_;have p:ay .u64 (ay .u64 (ay .u64 (X.getD (af (i:G)) 0)+c)+ay .u64 (E d (af (i:G)) 0))=s:=by rw[bY,wrap_u64 (X.getD i 0) O O,wrap_u64 (E d i 0) O O,wrap_u64 (X.getD i 0+c) O O,wrap_u64 _ O O];omega
     refine eP (st':=⟨[(0,I aq X),(1,I aq d),(5,.c<|.X 30003000),(7,R i),(8,cU s),(21,R X.length),(22,R i)],[(30003000,.vec 142 aq o)],40,[]⟩) (wk ⟨sR J,sR J,sR J,sR J,⟨_,J,bl.of_eq<|bP p⟩,sR J,sR J,aX⟩ ⟨bR J,aX⟩) ?_;refine N J<|rt J<|bw<|rt J<|aT (i+1,o.set i<|s%4294967296,s/4294967296) ⟨m,Mi⟩ Mj<|wk ⟨sR J,sR J,sR J,sE J ?_,sR J,sE J J,aX⟩ ⟨bE J ?_,aX⟩
     .exact bP C
     .rw[B,bY]
    .have h2:¬i<Z d:=by simpa using h2
     have K:E d i 0=0:=R7;refine aD ?_;have p:ay .u64 (ay .u64 (X.getD (af (i:G)) 0)+c)=s:=by rw[bY,wrap_u64 (X.getD i 0) O O,wrap_u64 _ O O];omega
     refine eP (st':=⟨[(0,I aq X),(1,I aq d),(5,.c<|.X 30003000),(7,R i),(8,cU s),(21,R X.length),(22,R i)],[(30003000,.vec 142 aq o)],40,[]⟩) (wk ⟨sR J,sR J,sR J,sR J,⟨_,J,bl.of_eq<|bP p⟩,sR J,sR J,aX⟩ ⟨bR J,aX⟩) ?_;refine N J<|rt J<|bw<|rt J<|aT (i+1,o.set i<|s%4294967296,s/4294967296) ⟨m,Mi⟩ Mj<|wk ⟨sR J,sR J,sR J,sE J ?_,sR J,sE J J,aX⟩ ⟨bE J ?_,aX⟩
     .exact bP C
     .rw[B,bY]
   .have h:¬i<X.length:=by simpa using h
    have l:i=X.length:=O;subst l;have L:ay .u32 c=c:=wrap_u32 c g O;refine a7<|aL<|N J ?_;refine eP (st':=⟨[(5,.c<|.X 30003000)],[(30003000,.vec 142 aq<|o.set X.length c)],40,[]⟩) (wk ⟨sR J,aX⟩ ⟨bE J ?_,aX⟩) ?_
    .rw[L,bY]
    refine cY 30003000 J J J<|bt J J (vR _) J<|bU J ?_;have M:bT (o.set X.length c):=yu f.r _ ⟨g,O⟩;have t:=f.v;simp only[fR]at t;rw[mA d X.length n]at t;rw[oN M,HK o X.length c O<|f.z X.length<|aO _,t]
 .have n:Z k<=Z a:=by have h:¬Z a<Z k:=et;omega
  refine aD ?_;revert P Q T U n;generalize a=X;generalize k=d;intro y u e W n;refine eP (st':=⟨[(0,I aq X),(1,I aq d)],[],30,[]⟩) aM<|F ?_;refine rm aq (X.length+1) J J J J J J (mI .u32) J ?_ ?_ ?_
  .show _*4<=_;omega
  .show _*1<=_;omega
  refine z J<|N J<|j<|N J ?_;refine au<|a8 (α:=Y×V G×G) (λx=>⟨[(0,I aq X),(1,I aq d),(5,.c<|.X 30003000),(6,cU x.2.2),(21,R X.length),(22,R x.1)],[(30003000,.vec 142 aq x.2.1)],33,[]⟩) (λx=>Er X d (X.length+1) x/\x.1<=X.length) (λx=>X.length-x.1) (0,bc (X.length+1) 0,0) ?_ ?_ ?_
  .refine⟨⟨aY _,az,rf _,?_,hO _,HL,Bu⟩,aY _⟩;intro w _;simp only[aK,lM];split<;>rfl
  .exact wk (bO J) ⟨bR J,aX⟩
  .rintro⟨i,o,c⟩ ⟨f,l⟩;have l:i<=X.length:=l;have A:Z o=X.length+1:=f.len;have g:0<=c:=f.c0;have H:c<=1:=f.c1;have S:=dt y i;have gb:=dt u i;refine N J<|j ?_;refine al J (λh=>?_) (λh=>?_)
   .have h:i<X.length:=by simpa using h
    have m:=f.next (O:i<X.length+1) y u;simp only at m;generalize ht:X.getD i 0+E d i 0+c=s at m;have B:ay .u32 s=s%4294967296:=by simp[ay,dm,Eo]
    have C:s.fdiv (2^(min (af (32:G))<|dm .u64))=s/4294967296:=by rw[BD _ D];rfl
    refine aD<|j<|au<|N J<|N J<|j<|N J ?_;refine al J (λh2=>?_)<|λh2=>?_
    .have h2:i<Z d:=by simpa using h2
     refine rt J<|aL ?_;have p:ay .u64 (ay .u64 (ay .u64 (X.getD (af (i:G)) 0)+c)+ay .u64 (E d (af (i:G)) 0))=s:=by rw[bY,wrap_u64 (X.getD i 0) O O,wrap_u64 (E d i 0) O O,wrap_u64 (X.getD i 0+c) O O,wrap_u64 _ O O];omega
     refine eP (st':=⟨[(0,I aq X),(1,I aq d),(5,.c<|.X 30003000),(7,R i),(8,cU s),(21,R X.length),(22,R i)],[(30003000,.vec 142 aq o)],40,[]⟩) (wk ⟨sR J,sR J,sR J,sR J,⟨_,J,bl.of_eq<|bP p⟩,sR J,sR J,aX⟩ ⟨bR J,aX⟩) ?_;refine N J<|rt J<|bw<|rt J<|aT (i+1,o.set i<|s%4294967296,s/4294967296) ⟨m,Mi⟩ Mj<|wk ⟨sR J,sR J,sR J,sE J ?_,sR J,sE J J,aX⟩ ⟨bE J ?_,aX⟩
     .exact bP C
     .rw[B,bY]
    .have h2:¬i<Z d:=by simpa using h2
     have K:E d i 0=0:=R7;refine aD ?_;have p:ay .u64 (ay .u64 (X.getD (af (i:G)) 0)+c)=s:=by rw[bY,wrap_u64 (X.getD i 0) O O,wrap_u64 _ O O];omega
     refine eP (st':=⟨[(0,I aq X),(1,I aq d),(5,.c<|.X 30003000),(7,R i),(8,cU s),(21,R X.length),(22,R i)],[(30003000,.vec 142 aq o)],40,[]⟩) (wk ⟨sR J,sR J,sR J,sR J,⟨_,J,bl.of_eq<|bP p⟩,sR J,sR J,aX⟩ ⟨bR J,aX⟩) ?_;refine N J<|rt J<|bw<|rt J<|aT (i+1,o.set i<|s%4294967296,s/4294967296) ⟨m,Mi⟩ Mj<|wk ⟨sR J,sR J,sR J,sE J ?_,sR J,sE J J,aX⟩ ⟨bE J ?_,aX⟩
     .exact bP C
     .rw[B,bY]
   .have h:¬i<X.length:=by simpa using h
    have l:i=X.length:=O;subst l;have L:ay .u32 c=c:=wrap_u32 c g O;refine a7<|aL<|N J ?_;refine eP (st':=⟨[(5,.c<|.X 30003000)],[(30003000,.vec 142 aq<|o.set X.length c)],40,[]⟩) (wk ⟨sR J,aX⟩ ⟨bE J ?_,aX⟩) ?_
    .rw[L,bY]
    refine cY 30003000 J J J<|bt J J (vR _) J<|bU J ?_;have M:bT (o.set X.length c):=yu f.r _ ⟨g,O⟩;have t:=f.v;simp only[fR]at t;rw[mA d X.length n]at t;rw[oN M,HK o X.length c O<|f.z X.length<|aO _,t]
def Zs:ByteArray:={data:=(([0,1,2,2,3,3,3,3,4,4,4,4,4,4,4,4,5,5,5,5,5,5,5,5,5,5,5,5,5,5,5,5,6,6,6,6,6,6,6,6,6,6,6,6,6,6,6,6,6,6,6,6,6,6,6,6,6,6,6,6,6,6,6,6].append [7,7,7,7,7,7,7,7,7,7,7,7,7,7,7,7,7,7,7,7,7,7,7,7,7,7,7,7,7,7,7,7,7,7,7,7,7,7,7,7,7,7,7,7,7,7,7,7,7,7,7,7,7,7,7,7,7,7,7,7,7,7,7,7]).append<|[8,8,8,8,8,8,8,8,8,8,8,8,8,8,8,8,8,8,8,8,8,8,8,8,8,8,8,8,8,8,8,8,8,8,8,8,8,8,8,8,8,8,8,8,8,8,8,8,8,8,8,8,8,8,8,8,8,8,8,8,8,8,8,8].append [8,8,8,8,8,8,8,8,8,8,8,8,8,8,8,8,8,8,8,8,8,8,8,8,8,8,8,8,8,8,8,8,8,8,8,8,8,8,8,8,8,8,8,8,8,8,8,8,8,8,8,8,8,8,8,8,8,8,8,8,8,8,8,8]).toArray}
def Zt(n:Y):Bool:=match HC Zs (n:G)with
 |some l=>decide (0<=l)&&decide (l<=8)&&Nat.blt n (2^af l)&&(Nat.ble (2^af l) (2*n)||Nat.beq n 0)
 |none=>ah
def akY:((List.range 256).all Zt)=ae:=dZ
def akZ{n:Y}(g:n<256):∃l:Y,HC Zs (n:G)=some (l:G)/\l<=8/\n<2^l/\(2^l<=2*n\/n=0):=by
 have a:=jS.1 akY n<|l3.2 g;unfold Zt at a;split at a
 .rename_i l e;simp only[cz,vE,decide_eq_true_eq]at a;let ⟨⟨⟨h2,i⟩,f⟩,d⟩:=a;have f:=c8 f;refine⟨af l,by rw[vN h2];exact e,O,f,?_⟩;rcases d with d|d
  .exact .inl<|c8 d
  .exact .inr<|lL d
 .cases a
def Mk{a}{t:TypeId}{x i}{f}{k}{d g}{l}(m:a.ev x=some (.c<|.V<|.string f))(n:a.ev i=some (.c<|.I k d))(o:S t dY=some l)(p:l.kind= .str)(s:HC f d=some g):vP dY a (.index t x i)=some (.c<|.I .u8 g,.le 0 d):=by simp[vP,m,n,o,p,s]
def ak0 a d(B:bT a)(H:bT d)(la:Z a<=1099511627776)(lb:Z d<=1099511627776):r q 191 [I aq a,I aq d] (I aq<|ao<|af<|val a*val d):=by
 refine aI Tryz.func191 ?_;refine N J<|F ?_;refine rm aq (Z a+Z d) J J J J J J (mI .u32) J ?_ ?_ ?_
 .show _*4<=_;omega
 .show _*1<=_;omega
 refine z J<|j<|N J ?_;refine au<|a8 (α:=Y×V G) (λx=>⟨[(0,I aq a),(1,I aq d),(5,.c<|.X 1005000),(18,R<|Z a),(19,R x.1)],[(1005000,.vec 142 aq x.2)],3,[]⟩) (RA a d) (λx=>Z a-x.1) (0,bc (Z a+Z d) 0) ?_ ?_ ?_
 .refine⟨aY _,az,rf _,?_,Bu⟩;intro w _;simp only[aK,lM];split<;>rfl
 .exact wk (bO J) ⟨bR J,h⟩
 .rintro⟨i,o⟩ l;have g:Z o=Z a+Z d:=l.len;refine N J<|j ?_;refine al J (λm=>?_) (λm=>?_)
  .have m:i<Z a:=by simpa using m
   have L:=dt B i;refine aD<|j<|au<|N J<|N J<|N J<|j<|N J ?_;have M:ay .u64 (E a (af (i:G)) 0)=E a i 0:=by rw[bY,wrap_u64 _ O O]
   refine au<|a8 (α:=Y×V G×G) (λx=>⟨[(0,I aq a),(1,I aq d),(5,.c<|.X 1005000),(6,R i),(7,cU x.2.2),(8,cU<|E a i 0),(18,R<|Z a),(19,R i),(28,R<|Z d),(29,R x.1)],[(1005000,.vec 142 aq x.2.1)],8,[]⟩) (Bx a d i) (λx=>Z d-x.1) (0,o,0) ?_ ?_ ?_
   .refine⟨aY _,g,l.r,l.z,hO _,(by show(0:G)<_;decide),?_⟩;have:=l.v;simp only at this;simp[this,val]
   .exact wk ⟨sR J,sR J,sR J,sR J,sR J,⟨_,J,bl.of_eq<|bP M⟩,sR J,sR J,sR J,sR J,h⟩ ⟨bR J,h⟩
   .rintro⟨k,o,c⟩ n;have g:Z o=Z a+Z d:=n.len;have t:0<=c:=n.c0;have u:c<4294967296:=n.c1;refine N J<|j ?_;refine al J (λp=>?_) (λp=>?_)
    .have p:k<Z d:=by simpa using p
     have P:=dt H k;have Q:=dt n.r<|i+k;simp only at Q;have S:=HO L.1 O P.1 O;refine aD<|j<|au<|N J<|N J ?_ (hp:=kv);have f:af ((i:G)+(k:G))=i+k:=O;have C:ay .u64 (ay .u64 (ay .u64 (E a i 0*ay .u64 (E d (af (k:G)) 0))+ay .u64 (E o (af<|(i:G)+(k:G)) 0))+c)=E a i 0*E d k 0+E o (i+k) 0+c:=by rw[f,bY,wrap_u64 (E d k 0) O O,wrap_u64 (E o (i+k) 0) O O,wrap_u64 (E a i 0*E d k 0) O O,wrap_u64 (E a i 0*E d k 0+E o (i+k) 0) O O,wrap_u64 _ O O]
     have y:=n.next m p B H;simp only at y;generalize ht:E a i 0*E d k 0+E o (i+k) 0+c=s at y C;have A:ay .u32 s=s%4294967296:=by simp[ay,dm,Eo]
     have T:s.fdiv (2^(min (af (32:G))<|dm .u64))=s/4294967296:=by rw[BD _ D];rfl
     refine eP (st':=⟨[(0,I aq a),(1,I aq d),(5,.c<|.X 1005000),(6,R i),(8,cU<|E a i 0),(9,R k),(10,cU s),(18,R<|Z a),(19,R i),(28,R<|Z d),(29,R k)],[(1005000,.vec 142 aq o)],12,[]⟩) (wk ⟨sR J,sR J,sR J,sR J,sR J,sR J,sE J ?_,sR J,sR J,sR J,sR J,h⟩ ⟨bR J,h⟩) ?_
     .exact bP C
     refine N J<|rt J<|bw<|rt J<|aT (k+1,o.set (i+k)<|s%4294967296,s/4294967296) y (O:Z d-(k+1)<Z d-k)<|wk ⟨sR J,sR J,sR J,sR J,sE J ?_,sR J,sR J,sR J,sR J,sE J ?_,h⟩ ⟨bE J ?_,h⟩
     .exact bP T
     .rfl
     .rw[A,f]
    .have p:¬k<Z d:=by simpa using p
     have U:k=Z d:=by have:=n.k;simp only at this;omega
     subst U;have W:=n.done m;have f:af ((i:G)+(Z d:G))=i+Z d:=O;have A:ay .u32 c=c:=wrap_u32 c t u;refine a7<|aL<|rt J<|bw<|rt J<|aT (i+1,o.set (i+Z d) c) W nS<|wk ⟨sR J,sR J,sR J,sR J,sE J ?_,h⟩ ⟨bE J ?_,h⟩
     .rfl
     .rw[A,f]
  .have m:¬i<Z a:=by simpa using m
   have e:i=Z a:=by have:=l.i;simp only at this;omega
   subst e;refine a7<|aL<|cY 1005000 J J J<|F ?_;refine rc J J (vR _)<|z J<|bU J ?_;have K:=l.v;simp only[fR]at K;rw[oN l.r];simp only[K]
def Zu m k(a:Z (ao m)<=1099511627776)(d:Z (ao k)<=1099511627776):r q 160 [I aq (ao m),I aq<|ao k] (I aq<|ao<|m+k):=by have:=akX (ao m) (ao k) (dW m) (dW k) a d;rw[eN,eN,(O:af ((m:G)+(k:G))=m+k)]at this;exact this
def ak1 m k(a:Z (ao m)<=1099511627776)(d:Z (ao k)<=1099511627776):r q 191 [I aq (ao m),I aq<|ao k] (I aq<|ao<|m*k):=by have:=ak0 (ao m) (ao k) (dW m) (dW k) a d;rw[eN,eN,show af ((m:G)*(k:G))=m*k by rw[<-fD];rfl]at this;exact this
def ak2 a d(l:Sm a)(m:Sm d):r q 159 [aZ a,aZ d] (aZ<|a*d):=by
 refine aI Tryz.func159 ?_;refine N J<|F ?_;refine rc J J (ak1 _ _ l m)<|rc J J (ph _ _)<|z J<|bU J ?_;have n:sg (cd a !=cd d) (aC a*aC d)=a*d:=by have f:=y8 a;have g:=y8 d;generalize aC a=x at f⊢;generalize aC d=y at g⊢;cases i:cd a<;>cases k:cd d<;>rw[i]at f<;>rw[k]at g<;>simp only[sg,cj,bN,iB]at f g<;>rw[<-f,<-g]<;>simp[sg]<;>grind
 exact be aZ n
def ox.fs{P}{f}{args}{cC}{T}{xs}(U:ox P f args cC T xs):r P f args (.c<|.S T xs):=by
 refine⟨U.call,J,λH W vs z g D=>?_⟩;let ⟨e,F,G,⟨v,s,X,t,hle,x,i,l⟩,h2⟩:=U.spec H W vs z g D;refine⟨e,F,G,?_,h2⟩;rcases t with⟨a,A⟩|⟨b,p,B,a,I,N,C,y,q,Y,R⟩
 .subst A;refine⟨v,s,X,?_,hle,x,i,l⟩;have a:v= .slice none 0 0:=a;exact⟨none,0,a,az,az,.inl J⟩
 .have a:v= .slice (some ⟨b,0,none⟩) (Z xs) p:=a;have m:cL s (λd o=>if d=b then(if o<Z xs*T.n then B[o]? else none)else s d o):=by
   intro d o v g;by_cases e:d=b
   .subst e;have:s d o=none:=R o;rw[this]at g;cases g
   .simp[e,g]
  refine⟨v,λd o=>if d=b then(if o<Z xs*T.n then B[o]? else none)else s d o,X,?_,cL.trans hle m,?_,?_,l⟩
  .refine⟨some ⟨b,0,none⟩,p,a,C,y,?_⟩;by_cases A:xs=[]
   .exact .inl A
   .refine .inr ⟨b,0,J,λk w=>⟨(aA (k*T.n) B).take T.n,cZ.length T _ _<|q k w,cZ.mono m T _ _<|q k w,λj V=>?_⟩⟩;have K:(k+1)*T.n<=p*T.n:=eC _ O;have L:(k+1)*T.n<=Z xs*T.n:=eC _ O;rw[gO,jn]at K L;simp only[eL,Bd]at V;have M:k*T.n+j<Z xs*T.n:=O;simp only[cj,ff,qk,tQ,M];exact cO O
  .intro d o Q;have:d≠b:=O;simp only[this,bN];exact x d o Q
  .intro d o u g;by_cases e:d=b
   .subst e;simp only[cj]at g;split at g
    .simp[World.cell?,I,g]
    .cases g
   .simp only[e,bN]at g;exact i d o u g
def Ml{P}{n}{x y}{f}{Q}{g:Type}(d:g->St)(i:g->Prop)(a:∀m,i m->TR P n y (d m) Q)(k:(∀m,i m->fA n .normal (d m) (tX P y Q))->TR P n x f (tX P y Q)):TR P n (.seq x y) f Q:=
 j (k λm l=>aL<|a m l)
def jH{P}{n}{x y}{f}{Q}d(a:TR P n y d Q)(g:fA n .normal d (tX P y Q)->TR P n x f (tX P y Q)):TR P n (.seq x y) f Q:=
 j (g<|aL a)
def dB{n}{d}{f a}{Q}(g:fA n d a Q)(i:Wk f a):fA n d f Q:=G5 i g
def BE x d s(f:0<=x)(g:x%2^s=0)(i:0<=d)(a:d<2^s)(n:x+d<18446744073709551616):
  ay .u64 ((jm (dm .u64) x|||jm (dm .u64) d).toNat:G)=x+d:=by
 obtain⟨X,rfl⟩:=BF f
 obtain⟨C,rfl⟩:=BF i
 have k:((X:G)%2^s)=((X%2^s:Y):G):=az
 rw[k]at g
 have a:C<2^s:=by
  have:((C:Y):G)<((2^s:Y):G):=by rw[uv];exact a
  omega
 have l:(jm (dm .u64) (X:G)|||jm (dm .u64) (C:G)).toNat=X+C:=by
  rw[Mm,Mm,BitVec.toNat_or,Mn,Mn,show dm .u64=64 from J,o6 O,o6 O];have m:X=2^s*(X/2^s):=by have:=rC X<|2^s;omega
  rw[m,<-Nat.two_pow_add_eq_or_of_lt a]
 rw[l,wrap_u64 _ O O];omega
def zf x s(a:0<=x)(d:s<=64)(f:x*2^s<18446744073709551616):ay .u64 (x*2^(min (af ((s:Y):G))<|dm .u64))=x*2^s:=by rw[bY,show min s (dm .u64)=s from oh d,wrap_u64 _ (jx a<|Zv D) f]
def zg(x:G) s(a:s<=64):x.fdiv (2^(min (af ((s:Y):G))<|dm .u64))=x/2^s:=by rw[bY,show min s (dm .u64)=s from oh a,BD _<|Zv D]
def Zw(x:G) s(a:s<=32):x.fdiv (2^(min (af ((s:Y):G))<|dm .u32))=x/2^s:=by rw[bY,show min s (dm .u32)=s from oh a,BD _<|Zv D]
def ak3(x:Y)(t:0<x)(v:x<4294967296):∃l:Y,r q 245 [cW x] (R l)/\l<=32/\1<=l/\x<2^l/\2^l<=2*x:=by
 obtain⟨y,n,p,hy,ex⟩:∃y n:Y,(n=0/\y=x/\x<256\/n=8/\y=x/256/\256<=x/\x<65536\/n=16/\y=x/65536/\65536<=x/\x<16777216\/n=24/\y=x/65536/256/\16777216<=x)/\y<256/\0<y:=by
  by_cases a1:x<256
  .exact⟨x,0,.inl ⟨J,J,a1⟩,a1,t⟩
  .by_cases a2:x<65536
   .exact⟨x/256,8,.inr<|.inl ⟨J,J,O,a2⟩,O,O⟩
   .by_cases u:x<16777216
    .exact⟨x/65536,16,.inr<|.inr<|.inl ⟨J,J,O,u⟩,O,O⟩
    .exact⟨x/65536/256,24,.inr<|.inr<|.inr ⟨J,J,O⟩,O,O⟩
 let ⟨l,el,A,h2,s⟩:=akZ hy;have s:2^l<=2*y:=O;have B:1<=l:=by
  by_cases e:l=0
  .subst e;simp at h2;omega
  .omega
 refine⟨n+l,?_,O,O,?_,?_⟩
 .have g:(x:G).fdiv (2^(min (af ((16:Y):G))<|dm .u32))=((x/65536:Y):G):=by rw[Zw _ _ O];omega
  have o:∀k:Y,(k:G).fdiv (2^(min (af ((8:Y):G))<|dm .u32))=((k/256:Y):G):=λk=>by rw[Zw _ _ O];omega
  have Zx:∀k:Y,k<256->ay .u8 (k:G)=(k:G):=λk C=>by simp[ay,dm,Eo];omega
  refine aI Tryz.func245 ?_;refine N J<|j<|N J ?_;refine al J (λm=>?_)<|λm=>?_
  .have m:65536<=x:=by have m:(65536:G)<=(x:G):=aU m;omega
   refine N J (hp:=aF)<|rt J<|aL<|j<|N J ?_;refine al J (λd=>?_)<|λd=>?_
   .have d:256<=x/65536:=by have d:(256:G)<=(x:G).fdiv (2^(min (af ((16:Y):G))<|dm .u32)):=aU d;rw[g]at d;omega
    refine N J (hp:=aF)<|rt J (hp:=aF)<|aL ?_;refine eP (st':=⟨[(0,cW y),(2,R n)],[],9,[]⟩) (wk ⟨⟨_,J,bl.of_eq<|DT<|by show R8 (R8 (x:G)<|2^(min (af ((16:Y):G))<|dm .u32)) (2^(min (af ((8:Y):G))<|dm .u32))=_;rw[g,o];omega⟩,⟨_,J,bl.of_eq<|je O⟩,h⟩ h) ?_;refine F<|rx (x:= .c<|.I .u8 l) (pm:= .le 0<|ay .u8 (y:G)) J (Mk J J J J Mp) Mq (hp:=aF)<|z J (hp:=aF)<|bU J<|je ?_;show(n:G)+(l:G)=((n+l:Y):G);omega
   .have d:x/65536<256:=by have d:¬(256:G)<=(x:G).fdiv (2^(min (af ((16:Y):G))<|dm .u32)):=a6 d;rw[g]at d;omega
    refine aD ?_;refine eP (st':=⟨[(0,cW y),(2,R n)],[],5,[]⟩) (wk ⟨⟨_,J,bl.of_eq<|DT<|by show R8 (x:G) (2^(min (af ((16:Y):G))<|dm .u32))=_;rw[g];omega⟩,⟨_,J,bl.of_eq<|je O⟩,h⟩ h) ?_;refine F<|rx (x:= .c<|.I .u8 l) (pm:= .le 0<|ay .u8 (y:G)) J (Mk J J J J Mp) Mq (hp:=aF)<|z J (hp:=aF)<|bU J<|je ?_;show(n:G)+(l:G)=((n+l:Y):G);omega
  .have m:x<65536:=by have m:¬(65536:G)<=(x:G):=a6 m;omega
   refine aD<|j<|N J ?_;refine al J (λd=>?_)<|λd=>?_
   .have d:256<=x:=by have d:(256:G)<=(x:G):=aU d;omega
    refine N J (hp:=aF)<|rt J (hp:=aF)<|aL ?_;refine eP (st':=⟨[(0,cW y),(2,R n)],[],5,[]⟩) (wk ⟨⟨_,J,bl.of_eq<|DT<|by show R8 (x:G) (2^(min (af ((8:Y):G))<|dm .u32))=_;rw[o];omega⟩,⟨_,J,bl.of_eq<|je O⟩,h⟩ h) ?_;refine F<|rx (x:= .c<|.I .u8 l) (pm:= .le 0<|ay .u8 (y:G)) J (Mk J J J J Mp) Mq (hp:=aF)<|z J (hp:=aF)<|bU J<|je ?_;show(n:G)+(l:G)=((n+l:Y):G);omega
   .have d:x<256:=by have d:¬(256:G)<=(x:G):=a6 d;omega
    refine aD ?_;refine eP (st':=⟨[(0,cW y),(2,R n)],[],3,[]⟩) (wk ⟨⟨_,J,bl.of_eq<|DT (O:(x:G)=(y:G))⟩,⟨_,J,bl.of_eq<|je O⟩,h⟩ h) ?_;refine F<|rx (x:= .c<|.I .u8 l) (pm:= .le 0<|ay .u8 (y:G)) J (Mk J J J J Mp) Mq (hp:=aF)<|z J (hp:=aF)<|bU J<|je ?_;show(n:G)+(l:G)=((n+l:Y):G);omega
 .rcases p with⟨f,i,a⟩|⟨f,i,a⟩|⟨f,i,a⟩|⟨f,i,a⟩
  .subst f i;simpa using h2
  .subst f;rw[k4];omega
  .subst f;rw[k4];omega
  .subst f;rw[k4];omega
 .rcases p with⟨f,i,a⟩|⟨f,i,a⟩|⟨f,i,a⟩|⟨f,i,a⟩
  .subst f i;simpa using s
  .subst f;rw[k4];omega
  .subst f;rw[k4];omega
  .subst f;rw[k4];omega
end Go.El
