/- Contracts: products of words. Own work; no condition. -/
import Derived.Test.YtceihkmakfdcnaaGreatH4
import Derived.Test.YtceihkmakfdcnaaGreatH1
set_option linter.all false
set_option maxHeartbeats 16000000
set_option maxRecDepth 100000
open BitVec renaming ofInt->iG
open Bool renaming false->ah,true->ae
open Decidable renaming byContradiction->F'
open Go.El renaming rr->I,cS->N,ar5->c,jt->S,jg->M,re->j,cI->y,mH->b,rb->R,vK->r
open Go.IntKind renaming wrap->aw,bits->cY,signed->CP
open Go.Proofs.Tryz renaming prog->z
open Int renaming toNat->af,natAbs->aA,ediv_ediv_of_nonneg->ahX,gcd->gV,neg_ediv_of_dvd->ah3,pow_nonneg->W7,fdiv->P5
open List renaming length->Z,getD->E,take->h,replicate->bg,drop->az
open Nat renaming gcd->mY
open _root_ renaming List->V,Int->G,Nat->Y
namespace Go.El
open Go Go.Proofs Go.RowKit
structure Pu(a b:V G)(x:Y×V G):Prop where
 i:x.1<=a.length
 len:x.2.length=a.length+b.length
 r:bN x.2
 z:∀d,x.1+b.length<=d->x.2.getD d 0=0
 v:val x.2=val (a.take x.1)*val b
structure Ag(a b:V G)(i:Y)(x:Y×V G×G):Prop where
 k:x.1<=b.length
 len:x.2.1.length=a.length+b.length
 r:bN x.2.1
 z:∀d,i+b.length<=d->x.2.1.getD d 0=0
 c0:0<=x.2.2
 c1:x.2.2<4294967296
 v:val x.2.1+x.2.2*4294967296^(i+x.1)=val (a.take i)*val b+a.getD i 0*val (b.take x.1)*4294967296^i
def FZ{x a:G}(f:0<=x)(d:x<=4294967295)(e:0<=a)(g:a<=4294967295):0<=x*a/\x*a<=18446744065119617025:=by refine⟨iP f e,?_⟩;have i:x*a<=4294967295*a:=gL d e;omega
def Ag.next{a d}{i}{x}(f:Ag a d i x)(H:i<Z a)(l:x.1<Z d)(m:bN a)(n:bN d):Ag a d i (x.1+1,x.2.1.set (i+x.1)<|(E a i 0*E d x.1 0+E x.2.1 (i+x.1) 0+x.2.2)%4294967296,(E a i 0*E d x.1 0+E x.2.1 (i+x.1) 0+x.2.2)/4294967296):=by
 have o:=db m i;have p:=db n x.1;have K:=f.c0;have L:=f.c1;have P:=db f.r<|i+x.1;have Q:=FZ o.1 O p.1 O;have g:i+x.1<Z x.2.1:=by rw[f.len];omega
 refine⟨l,by simp[f.len],xv f.r _ ⟨O,O⟩,?_,(by show 0<=_/_;omega),(by show _/_<(4294967296:G);omega),?_⟩
 .intro j t;simp only;rw[sX _ _ _ _ g,w O];exact f.z j t
 .simp only;rw[NM _ _ _ g,jE,<-pW,fb];have u:=f.v;have k:(4294967296:G)^(i+x.1)=4294967296^i*4294967296^x.1:=Int.pow_add ..;generalize U:(4294967296:G)^(i+x.1)=q at u k⊢;generalize ht:E a i 0*E d x.1 0+E x.2.1 (i+x.1) 0+x.2.2=s;have B:s%4294967296+s/4294967296*4294967296=s:=O;have e:s%4294967296*q+s/4294967296*(q*4294967296)=s*q:=by rw[show s/4294967296*(q*4294967296)=s/4294967296*4294967296*q by grind,<-mJ,B]
  have W:s*q=E a i 0*E d x.1 0*q+E x.2.1 (i+x.1) 0*q+x.2.2*q:=by rw[<-ht];grind
  have C:(s%4294967296-E x.2.1 (i+x.1) 0)*q=s%4294967296*q-E x.2.1 (i+x.1) 0*q:=by grind
  have F:E a i 0*(val (h x.1 d)+E d x.1 0*4294967296^x.1)*4294967296^i=E a i 0*val (h x.1 d)*4294967296^i+E a i 0*E d x.1 0*q:=by rw[k];grind
  rw[C,F];omega
def Ag.done{a e}{i}{o}{g}(d:Ag a e i (Z e,o,g))(l:i<Z a):Pu a e (i+1,o.set (i+Z e) g):=by
 have f:Z o=Z a+Z e:=d.len;have m:=d.c0;have n:=d.c1;have p:E o (i+Z e) 0=0:=d.z _<|aW _;refine⟨l,by simp[f],xv d.r _ ⟨m,n⟩,?_,?_⟩
 .intro j q;simp only at q⊢;rw[sX _ _ _ _ O,w O];exact d.z j O
 .simp only;rw[FW _ _ _ O p,jE];have k:=d.v;simp only[fR]at k;rw[k];grind
def ahP a d(B:bN a)(F:bN d)(la:Z a<=1099511627776)(lb:Z d<=1099511627776):r z 146 [N al a,N al d] (N al<|b<|af<|val a*val d):=by
 refine aJ Tryz.func146 ?_;refine I J<|R ?_;refine rm al (Z a+Z d) J J J J J J (lH .u32) J ?_ ?_ ?_
 .show _*4<=_;omega
 .show _*1<=_;omega
 refine j J<|M<|I J ?_;refine ay<|bf (α:=Y×V G) (λx=>⟨[(0,N al a),(1,N al d),(5,.c<|.X 1005000),(6,y x.1)],[(1005000,.vec 142 al x.2)],3,[]⟩) (Pu a d) (λx=>Z a-x.1) (0,bg (Z a+Z d) 0) ?_ ?_ ?_
 .refine⟨a8 _,ax,pR _,?_,Ae⟩;intro D _;simp only[aM,ll];split<;>rfl
 .exact wk (bJ J) ⟨bR J,A⟩
 .rintro⟨i,o⟩ l;have g:Z o=Z a+Z d:=l.len;refine M<|I J ?_;refine c J (λh=>?_) (λh=>?_)
  .have h:i<Z a:=by simpa using h
   refine aD<|M<|ay<|I J<|M<|I J ?_;refine ay<|bf (α:=Y×V G×G) (λx=>⟨[(0,N al a),(1,N al d),(5,.c<|.X 1005000),(6,y i),(7,cU x.2.2),(8,y x.1)],[(1005000,.vec 142 al x.2.1)],6,[]⟩) (Ag a d i) (λx=>Z d-x.1) (0,o,0) ?_ ?_ ?_
   .refine⟨a8 _,g,l.r,l.z,gK _,(by show(0:G)<_;decide),?_⟩;have:=l.v;simp only at this;simp[this,val]
   .exact wk (bJ J) ⟨bR J,A⟩
   .rintro⟨k,o,e⟩ m;have g:Z o=Z a+Z d:=m.len;have p:0<=e:=m.c0;have q:e<4294967296:=m.c1;refine M<|I J ?_;refine c J (λn=>?_) (λn=>?_)
    .have n:k<Z d:=by simpa using n
     have K:=db B i;have L:=db F k;have P:=db m.r<|i+k;simp only at P;have S:=FZ K.1 O L.1 O;refine aD<|M<|ay<|I J ?_ (hp:=jJ);have f:af ((i:G)+(k:G))=i+k:=O;have C:aw .u64 (aw .u64 (aw .u64 (aw .u64 (E a (af (i:G)) 0)*aw .u64 (E d (af (k:G)) 0))+aw .u64 (E o (af<|(i:G)+(k:G)) 0))+e)=E a i 0*E d k 0+E o (i+k) 0+e:=by rw[f,b6,b6,wrap_u64 (E a i 0) O O,wrap_u64 (E d k 0) O O,wrap_u64 (E o (i+k) 0) O O,wrap_u64 (E a i 0*E d k 0) O O,wrap_u64 (E a i 0*E d k 0+E o (i+k) 0) O O,wrap_u64 _ O O]
     have t:=m.next h n B F;simp only at t;generalize ht:E a i 0*E d k 0+E o (i+k) 0+e=s at t C;have u:aw .u32 (s.tmod 4294967296)=s%4294967296:=by rw[lj O,wrap_u32 _ O O]
     have Q:aw .u64 (s.tdiv 4294967296)=s/4294967296:=by rw[sW O,wrap_u64 _ O O]
     refine dW (st':=⟨[(0,N al a),(1,N al d),(5,.c<|.X 1005000),(6,y i),(8,y k),(9,cU s)],[(1005000,.vec 142 al o)],8,[]⟩) (wk ⟨sR J,sR J,sR J,sR J,sR J,sE J ?_,A⟩ ⟨bR J,A⟩) ?_
     .exact bK C
     refine I J<|rt J<|bH<|rt J<|aS (k+1,o.set (i+k)<|s%4294967296,s/4294967296) t (O:Z d-(k+1)<Z d-k)<|wk ⟨sR J,sR J,sR J,sR J,sE J ?_,sE J ?_,A⟩ ⟨bE J ?_,A⟩
     .exact bK Q
     .rfl
     .rw[u,f]
    .have n:¬k<Z d:=by simpa using n
     have U:k=Z d:=by have:=m.k;simp only at this;omega
     subst U;have W:=m.done h;have f:af ((i:G)+(Z d:G))=i+Z d:=O;have u:aw .u32 e=e:=wrap_u32 e p q;refine bh<|aI<|rt J<|bH<|rt J<|aS (i+1,o.set (i+Z d) e) W nY<|wk ⟨sR J,sR J,sR J,sE J ?_,A⟩ ⟨bE J ?_,A⟩
     .rfl
     .rw[u,f]
  .have h:¬i<Z a:=by simpa using h
   have w:i=Z a:=by have:=l.i;simp only at this;omega
   subst w;refine bh<|aI<|c8 1005000 J J J<|R ?_;refine rc J J (ya _)<|j J<|bO J ?_;have H:=l.v;simp only[fR]at H;rw[nM l.r];simp only[H]
def Sm(a:G):Prop:=Z (dP a)<=1099511627776
def sg(neg:Bool)(m:Y):G:=if neg then-(m:G)else m
def yb a:sg (bY a) (aA a)=a:=by
 unfold sg bY;by_cases h:a<0
 .simp[h];omega
 .simp[h];omega
def nZ{m}:0<Z (b m)↔m≠0:=by
 constructor
 .intro h e;subst e;simp[BF]at h
 .intro h;rw[vw h];simp
def WB neg m:(AV.a [.B (neg&&decide (0<Z (b m))),.S al<|b m])=aZ (sg neg m):=by
 have d:bY (sg neg m)=(neg&&decide (0<Z (b m))):=by
  unfold bY sg;cases neg with
  |false=>simp
  |true=>
   simp only[b7,Bool.true_and]
   rw[Bool.eq_iff_iff]
   simp only[decide_eq_true_eq]
   rw[nZ];omega
 have e:aA (sg neg m)=m:=by unfold sg;cases neg<;>simp
 unfold aZ;simp only[av,dP,d,e]
def oV neg m:r z 135 [cB neg,N al<|b m] (aZ<|sg neg m):=by have:=ahL neg<|b m;rw[NO,WB]at this;exact this
def iI n(d: -9223372036854775808<=n)(g:n<=9223372036854775807):r z 84 [y n] (aZ n):=by
 refine aJ Tryz.func84 ?_;refine I J<|M<|I J ?_;refine c J (λh=>?_)<|λh=>?_
 .have h:n<0:=by simpa using h
  have e:aw .u64 (aw .u64 (0-(n+1))+1)=(af (-n):Y):=by rw[wrap_u64 (0-(n+1)) O O,wrap_u64 _ O O];omega
  refine R ?_;refine rc J J (f:=136) (r:=N al<|b<|af<| -n) (by rw[e];exact CQ _ O) ?_;refine rc J J (oV ae _)<|j J<|bI<|cG<|eB J ?_;have a:sg ae (af<| -n)=n:=by unfold sg;simp;omega
  rw[a];rfl
 .have h:¬n<0:=by simpa using h
  have e:aw .u64 n=(af n:Y):=by rw[wrap_u64 _ O O];omega
  refine aD<|R ?_;refine rc J J (f:=136) (r:=N al<|b<|af n) (by rw[show(AV.c (num .u64 n).1)=cU ((af n:Y):G)from bK e];exact CQ _ O) ?_;refine rc J J (oV ah _)<|j J<|bO J ?_;have a:sg ah (af n)=n:=by unfold sg;simp;omega
  rw[a];rfl
def eS(a:G):G:=if a<0 then-1 else if a=0 then 0 else 1
def Ah a:r z 94 [aZ a] (y<|eS a):=by
 refine aJ Tryz.func94 ?_;refine I J<|M<|I J ?_;refine c J (λh=>?_)<|λh=>?_
 .have h:a<0:=by simpa[bY]using h
  refine I J<|bI<|cG<|eB J ?_;rw[eS,ao h];rfl
 .have h:¬a<0:=by simpa[bY]using h
  refine aD<|I J<|bO J ?_;have e:(if ae=ah then(0:G)else if(1:G)<Z (dP a)then 1 else Z (dP a))=eS a:=by
   rw[w T,eS,w h];by_cases d:a=0
   .subst d;rfl
   .have:0<Z (dP a):=nZ.2 O;rw[w d];split<;>omega
  exact iz e
def WC a:r z 97 [aZ a] (aZ<| -a):=by
 refine aJ Tryz.func97 ?_;refine I J<|R ?_;refine rc J J (oV (!bY a)<|aA a)<|j J<|bO J ?_;have d:sg (!bY a) (aA a)= -a:=by
  unfold sg bY;by_cases h:a<0
  .simp[h];omega
  .simp[h];omega
 rw[d];rfl
def F1 m k:r z 144 [N al (b m),N al<|b k] (y<|dz m k):=by have:=ahM (b m) (b k) (dE m) (dE k) (tQ m)<|tQ k;rw[dU,dU]at this;exact this
def J3 a f:r z 95 [aZ a,aZ f] (y<|dz a f):=by
 refine aJ Tryz.func95 ?_;refine I J<|M<|R ?_;refine rg 7 J J (λh=>?_)<|λh=>?_
 .have i:a<0:=by simpa[bY]using h
  refine j J<|c J (λg=>?_)<|λg=>?_
  .have l:¬f<0:=by simpa[bY]using g
   refine I J<|bI<|cG<|eB J ?_;rw[dz,ao O];rfl
  .have l:f<0:=by simpa[bY]using g
   refine aD<|M<|R ?_;refine rg 15 J J (λk=>?_)<|λk=>?_
   .simp[bY,i]at k
   .refine j J<|c J (λd=>by simp at d)<|λ_=>?_;refine aD<|M<|I J ?_;refine c J (λd=>?_) (λd=>?_)
    .refine bw J J (F1 _ _) J<|bI<|cG<|eB J ?_;have e:dz (aA f) (aA a)=dz a f:=by unfold dz;split<;>split<;>(try split)<;>omega
     exact iz e
    .simp[bY,i]at d
 .have i:¬a<0:=by simpa[bY]using h
  refine j J<|c J (λg=>by simp at g)<|λg=>?_;refine aD<|M<|R ?_;refine rg 15 J J (λk=>?_)<|λk=>?_
  .refine j J (c J (λd=>?_)<|λd=>?_)
   .have l:f<0:=by simpa[bY]using d
    refine I J<|bI<|cG<|eB J ?_;rw[dz,w O,ao O];rfl
   .have l:¬f<0:=by simpa[bY]using d
    refine aD<|M<|I J ?_;refine c J (λd=>?_)<|λd=>?_
    .simp[bY,i]at d
    .refine aD<|bw J J (F1 _ _) J<|bO J ?_;have e:dz (aA a) (aA f)=dz a f:=by unfold dz;split<;>split<;>(try split)<;>omega
     exact iz e
  .simp[bY,i]at k
def WD m k(a:Z (b m)<=1099511627776)(d:Z (b k)<=1099511627776):r z 143 [N al (b m),N al<|b k] (N al<|b<|m+k):=by have:=ahN (b m) (b k) (dE m) (dE k) a d;rw[dU,dU,(O:af ((m:G)+(k:G))=m+k)]at this;exact this
def rL{m k}(a:m<=k):Z (b m)<=Z (b k):=zm (by have:=sj (n:=k);omega)
def Pv m k(a:k<=m)(d:Z (b m)<=1099511627776):r z 145 [N al (b m),N al<|b k] (N al<|b<|m-k):=by have:=ahO (b m) (b k) (dE m) (dE k) (rL a) (by rw[dU,dU];omega) d;rw[dU,dU,(O:af ((m:G)-(k:G))=m-k)]at this;exact this
def Pw m k(a:Z (b m)<=1099511627776)(d:Z (b k)<=1099511627776):r z 146 [N al (b m),N al<|b k] (N al<|b<|m*k):=by have:=ahP (b m) (b k) (dE m) (dE k) a d;rw[dU,dU,show af ((m:G)*(k:G))=m*k by rw[<-eY];rfl]at this;exact this
def kd a d(k:Sm a)(l:Sm d):r z 91 [aZ a,aZ d] (aZ<|a*d):=by
 refine Cf Tryz.func91 J J J J J T ?_;refine I J<|R ?_;refine rc J J (Pw _ _ k l)<|rc J J (oV _ _)<|j J<|bI<|g7 cj J<|bm.of_eq ?_;have m:sg (bY a !=bY d) (aA a*aA d)=a*d:=by have e:=yb a;have f:=yb d;generalize aA a=x at e⊢;generalize aA d=y at f⊢;cases g:bY a<;>cases i:bY d<;>rw[g]at e<;>rw[i]at f<;>simp only[sg,b7,bL,hY]at e f<;>rw[<-e,<-f]<;>simp[sg]<;>grind
 exact a6 aZ m
def we a d(i:Sm a)(k:Sm d):r z 90 [aZ a,aZ d] (aZ<|a+d):=by
 refine aJ Tryz.func90 ?_;refine I J<|M<|I J ?_;refine c J (λh=>?_)<|λh=>?_
 .have h:bY a=bY d:=by simpa using h
  refine R<|rc J J (WD _ _ i k)<|rc J J (oV _ _)<|j J<|bI<|cG<|eB J ?_;have e:sg (bY a) (aA a+aA d)=a+d:=by unfold bY sg at*;by_cases f:a<0<;>by_cases h2:d<0<;>simp[f,h2]at h⊢<;>omega
  exact a6 aZ e
 .have h:bY a≠bY d:=by simpa using h
  refine aD<|M<|bw J J (F1 _ _) J ?_;refine c J (λh2=>?_)<|λh2=>?_
  .have h2:aA a<aA d:=by
    have h2:dz (aA a) (aA d)<0:=oO;unfold dz at h2;split at h2
    .omega
    .split at h2<;>omega
   refine R<|rc J J (Pv _ _ O k)<|rc J J (oV _ _)<|j J<|bI<|cG<|eB J ?_;have e:sg (bY d) (aA d-aA a)=a+d:=by unfold bY sg at*;by_cases f:a<0<;>by_cases g:d<0<;>simp[f,g]at h⊢<;>omega
   exact a6 aZ e
  .have h2:aA d<=aA a:=by
    have h2:¬dz (aA a) (aA d)<0:=oO;unfold dz at h2;split at h2
    .omega
    .omega
   refine aD<|R<|rc J J (Pv _ _ O i)<|rc J J (oV _ _)<|j J<|bO J ?_;have e:sg (bY a) (aA a-aA d)=a+d:=by unfold bY sg at*;by_cases f:a<0<;>by_cases g:d<0<;>simp[f,g]at h⊢<;>omega
   exact a6 aZ e
def ahQ(m k:Y)(d:m<18446744073709551616)(f:k<18446744073709551616):r z 184 [cU m,cU k] (cU<|mY m k):=by
 refine aJ Tryz.func184 ?_;refine I J<|M<|ay<|bf (α:=Y×Y) (λx=>⟨[(0,cU x.1),(1,cU x.2)],[],1,[]⟩) (λx=>mY x.1 x.2=mY m k/\x.1<18446744073709551616/\x.2<18446744073709551616) (λx=>x.2) (m,k) ⟨J,d,f⟩ aU ?_;rintro⟨x,y⟩ ⟨hg,hx,a⟩;simp only at hg hx a;refine M<|I J ?_;refine c J (λh=>?_)<|λh=>?_
 .have h:0<y:=by have:(y:G)>0:=dL;omega
  refine aD<|ay<|I J<|I J<|rt J<|eL<|aS (y,x%y) ⟨?_,a,?_⟩ ?_<|wk ⟨sR J,sE J ?_,A⟩ A
  .rw[<-hg,yc x y,Nat.gcd_rec y x,yc]
  .exact hP (fg _ h)<|xw a
  .exact fg _ h
  .have e:(x:G).tmod (y:G)=((x%y:Y):G):=by rw[lj O];omega
   exact bK e
 .have h:y=0:=by have:¬(y:G)>0:=dL;omega
  subst h;refine bh<|aI<|I J<|bO J ?_;rw[<-hg,J4]
def WE m:E (b m) 0 0=((m%4294967296:Y):G):=by
 by_cases h:m=0
 .subst h;rfl
 .rw[vw h];rfl
def ahR m(a:m<18446744073709551616):E (b m) 1 0=((m/4294967296:Y):G):=by
 by_cases h:m=0
 .subst h;rfl
 .rw[vw h,NN,WE];congr 1;omega
def Px m(a:m<18446744073709551616):r z 185 [N al (b m)] (cU m):=by
 refine aJ Tryz.func185 ?_;refine I J<|R ?_;refine rc J J (Ad _ 1<|dE m)<|rc J J (Ad _ 0<|dE m)<|j J<|bO J ?_;have e:aw .u64 (aw .u64 (E (b m) 1 0*4294967296)+E (b m) 0 0)=m:=by rw[WE,ahR m a,wrap_u64 (((m/4294967296:Y):G)*4294967296) O O,wrap_u64 _ O O];omega
 exact bK e
def F3{m}(a:m<18446744073709551616):Z (b m)<=2:=zm (O:(m:G)<4294967296^2)
structure CS(a:V G)(d:G)(x:Y×V G×G):Prop where
 k:x.1<=a.length
 len:x.2.1.length=a.length
 r:bN x.2.1
 r0:0<=x.2.2
 r1:x.2.2<d
 v:val (a.drop x.1)=val (x.2.1.drop x.1)*d+x.2.2
def drop_cons(l:V G) a(d:a<Z l):az a l=E l a 0::az (a+1) l:=by rw[qk d];simp[aM,cK d]
def J5{e a d:G}(g:0<=e)(i:e<d)(k:0<=a)(l:a<4294967296)(m:d<4294967296):0<=e*4294967296+a/\e*4294967296+a<18446744073709551616/\0<=(e*4294967296+a)/d/\(e*4294967296+a)/d<4294967296/\0<=(e*4294967296+a)%d/\(e*4294967296+a)%d<d:=by have f:0<d:=O;refine⟨O,O,xy O O,?_,ij _ O,ik _ f⟩;apply BI f;have:(e+1)*4294967296<=d*4294967296:=gL O T;omega
def CS.next{a}{d}{e}{q}{f}(i:CS a d (e+1,q,f))(m:bN a)(n:d<4294967296):CS a d (e,q.set e<|(f*4294967296+E a e 0)/d,(f*4294967296+E a e 0)%d):=by have g:=db m e;have o:0<=f:=i.r0;have p:f<d:=i.r1;have l:=J5 o p g.1 g.2 n;have u:e+1<=Z a:=i.k;have s:Z q=Z a:=i.len;refine⟨by show e<=_;omega,by simp[s],xv i.r _ ⟨l.2.2.1,l.2.2.2.1⟩,l.2.2.2.2.1,l.2.2.2.2.2,?_⟩;have t:val (az (e+1) a)=val (az (e+1) q)*d+f:=i.v;simp only;rw[drop_cons a e O,drop_cons (q.set e _) e bV,sX _ _ _ _ O,ao J,List.drop_set_of_lt O];simp only[val];rw[t];have:=mZ (f*4294967296+E a e 0) d;generalize (f*4294967296+E a e 0)/d=x at*;generalize (f*4294967296+E a e 0)%d=y at*;grind
def WG a d(n:bN a)(i:0<d)(o:d<4294967296)(U:Z a<=1099511627776):r z 217 [N al a,cU d] (.t [(ah,[.S al (b<|af<|val a/d)]),(ah,[.I .u64 (val a%d)])]):=by
 refine aJ Tryz.func217 ?_;refine I J<|R ?_;refine rm al (Z a) J J J J J J (lH .u32) J ?_ ?_ ?_
 .show _*4<=_;omega
 .show _*1<=_;omega
 refine re J<|I J<|M<|I J ?_;refine ay<|bf (α:=Y×V G×G) (λx=>⟨[(0,N al a),(1,cU d),(6,.c<|.X 1002000),(7,cU x.2.2),(8,y<|(x.1:G)-1)],[(1002000,.vec 142 al x.2.1)],4,[]⟩) (CS a d) (λx=>x.1) (Z a,bg (Z a) 0,0) ?_ ?_ ?_
 .exact⟨aW _,ax,pR _,gK _,i,wg⟩
 .exact wk (bJ J) ⟨bR J,A⟩
 .rintro⟨k,q,e⟩ f;have p:Z q=Z a:=f.len;have l:0<=e:=f.r0;have m:e<d:=f.r1;have W:k<=Z a:=f.k;refine M<|I J ?_;refine c J (λh=>?_) (λh=>?_)
  .have h:(k:G)-1>=0:=by simpa using h
   obtain⟨j,rfl⟩:∃j,k=j+1:=⟨k-1,O⟩;have u:af (((j+1:Y):G)-1)=j:=O;have g:=db n j;have H:=J5 l m g.1 g.2 o;have B:=f.next n o;refine aD<|M<|ay<|I J ?_;have C:aw .u64 (aw .u64 (e*4294967296)+aw .u64 (E a (af<|((j+1:Y):G)-1) 0))=e*4294967296+E a j 0:=by rw[u,wrap_u64 (e*4294967296) O O,wrap_u64 (E a j 0) O O,wrap_u64 _ O O]
   generalize ht:e*4294967296+E a j 0=s at B H C;have K:aw .u32 (aw .u64<|s.tdiv d)=s/d:=by rw[sW O,wrap_u64 _ O O,wrap_u32 _ O O]
   have L:s.tmod d=s%d:=lj O;refine dW (st':=⟨[(0,N al a),(1,cU d),(6,.c<|.X 1002000),(8,y<|((j+1:Y):G)-1),(9,cU s)],[(1002000,.vec 142 al q)],6,[]⟩) (wk ⟨sR J,sR J,sR J,sR J,sE J ?_,A⟩ ⟨bR J,A⟩) ?_
   .exact bK C
   refine I J<|rt J<|bH<|rt J<|aS (j,q.set j<|s/d,s%d) B rK<|wk ⟨sR J,sR J,sR J,sE J ?_,sE J ?_,A⟩ ⟨bE J ?_,A⟩
   .exact bK L
   .refine iz ?_;show((j+1:Y):G)-1-1=(j:G)-1;omega
   .rw[K,u]
  .have h:¬((k:G)-1>=0):=by simpa using h
   have:k=0:=O;subst this;refine bh<|aI<|c8 1002000 J J J<|R ?_;refine rc J J (ya _)<|re J<|bO J ?_;have F:val a=val q*d+e:=f.v;have P:bN q:=f.r;have eq:val a/d=val q:=by rw[F,ux,Ai _ _ O,CT l m];omega
   have Q:val a%d=e:=by rw[F,ux,Py,gx l m]
   rw[nM P,eq,Q];rfl
def bm.t2{x f i}(d:bm (.c x) (.c f)):bm (.t [(ah,[x]),(ah,[i])]) (.t [(ah,[f]),(ah,[i])]):=by
 refine⟨?_,?_⟩
 .rintro g v ⟨vs,rfl,v1,r,rfl,k,e⟩;exact⟨_,J,v1,r,J,d.1 g v1 k,e⟩
 .intro l a;have e:=d.2 l;simp only[AV.ak,eo,bP,g8,aY]at a e⊢;exact a.elim (λd=> .inl<|e d) .inr
def ahS m k(a:k≠0)(e:m<k\/k<4294967296)(g:Z (b m)<=1099511627776):r z 186 [N al (b m),N al<|b k] (.t [(ah,[.S al (b<|m/k)]),(ah,[.S al (b<|m%k)])]):=by
 refine aJ Tryz.func186 ?_;refine I J<|M<|bw J J (F1 m k) J ?_;refine c J (λh2=>?_)<|λh2=>?_
 .have h2:m<k:=by
   have h2:dz m k<0:=oO;unfold dz at h2;split at h2
   .omega
   .split at h2<;>omega
  refine I J<|bI<|cG<|g7 cj J ?_;rw[Aj h2,n5 h2];exact bm.t2<|bm.nil al
 .have h2:¬m<k:=by have h2:¬dz m k<0:=oO;unfold dz at h2;split at h2<;>omega
  have i:k<4294967296:=e.resolve_left h2;have l:b k=[(k:G)]:=by rw[vw a,(O:k%4294967296=k),(O:k/4294967296=0)];rfl
  refine aD<|M<|I J ?_;rw[l];refine c J (λd=>?_) (λd=>by simp at d);refine R ?_;have n:aw .u64 (k:G)=k:=wrap_u64 _ O O;refine rc J J (f:=217) (r:= .t [(ah,[.S al (b<|m/k)]),(ah,[.I .u64 ((m%k:Y):G)])]) ?_ ?_
  .have:=WG (b m) k (dE m) O O g;rw[dU,show af ((m:G)/(k:G))=m/k from J,show(m:G)%(k:G)=((m%k:Y):G)from J]at this;rw[show(AV.c (num .u64<|[(k:G)].getD (af (0:G)) 0).1)=cU (k:G)from bK n];exact this
  refine j J<|bw J J (CQ _ ?_) J<|bI<|cG<|atR J;have:=fg m<|qn a;omega
def PA a B(d:0<B):(aA a:G)=((aA a%B:Y):G)+(B:G)*((aA a/B:Y):G)/\aA a%B<B:=by refine⟨?_,fg _ d⟩;have:=Nat.mod_add_div (aA a) B;rw[<-eY,<-wh,this]
def WH{a}{B:Y}(d:0<B)(e:¬a<0):a/(B:G)=((aA a/B:Y):G)/\a%(B:G)=((aA a%B:Y):G):=by let ⟨f,h2⟩:=PA a B d;exact(PB O).2 ⟨O,O,O⟩
def WI{a}{B}(d:0<B)(g:a<0)(e:aA a%B=0):a/(B:G)= -((aA a/B:Y):G)/\a%(B:G)=0:=by let ⟨f,h2⟩:=PA a B d;refine(PB O).2 ⟨?_,O,O⟩;rw[e]at f;rw[Int.mul_neg];omega
def WJ{a}{B}(d:0<B)(e:a<0)(f:aA a%B≠0):a/(B:G)= -((aA a/B+1:Y):G)/\a%(B:G)=((B-aA a%B:Y):G):=by let ⟨g,h2⟩:=PA a B d;refine(PB O).2 ⟨?_,O,O⟩;rw[Int.mul_neg,wh,nq];omega
def CU a d(q k:Y)(f:a/(aA d:G)=sg (bY a) q)(g:a%(aA d:G)=k):a/d=sg (bY a !=bY d) q/\a%d=sg ah k:=by
 by_cases l:d<0
 .have e:d= -(aA d:G):=by omega
  have i:bY d=ae:=by simp[bY,l]
  rw[e,Ak,Int.emod_neg,<-e,f,g,i];refine⟨?_,J⟩;unfold sg;cases bY a<;>simp
 .have e:d=(aA d:G):=by omega
  have i:bY d=ah:=by simp[bY,l]
  rw[<-e]at f g;rw[f,g,i];refine⟨?_,J⟩;cases bY a<;>rfl
def qo:Y->G->G->G->G->G->G
 |0,q,_,_,_,_=>q
 |f+1,q,a,v1,v2,u2=>if q>=4294967296\/q*v2>a*4294967296+u2 then(if a+v1>=4294967296 then q-1 else qo f (q-1) (a+v1) v1 v2 u2)else q
def J6{x g k B v t m F u:G}(d:Kn1 x g k B v t m F u):∀(f:Y)(q a:G),t=q*g+a->0<=a->a<4294967296->4294967296<=a+f*2147483648->u/v<=q->u/v<=qo f q a g k m/\qo f q a g k m<=u/v+1/\qo f q a g k m<4294967296
 |0,q,a,_,_,h2,H,_=>by omega
 |f+1,q,a,ht,P,h2,H,L=>by
  have q0:=d.q0;have BH:=d.BH;have C:=d.oG;rw[qo];split
  .rename_i i;have K:u/v<q:=by
    rcases i with i|i
    .omega
    .exact d.down ht O i
   have l:t=(q-1)*g+(a+g):=by rw[Ez,jR];omega
   split
   .rename_i p;have s:=d.afa l p;have i:q-1-1<=u/v:=d.close l O s (by have Q:(q-1)*k<=4294967296*4294967296:=vA O (by have:=d.Uq;omega) d.zn T;have:=d.iv;omega);exact⟨O,O,s⟩
   .rename_i p;exact J6 d f (q-1) (a+g) l O O O O
  .rename_i i;have n:q<4294967296:=by
    by_cases e:q<4294967296
    .exact e
    .exact absurd (.inl O) i
   have o:q*k<=a*4294967296+m:=by
    by_cases e:q*k<=a*4294967296+m
    .exact e
    .exact absurd (.inr O) i
   have:=d.close ht O n o;exact⟨L,O,n⟩
def CV{a d:G}(e:0<=a):a.tdiv d=a/d:=sW e
def F4{a d:G}(e:0<=a):a.tmod d=a%d:=lj e
def ahT U v a n(F:bN U)(hv:bN v)(hn:Z v=n+2)(hj:a+n+3<=Z U)(hl:Z U<=1099511627777){v' u' u}
  (K:Kn1 (4294967296^n) (E v (n+1) 0) (E v n 0) v' (val v) (E U (a+(n+2)) 0*4294967296+E U (a+(n+1)) 0) (E U (a+n) 0) u' u):
  sV z 218 [.c (.W 0 a<|n+3),N al v] 142 al U (cU<|qo 2 ((E U (a+(n+2)) 0*4294967296+E U (a+(n+1)) 0)/E v (n+1) 0) ((E U (a+(n+2)) 0*4294967296+E U (a+(n+1)) 0)%E v (n+1) 0) (E v (n+1) 0) (E v n 0)<|E U (a+n) 0) U:=by
 refine FT Tryz.func218 J J J J J T ?_
 have g1:=db F<|a+(n+2)
 have g2:=db F<|a+(n+1)
 have g3:=db F<|a+n
 have k1:=db hv<|n+1
 have k2:=db hv n
 have oG:=K.oG
 have a1:af ((Z v:G))=n+2:=O
 have a2:af ((Z v:G)-1)=n+1:=O
 have a3:af ((Z v:G)-2)=n:=O
 generalize hQ:qo 2 ((E U (a+(n+2)) 0*4294967296+E U (a+(n+1)) 0)/E v (n+1) 0) ((E U (a+(n+2)) 0*4294967296+E U (a+(n+1)) 0)%E v (n+1) 0) (E v (n+1) 0) (E v n 0) (E U (a+n) 0)=Q0
 refine I J<|I J<|I J (hp:=jJ) ?_
 rw[a1,a2]
 have e6:aw .u64 (aw .u64 (aw .u64 (E U (a+(n+2)) 0)*4294967296)+aw .u64 (E U (a+(n+1)) 0))=E U (a+(n+2)) 0*4294967296+E U (a+(n+1)) 0:=by rw[wrap_u64 (E U (a+(n+2)) 0) O O,wrap_u64 (E U (a+(n+1)) 0) O O,wrap_u64 (_*_) O O,wrap_u64 _ O O]
 have H:aw .u64 (E v (n+1) 0)=E v (n+1) 0:=wrap_u64 _ O O
 have L:aw .u64 (E v n 0)=E v n 0:=wrap_u64 _ O O
 have P:aw .u64 (E U (a+n) 0)=E U (a+n) 0:=wrap_u64 _ O O
 have i:0<=E U (a+(n+2)) 0*4294967296+E U (a+(n+1)) 0:=O
 have ht1:E U (a+(n+2)) 0*4294967296+E U (a+(n+1)) 0<18446744073709551616:=O
 have Q:=@Kn1.small _ _ _ _ _ _ _ _ _ K
 have di:=@J6 _ _ _ _ _ _ _ _ _ K
 have X:=K.first
 generalize E U (a+(n+2)) 0*4294967296+E U (a+(n+1)) 0=t at*
 generalize l:E v (n+1) 0=v1 at*
 generalize m:E v n 0=v2 at*
 generalize o:E U (a+n) 0=u2 at*
 have p:aw .u64 (E v (af<|(Z v:G)-1) 0)=v1:=by rw[a2,l];exact H
 have x2:aw .u64 (E v (af<|(Z v:G)-2) 0)=v2:=by rw[a3,m];exact L
 have x3:aw .u64 (E U (a+af ((Z v:G)-2)) 0)=u2:=by rw[a3,o];exact P
 have b:0<=t/v1:=xy i O
 have D:0<=t%v1:=ij _ O
 have uy:t%v1<v1:=ik _ O
 have bW:=mZ t v1
 refine dW (st':=⟨[(0,.c<|.W 0 a<|n+3),(1,N al v),(5,y<|Z v),(6,cU t)],[(0,.vec 142 al U)],4,[]⟩) (wk ⟨sR J,sR J,sR J,⟨_,J,bm.of_eq<|bK e6⟩,A⟩ ⟨bR J,A⟩) ?_
 have hp1:((-9223372036854775808<=(Z v:G)-1/\(Z v:G)-1<=9223372036854775807)/\0<=(Z v:G)-1/\(Z v:G)-1<(Z v:G))/\aw .u64 (E v (af<|(Z v:G)-1) 0)≠0:=by rw[p];omega
 refine I J (hp:=WK)<|I J (hp:=WK) ?_
 refine M<|ay<|bf (α:=Y×G×G) (λx=>⟨[(0,.c<|.W 0 a<|n+3),(1,N al v),(5,y<|Z v),(6,cU t),(7,cU x.2.1),(8,cU x.2.2)],[(0,.vec 142 al U)],6,[]⟩) (λx=>qo x.1 x.2.1 x.2.2 v1 v2 u2=Q0/\t=x.2.1*v1+x.2.2/\0<=x.2.2/\x.2.2<4294967296/\4294967296<=x.2.2+x.1*2147483648/\u/val v<=x.2.1) (λx=>x.1) (2,t/v1,t%v1) ⟨hQ,by show t=t/v1*v1+t%v1;rw[et];omega,D,(O:t%v1<4294967296),PC,X⟩ (wk ⟨sR J,sR J,sR J,sR J,sE J ?_,sE J ?_,A⟩ ⟨bR J,A⟩) ?_
 .refine bK ?_;show aw .u64 (t.tdiv<|aw .u64<|E v (af<|(Z v:G)-1) 0)=t/v1;have:=Int.ediv_le_self v1 i;rw[p,CV i,wrap_u64 _ b O]
 .refine bK ?_;show(t.tmod<|aw .u64<|E v (af<|(Z v:G)-1) 0)=t%v1;rw[p,F4 i]
 .rintro⟨f,q,r⟩ ⟨g,h2,h3,h4,h5,h6⟩;simp only at g h2 h3 h4 h5 h6;have F5:=K.q0;have hqs:=Q h2 h3;cases f with
  |zero=>omega
  |succ f=>
  rw[qo]at g;have s:0<=q*v2/\q*v2<18446744073709551616:=by refine⟨iP O O,?_⟩;have:q*v2<=4294967297*4294967295:=vA O O O T;omega
  refine M<|R<|rg 42 J J (λh=>?_)<|λh=>?_
  .have B:q>=4294967296:=by simpa using h
   have e:q>=4294967296\/q*v2>r*4294967296+u2:= .inl B;refine j J (c J (λ_=>?_)<|λd=>by cases d);have S:u/val v<q:=by
    rcases e with e|e
    .have:=K.BH;omega
    .exact K.down h2 O e
   have C:aw .u64 (q-1)=q-1:=wrap_u64 _ O O;have V:aw .u64 (r+aw .u64 (E v (af<|(Z v:G)-1) 0))=r+v1:=by rw[p,wrap_u64 _ O O]
   refine aD<|ay<|I J<|I J (hp:=jJ)<|I J<|c J (λd=>?_)<|λd=>?_
   .have d:r+v1>=4294967296:=by
     have d:4294967296<=aw .u64 (r+aw .u64 (E v (af<|(Z v:G)-1) 0)):=by simpa using d
     omega
    rw[ao e,ao d]at g;refine mU<|Ja<|nv<|mV<|aI<|I J<|bI<|x6 cj J (bm.of_eq ?_) J;refine bK ?_;rw[<-g];exact C
   .have d:¬r+v1>=4294967296:=by
     have d:aw .u64 (r+aw .u64 (E v (af<|(Z v:G)-1) 0))<4294967296:=by simpa using d
     omega
    rw[ao e,w d]at g;refine c7<|eL<|aS (f,q-1,r+v1) ⟨g,J7,J8,J9,J',Ka⟩ (dJ f)<|wk ⟨sR J,sR J,sR J,sR J,⟨_,J,bm.of_eq<|bK C⟩,⟨_,J,bm.of_eq<|bK V⟩,A⟩ ⟨bR J,A⟩
  .have B:¬q>=4294967296:=by have:q<4294967296:=dL;omega
   have w3:aw .u64 (q*aw .u64 (E v (af<|(Z v:G)-2) 0))=q*v2:=by rw[x2,wrap_u64 _ s.1 s.2]
   have w4:aw .u64 (aw .u64 (r*4294967296)+aw .u64 (E U (a+af ((Z v:G)-2)) 0))=r*4294967296+u2:=by rw[x3,wrap_u64 (r*4294967296) O O,wrap_u64 _ O O]
   refine j J (hp:=jJ)<|c J (λk=>?_)<|λk=>?_
   .have e:q>=4294967296\/q*v2>r*4294967296+u2:= .inr (by
     have k:aw .u64 (q*aw .u64 (E v (af<|(Z v:G)-2) 0))>aw .u64 (aw .u64 (r*4294967296)+aw .u64 (E U (a+af ((Z v:G)-2)) 0)):=by simpa using k
     rw[w3,w4]at k;exact k)
    have S:u/val v<q:=by
     rcases e with e|e
     .have:=K.BH;omega
     .exact K.down h2 O e
    have C:aw .u64 (q-1)=q-1:=wrap_u64 _ O O;have V:aw .u64 (r+aw .u64 (E v (af<|(Z v:G)-1) 0))=r+v1:=by rw[p,wrap_u64 _ O O]
    refine aD<|ay<|I J<|I J (hp:=jJ)<|I J<|c J (λd=>?_)<|λd=>?_
    .have d:r+v1>=4294967296:=by
      have d:4294967296<=aw .u64 (r+aw .u64 (E v (af<|(Z v:G)-1) 0)):=by simpa using d
      omega
     rw[ao e,ao d]at g;refine mU<|Ja<|nv<|mV<|aI<|I J<|bI<|x6 cj J (bm.of_eq ?_) J;refine bK ?_;rw[<-g];exact C
    .have d:¬r+v1>=4294967296:=by
      have d:aw .u64 (r+aw .u64 (E v (af<|(Z v:G)-1) 0))<4294967296:=by simpa using d
      omega
     rw[ao e,w d]at g;refine c7<|eL<|aS (f,q-1,r+v1) ⟨g,J7,J8,J9,J',Ka⟩ (dJ f)<|wk ⟨sR J,sR J,sR J,sR J,⟨_,J,bm.of_eq<|bK C⟩,⟨_,J,bm.of_eq<|bK V⟩,A⟩ ⟨bR J,A⟩
   .have e:¬(q>=4294967296\/q*v2>r*4294967296+u2):=by
     have k:¬aw .u64 (q*aw .u64 (E v (af<|(Z v:G)-2) 0))>aw .u64 (aw .u64 (r*4294967296)+aw .u64 (E U (a+af ((Z v:G)-2)) 0)):=by simpa using k
     rw[w3,w4]at k;omega
    rw[w e]at g;subst g;exact bh<|aI<|I J<|bI<|x6 cj J (bm.refl _) J
def bM:Y->G->V G
 |0,_=>[]
 |n+1,x=>x%4294967296::bM n (x/4294967296)
def rM:∀(n:Y)(x:G),Z (bM n x)=n
 |0,_=>rfl
 |n+1,x=>by rw[bM,gQ,rM n]
def F6:∀(n:Y)(x:G),bN (bM n x)
 |0,_=>NK
 |n+1,x=>xt.2 ⟨⟨ij _ T,ik _ T⟩,F6 n _⟩
def n6 n:(4294967296:G)^(n+1)=4294967296^n*4294967296:=fb _ _
def Kb(x:G) n:x/4294967296^(n+1)=x/4294967296^n/4294967296:=by rw[n6,ahX<|by have:=jd n;omega]
def WL(x:G) n:x/4294967296^(n+1)=x/4294967296/4294967296^n:=by rw[n6,et,ahX T]
def PD(x:G) n:x%4294967296^(n+1)=x%4294967296+4294967296*(x/4294967296%4294967296^n):=by
 have f:=mZ x<|4294967296^(n+1);have g:=mZ x 4294967296;have i:=mZ (x/4294967296)<|4294967296^n;rw[WL,n6]at f;rw[n6];generalize x/4294967296/4294967296^n=a at*;generalize x/4294967296%4294967296^n=b at*;generalize x/4294967296=c at*;have e:4294967296^n*4294967296*a=4294967296*(4294967296^n*a):=by rw[et (4294967296^n) 4294967296,iF]
 rw[e]at f;generalize (4294967296:G)^n*a=d at*;omega
def F7:∀(n:Y)(x:G),val (bM n x)=x%4294967296^n
 |0,x=>by rw[n7,Int.emod_one];rfl
 |n+1,x=>by rw[bM,val,F7 n,PD]
def CW:∀(n:Y)(x:G),bM (n+1) x=bM n x++[x/4294967296^n%4294967296]
 |0,x=>by rw[n7,sY];rfl
 |n+1,x=>by rw[bM,CW n,bM,WL];rfl
def Kc:∀(n:Y)(x a:G),x%4294967296^n=a%4294967296^n->bM n x=bM n a
 |0,_,_,_=>rfl
 |n+1,x,a,d=>by rw[PD,PD]at d;rw[bM,bM,Kc n (x/4294967296) (a/4294967296) O,(O:x%4294967296=a%4294967296)]
def PE n x a:bM n (x+a*4294967296^n)=bM n x:=Kc n _ _<|Py _ _ _
def WM:∀{a:V G},bN a->bM (Z a) (val a)=a
 |[],_=>rfl
 |d::a,e=>by let ⟨f,h2⟩:=xt.1 e;rw[gQ,bM,val];rw[(O:(d+4294967296*val a)%4294967296=d),(O:(d+4294967296*val a)/4294967296=val a),WM h2]
def cT(U:V G)(a:Y)(d:V G):V G:=h a U++(d++az (a+Z d) U)
def Kd U a:cT U a []=U:=by simp[cT]
def wi{U}{j}{ws}(a:j+Z ws<=Z U):Z (cT U j ws)=Z U:=by simp[cT];omega
def Ke{U}{j}{ws}(d:j+Z ws<=Z U):E (cT U j ws) (j+Z ws) 0=E U (j+Z ws) 0:=by unfold cT;have a:(h j U).length=j:=bV;rw[aM,B5 O,a,B5 O,uc,aM];congr 2;omega
def Kf{U}{j}{ws}a(d:j+Z ws<Z U):(cT U j ws).set (j+Z ws) a=cT U j (ws++[a]):=by unfold cT;have e:(h j U).length=j:=bV;rw[Kg _ _ O,e,Kg _ _ O,(O:j+Z ws-j-Z ws=0)];rw[qk d,PF,lD,ix];rfl
def PG{U}{e}{a}(d:bN U)(f:bN a):bN (cT U e a):=NL (iE d _)<|NL f<|xu d _
def PH{U}{a}{d}(e:a+Z d<=Z U):az a (cT U a d)=d++az (a+Z d) U:=by unfold cT;have f:(h a U).length=a:=bV;rw[zE O,sB O,sA]
def WN{U}{a}{d}(e:a+Z d<=Z U):h a (cT U a d)=h a U:=by unfold cT;have f:(h a U).length=a:=bV;rw[vG O,iO O]
def PI(U:V G) a i:(az a U).getD i 0=E U (a+i) 0:=by rw[aM,uc,aM]
def WO U v a i q{e c b}(k:e=val ((az a U).take i)-q*val (h i v))(l:e/4294967296^i= -(c+b)):
  (let p:=q*List.getD v i 0+c
   let t:=4294967296+List.getD U (a+i) 0-p%4294967296-b
   let d:=val ((az a U).take<|i+1)-q*val (List.take (i+1) v)
   bM (i+1) d=bM i e++[t%4294967296]/\d/4294967296^(i+1)= -(p/4294967296+(1-t/4294967296))):=by
 intro p t d
 have f:d=e+(E U (a+i) 0-q*E v i 0)*4294967296^i:=by show val ((az a U).take<|i+1)-q*val (h (i+1) v)=_;rw[jE,jE,PI,k,nq,Ez,iF];omega
 have g:d/4294967296^i= -(c+b)+(E U (a+i) 0-q*E v i 0):=by rw[f,Ai _ _ (by have:=jd i;omega),l]
 have m:p=q*E v i 0+c:=rfl
 have n:t=4294967296+E U (a+i) 0-p%4294967296-b:=rfl
 clear_value p t
 refine⟨?_,?_⟩
 .rw[CW,f,PE,<-f,g];congr 2;omega
 .rw[Kb,g];omega
def WQ U v a i{e c}(k:e=val ((az a U).take i)+val (h i v))(l:e/4294967296^i=c):
  (let t:=List.getD U (a+i) 0+List.getD v i 0+c
   let d:=val ((az a U).take<|i+1)+val (List.take (i+1) v)
   bM (i+1) d=bM i e++[t%4294967296]/\d/4294967296^(i+1)=t/4294967296):=by
 intro t d
 have f:d=e+(E U (a+i) 0+E v i 0)*4294967296^i:=by show val ((az a U).take<|i+1)+val (h (i+1) v)=_;rw[jE,jE,PI,k,mJ];omega
 have g:d/4294967296^i=c+(E U (a+i) 0+E v i 0):=by rw[f,Ai _ _ (by have:=jd i;omega),l]
 have m:t=E U (a+i) 0+E v i 0+c:=rfl
 clear_value t
 refine⟨?_,?_⟩
 .rw[CW,f,PE,<-f,g];congr 2;omega
 .rw[Kb,g];omega
def WR{v}(d:bN v){q}(a:0<=q)(k:q<4294967296) i:0<=q*val (h i v)/4294967296^i/\q*val (h i v)/4294967296^i<4294967296:=by have e:=kY<|iE d i;have l:=lZ<|iE d i;have o:=sk (m:=(h i v).length) (n:=i) bV;have f:=jd i;have g:0<=q*val (h i v):=iP a e;refine⟨xy g O,BI f ?_⟩;have p:q*val (h i v)<=4294967296*val (h i v):=gL O e;have s:4294967296*val (h i v)<4294967296*4294967296^i:=Int.mul_lt_mul_of_pos_left O T;omega
def WS{v}{q a}i(d:a=q*val (h i v)/4294967296^i):q*val (h (i+1) v)/4294967296^(i+1)=(q*E v i 0+a)/4294967296:=by rw[Kb,jE,nq,<-iF,Ai _ _ (by have:=jd i;omega),d,ux]
def ahY{v}(d:bN v){q}(a:0<=q)(g:q<4294967296){L}(i:Z v<L):q*val (h L v)/4294967296^L=0:=by
 rw[lz v L O];have e:=kY d;have k:=lZ d;have l:=sk (m:=Z v) (n:=L-1) O;have f:(4294967296:G)^L=4294967296^(L-1)*4294967296:=by rw[<-n6];congr 1;omega
 have o:q*val v<=4294967296*val v:=gL O e;exact CT (iP a e) (by rw[f];omega)
def ahZ U v a L q(hU:bN U)(F:bN v)(hj:a+L<=Z U)(hL:Z v<L)(d:0<=q)(P:q<4294967296)(hl:Z U<=1099511627777):
  sV z 219 [.c (.W 0 a L),N al v,cU q] 142 al U (cB<|decide<|val ((az a U).take L)-q*val v<0) (cT U a<|bM L<|val ((az a U).take L)-q*val v):=by
 refine FT Tryz.func219 J J J J J T ?_
 refine I J<|I J<|I J<|M<|I J ?_
 refine ay<|bf (α:=Y×G×G) (λx=>⟨[(0,.c<|.W 0 a L),(1,N al v),(2,cU q),(7,cU x.2.1),(8,cU x.2.2),(9,y x.1)],[(0,.vec 142 al<|cT U a<|bM x.1<|val ((az a U).take x.1)-q*val (h x.1 v))],5,[]⟩) (λx=>x.1<=L/\(val ((az a U).take x.1)-q*val (h x.1 v))/4294967296^x.1= -(x.2.1+x.2.2)/\x.2.1=q*val (h x.1 v)/4294967296^x.1/\(x.2.2=0\/x.2.2=1)) (λx=>L-x.1) (0,0,0) ⟨a8 _,wg,wg,.inl J⟩ (wk (bJ J) ⟨bE J ?_,A⟩) ?_
 .exact a6 (aE.vec 142 al) (Kd U a).symm
 rintro⟨i,C,b⟩ ⟨r,h2,f,g⟩
 simp only at r h2 f g
 have D:=WR F d P i
 rw[<-f]at D
 refine M<|I J ?_
 refine c J (λk=>?_)<|λk=>?_
 .have k:i<L:=by simpa using k
  have R:=db F i;have gu:=db hU<|a+i;have hm:0<=q*E v i 0/\q*E v i 0<=18446744065119617025:=FZ d O R.1 O;have l:=WO U v a i q (c:=C) (b:=b) J h2;have H:=WS (v:=v) (q:=q) i f;simp only at l;let ⟨s1,s2⟩:=l;have m:Z (bM i<|val ((az a U).take i)-q*val (h i v))=i:=rM _ _;have S:=wi (U:=U) (j:=a) (ws:=bM i<|val ((az a U).take i)-q*val (h i v)) O;have n:=Ke (U:=U) (j:=a) (ws:=bM i<|val ((az a U).take i)-q*val (h i v)) O;have o:=λw=>Kf (U:=U) (j:=a) (ws:=bM i<|val ((az a U).take i)-q*val (h i v)) w O
  rw[m]at n o;refine aD<|M<|ay<|bw J J (Ad v i F) J ?_;have V:aw .u64 (aw .u64 (q*E v i 0)+C)=q*E v i 0+C:=by rw[wrap_u64 (q*E v i 0) O O,wrap_u64 _ O O]
  generalize K:q*E v i 0+C=p at*;have s:0<=p/\p<18446744073709551616:=O;refine dW (st':=⟨[(0,.c<|.W 0 a L),(1,N al v),(2,cU q),(8,cU b),(9,y i),(10,cU p)],[(0,.vec 142 al<|cT U a<|bM i<|val ((az a U).take i)-q*val (h i v))],7,[]⟩) (wk ⟨sR J,sR J,sR J,sR J,sR J,⟨_,J,bm.of_eq<|bK V⟩,A⟩ ⟨bR J,A⟩) ?_;generalize hX:cT U a (bM i<|val ((az a U).take i)-q*val (h i v))=X at*;refine I J<|I J (hp:=jJ) ?_;have Q:af (i:G)=i:=b6 i;have w2:aw .u64 (p.tdiv 4294967296)=p/4294967296:=by rw[CV s.1,wrap_u64 _ O O]
  have w3:aw .u64 (aw .u64 (aw .u64 (4294967296+aw .u64 (X.getD (a+af (i:G)) 0))-p.tmod 4294967296)-b)=4294967296+E U (a+i) 0-p%4294967296-b:=by rw[Q,n,F4 s.1,wrap_u64 (E U (a+i) 0) O O,wrap_u64 (4294967296+_) O O,wrap_u64 (_-p%4294967296) O O,wrap_u64 _ O O]
  generalize ht:4294967296+E U (a+i) 0-p%4294967296-b=t at*;have u:0<=t/\t<8589934592:=O;refine dW (st':=⟨[(0,.c<|.W 0 a L),(1,N al v),(2,cU q),(7,cU<|p/4294967296),(9,y i),(11,cU t)],[(0,.vec 142 al X)],9,[]⟩) (wk ⟨sR J,sR J,sR J,⟨_,J,bm.of_eq<|bK w2⟩,sR J,⟨_,J,bm.of_eq<|bK w3⟩,A⟩ ⟨bR J,A⟩) ?_;refine I J (hp:=jJ)<|rt J ?_;refine bH<|rt J<|aS (i+1,p/4294967296,1-t/4294967296) ⟨k,s2,H.symm,(O:1-t/4294967296=0\/1-t/4294967296=1)⟩ (O:L-(i+1)<L-i)<|wk ⟨sR J,sR J,sR J,sR J,sE J ?_,sE J ?_,A⟩ ⟨bE J ?_,A⟩
  .refine bK ?_;show aw .u64 (1-aw .u64 (t.tdiv 4294967296))=1-t/4294967296;rw[CV u.1,wrap_u64 (t/4294967296) O O,wrap_u64 _ O O]
  .exact a6 y O
  .refine a6 (aE.vec 142 al) ?_;show X.set (a+af (i:G)) (aw .u32<|t.tmod 4294967296)=cT U a (bM (i+1) _);rw[s1,Q,F4 u.1,wrap_u32 _ O O,o]
 .have k:¬i<L:=by simpa using k
  have e:i=L:=O;subst e;rw[ahY F d P hL]at f;rw[lz v i O]at h2⊢;refine bh<|aI<|I J<|bI<|x6 cj J (bm.of_eq ?_) J;refine a6 cB ?_;show(b==1)=_;have K:=jd i;rcases g with g|g
  .subst g f;have:0<=val ((az a U).take i)-q*val v:=by have B:=mZ (val ((az a U).take i)-q*val v)<|4294967296^i;have h6:=ij (val ((az a U).take i)-q*val v) (O:(4294967296:G)^i≠0);rw[h2]at B;simp at B;omega
   rw[n8 O];rfl
  .subst g f;have:val ((az a U).take i)-q*val v<0:=by have B:=mZ (val ((az a U).take i)-q*val v)<|4294967296^i;have h6:=ik (val ((az a U).take i)-q*val v) K;rw[h2]at B;simp at B;omega
   rw[qq O];rfl
def ah0 U v a L(q:bN U)(o:bN v)(F:a+L<=Z U)(H:Z v<=L)(P:Z U<=1099511627777):
  sV z 220 [.c (.W 0 a L),N al v] 142 al U (.t []) (cT U a<|bM L<|val ((az a U).take L)+val v):=by
 refine FT Tryz.func220 J J J J J T ?_
 refine I J<|I J ?_
 refine ay<|bf (α:=Y×G) (λx=>⟨[(0,.c<|.W 0 a L),(1,N al v),(4,cU x.2),(5,y x.1)],[(0,.vec 142 al<|cT U a<|bM x.1<|val ((az a U).take x.1)+val (h x.1 v))],3,[]⟩) (λx=>x.1<=L/\(val ((az a U).take x.1)+val (h x.1 v))/4294967296^x.1=x.2/\(x.2=0\/x.2=1)) (λx=>L-x.1) (0,0) ⟨a8 _,wg,.inl J⟩ (wk (bJ J) ⟨bE J ?_,A⟩) ?_
 .exact a6 (aE.vec 142 al) (Kd U a).symm
 rintro⟨i,n⟩ ⟨s,h2,u⟩
 simp only at s h2 u
 refine M<|I J ?_
 refine c J (λd=>?_)<|λd=>?_
 .have d:i<L:=by simpa using d
  have K:=db o i;have Q:=db q<|a+i;have f:=WQ U v a i (c:=n) J h2;simp only at f;let ⟨s1,s2⟩:=f;have g:Z (bM i<|val ((az a U).take i)+val (h i v))=i:=rM _ _;have B:=wi (U:=U) (j:=a) (ws:=bM i<|val ((az a U).take i)+val (h i v)) O;have k:=Ke (U:=U) (j:=a) (ws:=bM i<|val ((az a U).take i)+val (h i v)) O;have l:=λw=>Kf (U:=U) (j:=a) (ws:=bM i<|val ((az a U).take i)+val (h i v)) w O
  rw[g]at k l;generalize b:cT U a (bM i<|val ((az a U).take i)+val (h i v))=X at*;have p:af (i:G)=i:=b6 i;refine aD<|M<|ay<|R<|rc J J (Ad v i o) (hp:=jJ)<|j J ?_;have C:aw .u64 (aw .u64 (aw .u64 (X.getD (a+af (i:G)) 0)+E v i 0)+n)=E U (a+i) 0+E v i 0+n:=by rw[p,k,wrap_u64 (E U (a+i) 0) O O,wrap_u64 (_+E v i 0) O O,wrap_u64 _ O O]
  generalize ht:E U (a+i) 0+E v i 0+n=t at*;have m:0<=t/\t<8589934592:=O;refine dW (st':=⟨[(0,.c<|.W 0 a L),(1,N al v),(5,y i),(6,cU t)],[(0,.vec 142 al X)],5,[]⟩) (wk ⟨sR J,sR J,sR J,⟨_,J,bm.of_eq<|bK C⟩,A⟩ ⟨bR J,A⟩) ?_;refine I J (hp:=jJ)<|rt J ?_;refine bH<|rt J<|aS (i+1,t/4294967296) ⟨d,s2,(O:t/4294967296=0\/t/4294967296=1)⟩ (O:L-(i+1)<L-i)<|wk ⟨sR J,sR J,sE J ?_,sE J ?_,A⟩ ⟨bE J ?_,A⟩
  .refine bK ?_;show aw .u64 (t.tdiv 4294967296)=t/4294967296;rw[CV m.1,wrap_u64 (t/4294967296) O O]
  .exact a6 y O
  .refine a6 (aE.vec 142 al) ?_;show X.set (a+af (i:G)) (aw .u32<|t.tmod 4294967296)=cT U a (bM (i+1) _);rw[s1,p,F4 m.1,wrap_u32 _ O O,l]
 .have d:¬i<L:=by simpa using d
  have e:i=L:=O;subst e;rw[lz v i O];exact bh<|Wp cj J (bm.refl _) J
def PJ{v}{n}(f:Z v=n+2):val v=(E v (n+1) 0*4294967296+E v n 0)*4294967296^n+val (h n v):=by
 have d:=jE v n;have a:=jE v<|n+1;rw[lz v (n+1+1) O,n6]at a;rw[a,d,mJ];have e:E v (n+1) 0*(4294967296^n*4294967296)=E v (n+1) 0*4294967296*4294967296^n:=by rw[et (4294967296^n),iF]
 rw[e];omega
def ah1 U d n:val ((az d U).take<|n+3)=((E U (d+(n+2)) 0*4294967296+E U (d+(n+1)) 0)*4294967296+E U (d+n) 0)*4294967296^n+val ((az d U).take n):=by have g:=jE (az d U) n;have e:=jE (az d U)<|n+1;have f:=jE (az d U)<|n+2;rw[PI]at g e f;rw[n6]at e;rw[n6 (n+1),n6]at f;rw[show n+3=n+2+1 from J,f,e,g];generalize (4294967296:G)^n=M;generalize E U (d+(n+2)) 0=a;generalize E U (d+(n+1)) 0=b;generalize E U (d+n) 0=c;grind
def WT{U v}{j n}(a:bN U)(e:bN v)(m:Z v=n+2)(p:j+n+3<=Z U)(d:2147483648<=E v (n+1) 0)(f:val ((az j U).take<|n+3)<val v*4294967296):
  Kn1 (4294967296^n) (E v (n+1) 0) (E v n 0) (val<|h n v) (val v) (E U (j+(n+2)) 0*4294967296+E U (j+(n+1)) 0) (E U (j+n) 0) (val<|(az j U).take n) (val<|(az j U).take<|n+3):=by
 have o:=db e<|n+1
 have g:=db e n
 have q:=db a<|j+(n+2)
 have s:=db a<|j+(n+1)
 have i:=db a<|j+n
 have k:=lZ<|iE e n
 have l:=lZ<|iE (xu a j) n
 rw[(bV:(h n v).length=n)]at k
 rw[(bV:Z ((az j U).take n)=n)]at l
 exact⟨jd n,d,o.2,g.1,g.2,kY<|iE e n,k,O,i.1,i.2,kY<|iE (xu a j) n,l,PJ m,ah1 U j n,f⟩
structure sZ(a v:G)(lb M:Y)(x:Y×V G×V G):Prop where
 k:x.1<=M+1
 ul:x.2.1.length=M+lb+1
 ur:bN x.2.1
 ub:val (x.2.1.drop x.1)<v
 ql:x.2.2.length=M+1
 qr:bN x.2.2
 qz:∀i,i<x.1->x.2.2.getD i 0=0
 eq:a=val x.2.1+v*val x.2.2
def yd U a(d:a<=Z U):val U=val (h a U)+4294967296^a*val (az a U):=by have:=BE (h a U)<|az a U;rw[q8]at this;rw[this];congr 3;simp;omega
def WU{a}(d:bN a) n(f:n<=Z a)(g:val a<4294967296^n):val (az n a)=0:=by
 have i:=yd a n f;have k:=kY<|iE d n;have l:=kY<|xu d n;by_cases e:val (az n a)=0
 .exact e
 .exfalso;have:4294967296^n*1<=4294967296^n*val (az n a):=jQ O (by have:=jd n;omega);omega
def sZ.PK{m v}{d f a}{U Q}(e:sZ m v d f (a+1,U,Q))(o:v<4294967296^d):val (az a U)=val ((az a U).take<|d+1)/\val ((az a U).take<|d+1)<v*4294967296:=by
 have p:a+1<=f+1:=e.k;have q:Z U=f+d+1:=e.ul;have g:bN U:=e.ur;have s:val (az (a+1) U)<v:=e.ub;have n:az a U=E U a 0::az (a+1) U:=by rw[qk O];simp[aM,cK (O:a<Z U)]
 have i:val ((az (a+1) U).drop d)=0:=WU (xu g _) d bV O;have l:val (az a U)=val ((az a U).take<|d+1):=by have:=yd (az a U) (d+1) bV;rw[oN]at this;rw[oN]at i;rw[this,(O:a+(d+1)=a+1+d),i];simp
 refine⟨l,?_⟩;rw[<-l,n,val];have:=db g a;omega
def sZ.next{p v}{d l a}{U Q}(g:sZ p v d l (a+1,U,Q))(m:0<v)(L:v<4294967296^d):
  sZ p v d l (a,cT U a<|bM (d+1)<|val ((az a U).take<|d+1)%v,Q.set a<|val ((az a U).take<|d+1)/v):=by
 let ⟨H,P⟩:=g.PK L
 have J:a+1<=l+1:=g.k
 have W:Z U=l+d+1:=g.ul
 have K:bN U:=g.ur
 have q:Z Q=l+1:=g.ql
 have s:bN Q:=g.qr
 have n:∀i,i<a+1->E Q i 0=0:=g.qz
 have heq:p=val U+v*val Q:=g.eq
 have t:0<=val ((az a U).take<|d+1):=kY<|iE (xu K _) _
 generalize hu:val ((az a U).take<|d+1)=u at*
 have X:=ij u (O:v≠0)
 have b:=ik u m
 have c:0<=u/v:=xy t O
 have r:u/v<4294967296:=BI m (by rw[et];exact P)
 have B:=mZ u v
 have C:Z (bM (d+1)<|u%v)=d+1:=rM _ _
 have f:a+Z (bM (d+1)<|u%v)<=Z U:=O
 have F:u%v<4294967296^(d+1):=by rw[n6];have:=jd d;omega
 have w:val (az (a+(d+1)) U)=0:=by
  have:=yd (az a U) (d+1) bV;rw[oN,hu,H]at this;have N:=jd<|d+1;have z:4294967296^(d+1)*val (az (a+(d+1)) U)=0:=O;rcases Int.mul_eq_zero.1 z with e|e
  .omega
  .exact e
 have o:val (az a<|cT U a<|bM (d+1)<|u%v)=u%v:=by rw[PH f,BE,F7,gx X F,C,w];simp
 refine⟨(O:a<=l+1),by show Z (cT _ _ _)=_;rw[wi f];exact W,PG K<|F6 _ _,by show val (az a<|cT U a _)<v;rw[o];exact b,by show(Q.set _ _).length=_;simp[q],xv s _ ⟨c,r⟩,?_,?_⟩
 .intro i R;show(Q.set a _).getD i 0=0;rw[aM,List.getElem?_set_ne O,<-aM];exact n i O
 .show p=val (cT U a _)+v*val (Q.set a _);rw[NM Q a _ O,n a O,yd (cT U a _) a (by rw[wi f];omega),WN f,o,heq,yd U a O,H];have D:v*(val Q+(u/v-0)*4294967296^a)=v*val Q+4294967296^a*(v*(u/v)):=by generalize u/v=x;generalize (4294967296:G)^a=y;grind
  have I:4294967296^a*u=4294967296^a*(u%v)+4294967296^a*(v*(u/v)):=by rw[<-nq,B]
  rw[D,I];omega
def sZ.fin{a v}{g i}{U Q}(d:sZ a v g i (0,U,Q)):val Q=a/v/\val U=a%v:=by have f:val U<v:=d.ub;have e:=kY d.ur;have heq:a=val U+v*val Q:=d.eq;simp only at e;have k:0<v:=O;rw[heq,Int.add_mul_ediv_left _ _ O,CT e f,Kh,gx e f];exact⟨O,J⟩
def ah2{b1:G}(g:1<=b1)(i:b1<4294967296):2147483648<=b1*(4294967296/(b1+1)):=by
 have k:=mZ 4294967296<|b1+1;have l:=ik 4294967296 (O:0<b1+1);generalize 4294967296/(b1+1)=d at*;generalize (4294967296:G)%(b1+1)=r at*;by_cases m:2147483648<=b1
 .have a:1<=d:=by
   by_cases e:1<=d
   .exact e
   .have:(b1+1)*d<=(b1+1)*0:=jQ O O;omega
  have:b1*1<=b1*d:=jQ a O;omega
 .have f:0<=(b1-1)*(4294967296-2*b1-2):=iP O O;have n:(b1-1)*(4294967296-2*b1-2)=b1*4294967296-2*(b1*b1)-4294967296+2:=by grind
  have o:(b1+1)*(b1*d)=b1*(4294967296-r):=by rw[show(b1+1)*(b1*d)=b1*((b1+1)*d)by grind];congr 1;omega
  have p:b1*(4294967296-b1)<=b1*(4294967296-r):=jQ O O;have q:b1*(4294967296-b1)=b1*4294967296-b1*b1:=by rw[CY]
  by_cases e:2147483648<=b1*d
  .exact e
  .exfalso;have:(b1+1)*(b1*d)<=(b1+1)*2147483647:=jQ O O;omega
def Sm.of{a}(d:aA a<18446744073709551616):Sm a:=bQ (F3 d) T
def CZ n(a: -9223372036854775808<=n)(d:n<=9223372036854775807):r z 30 [y n] (aQ (n:Rat)):=by refine aJ Tryz.func30 ?_;refine I J<|R<|rc J J (iI n a d)<|rc J J (iI 1 T T)<|j J<|bO J ?_;rfl
def PL q:r z 40 [aQ q] (y<|eS q.num):=by refine aJ Tryz.func40 ?_;refine I J<|bw J J (Ah q.num) J<|cJ J
def Ki n d(f:d≠0):(Rat.divInt n d).num=n/(if d<0 then-((gV n d:Y):G)else((gV n d:Y):G))/\((Rat.divInt n d).den:G)=d/(if d<0 then-((gV n d:Y):G)else((gV n d:Y):G)):=by
 have e:((gV n d:Y):G)∣n:=Int.gcd_dvd_left ..;have a:((gV n d:Y):G)∣d:=PM ..;have g:gV n d≠0:=by intro i;have:=(PN.1 i).2;exact f this
 rw[Rat.num_divInt,Rat.den_divInt,w f,Int.gcd_comm d n];by_cases h:d<0
 .rw[ao h,Int.sign_eq_neg_one_of_neg h,Ak,Ak];refine⟨?_,?_⟩
  .rw[Int.neg_mul,jR,ah3 e]
  .rw[wj,(O:((aA d:Y):G)= -d),ah3 a]
 .rw[w h,Int.sign_eq_one_of_pos O,jR];refine⟨J,?_⟩;rw[wj,(O:((aA d:Y):G)=d)]
def ah4{k n}(f:Z (b k)=n+2){a}(i:a=E (b k) (n+1) 0){d:Y}(F:(d:G)=4294967296/(a+1)):
  1<=a/\a<4294967296/\1<=d/\d<4294967296/\((k*d:Y):G)<4294967296^(n+2)/\Z (b<|k*d)=n+2/\2147483648<=E (b<|k*d) (n+1) 0:=by
 have l:=db (dE k)<|n+1
 have C:=tQ k
 have r:a≠0:=by
  rcases C with e|e
  .rw[e]at f;simp at f
  .rw[f]at e;rw[i];exact e
 rw[<-i]at l
 have H:=mZ 4294967296<|a+1
 have K:=ij 4294967296 (O:a+1≠0)
 have w:=ik 4294967296 (O:0<a+1)
 have o:=ah2 (b1:=a) O l.2
 rw[<-F]at H o
 have z:(1:G)<=d:=by
  by_cases e:(1:G)<=d
  .exact e
  .have:(d:G)=0:=by omega
   rw[this]at o;simp at o
 have A:(d:G)<4294967296:=by have:2*(d:G)<=(a+1)*d:=gL O O;omega
 have L:=PJ f
 rw[dU,<-i]at L
 have P:=lZ<|iE (dE k) n
 rw[(bV:Z (h n<|b k)=n)]at P
 have D:=kY<|iE (dE k) n
 have Q:=db (dE k) n
 have I:=jd n
 generalize E (b k) n 0=g at*
 generalize val (h n<|b k)=J at*
 have p:(4294967296:G)^(n+1)=4294967296^n*4294967296:=n6 n
 have U:a*4294967296^(n+1)<=(k:G):=by have:(a*4294967296)*4294967296^n<=(a*4294967296+g)*4294967296^n:=gL O O;rw[p,show a*(4294967296^n*4294967296)=a*4294967296*4294967296^n by rw[et (4294967296^n),iF]];omega
 have W:(k:G)<(a+1)*4294967296^(n+1):=by
  have q:(a*4294967296+g+1)*4294967296^n<=(a*4294967296+4294967296)*4294967296^n:=gL O O;have s:(a*4294967296+g+1)*4294967296^n=(a*4294967296+g)*4294967296^n+4294967296^n:=by rw[mJ _ 1,jR]
  have t:(a*4294967296+4294967296)*4294967296^n=(a+1)*(4294967296^n*4294967296):=by generalize (4294967296:G)^n=y;grind
  rw[p,<-t];omega
 have x:((k*d:Y):G)<4294967296^(n+2):=by
  rw[eY,n6];have q:(k:G)*d<(a+1)*4294967296^(n+1)*d:=F8 W O;have s:(a+1)*4294967296^(n+1)*d=4294967296^(n+1)*((a+1)*d):=by generalize (4294967296:G)^(n+1)=y;grind
  have t:4294967296^(n+1)*((a+1)*d)<=4294967296^(n+1)*4294967296:=jQ O O;omega
 have B:Z (b<|k*d)=n+2:=by have q:Z (b<|k*d)<=n+2:=zm x;have s:=rL (m:=k) (k:=k*d)<|ye _ O;omega
 refine⟨O,l.2,O,O,x,B,?_⟩
 have u:=PJ B
 have X:=lZ<|iE (dE<|k*d) n
 rw[(bV:Z (h n<|b<|k*d)=n)]at X
 have c:=db (dE<|k*d) n
 have j:=db (dE<|k*d)<|n+1
 rw[dU,eY]at u
 generalize E (b<|k*d) n 0=v at*
 generalize E (b<|k*d) (n+1) 0=c1 at*
 generalize val (h n<|b<|k*d)=M at*
 by_cases e:2147483648<=c1
 .exact e
 .exfalso;have q:(c1*4294967296+v+1)*4294967296^n<=(c1*4294967296+4294967296)*4294967296^n:=gL O O;have s:(c1*4294967296+v+1)*4294967296^n=(c1*4294967296+v)*4294967296^n+4294967296^n:=by rw[mJ _ 1,jR]
  have t:(c1*4294967296+4294967296)*4294967296^n=(c1+1)*4294967296^(n+1):=by rw[p];generalize (4294967296:G)^n=y;grind
  have N:a*4294967296^(n+1)*d<=(k:G)*d:=gL U O;have R:(c1+1)*4294967296^(n+1)<=a*d*4294967296^(n+1):=gL O O;have S:a*4294967296^(n+1)*d=a*d*4294967296^(n+1):=by generalize (4294967296:G)^(n+1)=y;grind
  omega
def WV{U}{a}{d e}(f:a+Z d<=Z U)(g:Z e=Z d):cT (cT U a d) a e=cT U a e:=by unfold cT;rw[show(h a U++(d++az (a+Z d) U)).take a=h a U from WN f,g];have i:(h a U).length=a:=bV;rw[List.drop_append,i,sB O,sA,(O:a+Z d-a=Z d),List.drop_left'];rfl
def ah5 m k n(B:Z (b k)=n+2)(nP:k<=m)(lm:Z (b m)<=1099511627776):r z 186 [N al (b m),N al<|b k] (.t [(ah,[.S al (b<|m/k)]),(ah,[.S al (b<|m%k)])]):=by
 refine aJ Tryz.func186 ?_;generalize rH:E (b k) (n+1) 0=b1;obtain⟨d,hd⟩:∃d:Y,(d:G)=4294967296/(b1+1):=⟨af<|4294967296/(b1+1),uq<|xy T<|by have:=db (dE k)<|n+1;omega⟩;let ⟨f1,f2,f3,f4,f5,f6,f7⟩:=ah4 B rH.symm hd;have rA:0<k:=by
  rcases oW k with e|e
  .subst e;rw[BF]at B;simp at B
  .exact e
 have PO:n+2<=Z (b m):=by rw[<-B];exact rL nP
 obtain⟨f,hM⟩:∃f,Z (b m)=f+(n+2):=⟨Z (b m)-(n+2),O⟩;have PR:((m*d:Y):G)<4294967296^(f+(n+2)+1):=by have h1:=sj (n:=m);rw[hM]at h1;rw[n6,eY];have:=jd<|f+(n+2);have h2:(m:G)*d<=(m:G)*4294967296:=jQ O O;omega
 have asb:Z (b<|m*d)<=f+(n+2)+1:=zm PR;have ah6:¬dz (m:G) (k:G)<0:=by unfold dz;rw[w O];split<;>decide
 refine I J<|M<|bw J J (F1 m k) J<|c J (λh=>absurd dL ah6)<|λ_=>aD ?_;refine M<|I J<|c J (λh=>?_)<|λ_=>aD ?_
 .exfalso;have h:(Z (b k):G)=1:=dL;omega
 have a2:af ((Z (b k):G)-1)=n+1:=O;have x1:aw .u64 (aw .u64 (E (b k) (af<|(Z (b k):G)-1) 0)+1)=b1+1:=by rw[a2,rH,wrap_u64 b1 O O,wrap_u64 _ O O]
 have x2:aw .u64 ((4294967296:G).tdiv<|aw .u64<|aw .u64 (E (b k) (af<|(Z (b k):G)-1) 0)+1)=(d:G):=by rw[x1,CV T,<-hd,wrap_u64 _ O O]
 refine I J<|I J (hp:=by simp only[Pr.an,Pr.h,num,gf,true_and,and_true];rw[x1];omega) ?_;refine dW (st':=⟨[(0,N al<|b m),(1,N al<|b k),(8,y ((n+2:Y):G)),(9,cU d)],[],5,[]⟩) (wk ⟨sR J,sR J,⟨_,J,bm.of_eq<|a6 (λfV:Y=>y (fV:G)) B⟩,⟨_,J,bm.of_eq<|bK x2⟩,A⟩ A) ?_;refine R<|rc J J (CQ d O)<|rc J J (Pw k d O<|by have:=F3 (m:=d) O;omega)<|j J ?_;refine R<|rm al (Z (b m)+1) J J J J J J (lH .u32) O ?_ ?_<|j J ?_
 .show _*4<=_;omega
 .show _*1<=_;omega
 refine R<|rc J J (CQ d O)<|rc J J (Pw m d O<|by have:=F3 (m:=d) O;omega) ?_;refine J2 J J J J J PT ax<|j J ?_;generalize K:b (m*d)++az (Z<|b<|m*d) (bg (Z (b m)+1) (0:G))=o;refine R<|rm al (f+1) J J J J J J (lH .u32) O ?_ ?_<|j J ?_
 .show _*4<=_;omega
 .show _*1<=_;omega
 have F:val o=((m*d:Y):G):=by rw[<-K,BE,dU,(ax:az (Z<|b<|m*d) (bg (Z (b m)+1) (0:G))=bg (Z (b m)+1-Z (b<|m*d)) 0),Is];simp
 have H:bN o:=by rw[<-K];exact NL (dE _)<|xu (pR _) _
 have PU:Z o=f+(n+2)+1:=by rw[<-K];simp;omega
 have yf:(0:G)<((k*d:Y):G):=by have:0<k*d:=yg rA O;omega
 have uz:sZ ((m*d:Y):G) ((k*d:Y):G) (n+2) f (f+1,o,bg (f+1) 0):=by
  refine⟨aW _,PU,H,?_,ax,pR _,λi hi=>?_,?_⟩
  .show val (az (f+1) o)<_;have h1:=yd o (f+1) O;have h2:=kY<|iE H<|f+1;have hp:=jd<|f+1;by_cases e:val (az (f+1) o)<((k*d:Y):G)
   .exact e
   .exfalso;have h3:4294967296^(f+1)*((k*d:Y):G)<=4294967296^(f+1)*val (az (f+1) o):=jQ O O;have h4:=It (dE k) (tQ k) (by intro e;rw[e]at B;simp at B);rw[dU,B,(O:n+2-1=n+1)]at h4;have h5:=sj (n:=m);rw[hM,(O:f+(n+2)=f+1+(n+1)),Int.pow_add]at h5;have h6:4294967296^(f+1)*4294967296^(n+1)*(d:G)<=4294967296^(f+1)*((k*d:Y):G):=by rw[eY,iF];exact jQ (gL h4 O) O
    have h7:(m:G)*d<4294967296^(f+1)*4294967296^(n+1)*(d:G):=F8 h5 O;rw[F,eY m d]at h1;omega
  .show E (bg (f+1) (0:G)) i 0=0;rw[aM,ll];split<;>rfl
  .show _=val o+_*val (bg (f+1) 0);rw[Is,F];omega
 refine M<|I J ?_;refine ay<|bf (α:=Y×V G×V G) (λx=>⟨[(8,y ((n+2:Y):G)),(9,cU d),(10,N al<|b<|k*d),(11,.c<|.X 6003000),(12,.c<|.X 8005000),(13,y<|(x.1:G)-1)],[(6003000,.vec 142 al x.2.1),(8005000,.vec 142 al x.2.2)],10,[]⟩) (sZ ((m*d:Y):G) ((k*d:Y):G) (n+2) f) (λx=>x.1) (f+1,o,bg (f+1) 0) uz (wk ⟨sR J,sR J,sR J,sR J,sR J,sE J ?_,A⟩<|vO J) ?_
 .exact a6 y O
 rintro⟨D,U,Q⟩ p;have mb:Z U=f+(n+2)+1:=p.ul;have l:bN U:=p.ur;have Kj:Z Q=f+1:=p.ql;have JQ:D<=f+1:=p.k;refine M<|I J ?_;refine c J (λh=>?_)<|λh=>?_
 .have h:(D:G)-1>=0:=by simpa using h
  obtain⟨a,rfl⟩:∃a,D=a+1:=⟨D-1,O⟩;have ej:((a+1:Y):G)-1=(a:G):=O;rw[ej];have g:=p.next yf f5;let ⟨_,wm⟩:=p.PK f5;have hK:=WT (U:=U) (v:=b<|k*d) (j:=a) (n:=n) l (dE _) f6 O f7 (by rw[dU];exact wm);have oG:=db (dE<|k*d)<|n+1;have L:=J6 hK 2 ((E U (a+(n+2)) 0*4294967296+E U (a+(n+1)) 0)/E (b<|k*d) (n+1) 0)<|(E U (a+(n+2)) 0*4294967296+E U (a+(n+1)) 0)%E (b<|k*d) (n+1) 0;have P:=hK.first;generalize PV:E (b<|k*d) (n+1) 0=v1 at L oG f7 P;generalize hte:E U (a+(n+2)) 0*4294967296+E U (a+(n+1)) 0=t at L P;have Kk:=ij t (O:v1≠0);have uy:=ik t (O:0<v1);have L:=L (by have h1:=mZ t v1;have h2:=et (t/v1) v1;omega) Kk O O P;rw[<-hte,<-PV]at L;have PW:=ahT U (b<|k*d) a n l (dE _) f6 O O hK;have F5:=hK.q0;generalize qo 2 ((E U (a+(n+2)) 0*4294967296+E U (a+(n+1)) 0)/E (b<|k*d) (n+1) 0) ((E U (a+(n+2)) 0*4294967296+E U (a+(n+1)) 0)%E (b<|k*d) (n+1) 0) (E (b<|k*d) (n+1) 0) (E (b<|k*d) n 0) (E U (a+n) 0)=q at*;rw[dU]at L F5;have WW:=ahZ U (b<|k*d) a (n+3) q l (dE _) O O O L.2.2 O;rw[dU]at WW;rw[show n+2+1=n+3 from J]at g wm;generalize hu:val ((az a U).take<|n+3)=u at*;have yh:=mZ u ((k*d:Y):G);have FR:=ij u (O:((k*d:Y):G)≠0);have yi:=ik u yf;generalize hv:((k*d:Y):G)=v at*;refine aD<|M<|ay ?_;refine R<|Wy a (a+(n+3)) J J J J J J O O (O:a+(n+3)<=Z U)<|j J ?_
  refine dW (st':=⟨[(8,y ((n+2:Y):G)),(9,cU d),(10,N al<|b<|k*d),(11,.c<|.X 6003000),(12,.c<|.X 8005000),(13,y a),(14,.c<|.W 6003000 a<|n+3)],[(6003000,.vec 142 al U),(8005000,.vec 142 al Q)],12,[]⟩) (wk ⟨sR J,sR J,sR J,sR J,sR J,sR J,⟨_,J,bm.of_eq<|a6 (λfV=>AV.c<|C.W 6003000 a fV) O⟩,A⟩<|vO J) ?_;refine R<|x9 6003000 J PW J J<|j J ?_;refine M<|R<|x9 6003000 J WW J J<|j J ?_;have C0:∀x,Z (bM (n+3) x)=n+3:=λx=>rM _ _
  refine c J (λh=>?_)<|λh=>?_
  .have h:u-q*v<0:=by simpa using h
   have s:q=u/v+1:=by
    by_cases e:q=u/v
    .subst e;have:=et (u/v) v;omega
    .omega
   have PX:q*v=v*(u/v)+v:=by rw[s,mJ,jR,et]
   have hr:bN (cT U a<|bM (n+3)<|u-q*v):=PG l<|F6 _ _;have Al:=ah0 (cT U a<|bM (n+3)<|u-q*v) (b<|k*d) a (n+3) hr (dE _) (by rw[wi s0];omega) O (by rw[wi s0];omega);have e1:cT (cT U a<|bM (n+3)<|u-q*v) a (bM (n+3)<|val (List.take (n+3)<|az a<|cT U a<|bM (n+3)<|u-q*v)+val (b<|k*d))=cT U a (bM (n+3)<|u%v):=by rw[WV s0 (by rw[C0,C0]),PH s0,vG s0,iO s0,F7,dU,hv];refine a6 (cT U a)<|Kc _ _ _ ?_;rw[Int.emod_add_emod];congr 1;omega
   rw[e1]at Al;have w1:aw .u64 (q-1)=u/v:=by rw[wrap_u64 _ O O];omega
   refine I J<|cA<|x9 6003000 J Al J J<|j J<|aI ?_;refine dW (st':=⟨[(8,y ((n+2:Y):G)),(9,cU d),(10,N al<|b<|k*d),(11,.c<|.X 6003000),(12,.c<|.X 8005000),(13,y a),(15,cU<|u/v)],[(6003000,.vec 142 al<|cT U a<|bM (n+3)<|u%v),(8005000,.vec 142 al Q)],16,[]⟩) (wk ⟨sR J,sR J,sR J,sR J,sR J,sR J,⟨_,J,bm.of_eq<|bK w1⟩,A⟩<|vO J) ?_;refine rt J (hp:=jJ) ?_;refine bH<|rt J<|aS (a,cT U a<|bM (n+3)<|u%v,Q.set a<|u/v) g (dJ a)<|wk (bJ J) ⟨bR J,bE J ?_,A⟩;refine a6 (aE.vec 142 al) ?_;show Q.set (af (a:G)) (aw .u32<|u/v)=Q.set a (u/v);rw[b6,wrap_u32 _ O O]
  .have h:¬u-q*v<0:=by simpa using h
   have s:q=u/v:=by
    by_cases e:q=u/v
    .exact e
    .exfalso;have e2:q=u/v+1:=O;have PX:q*v=v*(u/v)+v:=by rw[e2,mJ,jR,et]
     omega
   have e1:u-q*v=u%v:=by have:=et (u/v) v;rw[s];omega
   refine aD ?_;refine dW (st':=⟨[(8,y ((n+2:Y):G)),(9,cU d),(10,N al<|b<|k*d),(11,.c<|.X 6003000),(12,.c<|.X 8005000),(13,y a),(15,cU<|u/v)],[(6003000,.vec 142 al<|cT U a<|bM (n+3)<|u%v),(8005000,.vec 142 al Q)],16,[]⟩) (wk ⟨sR J,sR J,sR J,sR J,sR J,sR J,⟨_,J,bm.of_eq<|bK s⟩,A⟩ ⟨⟨_,J,nw.of_eq<|a6 (λfV=>aE.vec 142 al<|cT U a<|bM (n+3) fV) e1⟩,bR J,A⟩) ?_;refine rt J (hp:=jJ) ?_;refine bH<|rt J<|aS (a,cT U a<|bM (n+3)<|u%v,Q.set a<|u/v) g (dJ a)<|wk (bJ J) ⟨bR J,bE J ?_,A⟩;refine a6 (aE.vec 142 al) ?_;show Q.set (af (a:G)) (aw .u32<|u/v)=Q.set a (u/v);rw[b6,wrap_u32 _ O O]
 .have h:¬(D:G)-1>=0:=by simpa using h
  have hc:D=0:=O;subst hc;let ⟨e1,e2⟩:=p.fin;have q1:aK Q=b (m/k):=by
   rw[nM p.qr];show b (af<|val Q)=_;rw[e1];have:((m*d:Y):G)/((k*d:Y):G)=((m/k:Y):G):=by rw[<-wj,Nat.mul_div_mul_right _ _ O]
   rw[this,b6]
  have q2:b (af<|val (aK U)/(d:G))=b (m%k):=by
   rw[Uo];show b (af<|val U/(d:G))=_;rw[e2];have:((m*d:Y):G)%((k*d:Y):G)/(d:G)=((m%k:Y):G):=by rw[<-F9,Nat.mul_mod_mul_right,<-wj,PY _ O]
   rw[this,b6]
  have wo:=WG (aK U) (d:G) (Up l) O O (by
   have h2:Z (aK U)<=n+2:=by rw[nM l];apply zm;have h3:val U<((k*d:Y):G):=p.ub;omega
   omega)
  rw[q2]at wo;refine bh<|aI<|c8 6003000 J J J<|c8 8005000 J J J ?_;refine R<|rc J J (ya U)<|rc J J wo<|j J ?_;refine bw J J (ya Q) J<|bO J ?_;rw[q1]
def WY m k(d:k≠0)(a:Z (b m)<=1099511627776):r z 186 [N al (b m),N al<|b k] (.t [(ah,[.S al (b<|m/k)]),(ah,[.S al (b<|m%k)])]):=by
 by_cases h:m<k\/k<4294967296
 .exact ahS m k d h a
 .have g:2<=Z (b k):=by
   by_cases e:2<=Z (b k)
   .exact e
   .exfalso;have i:=sj (n:=k);have f:=sk (m:=Z<|b k) (n:=1) O;rw[Int.pow_one]at f;omega
  exact ah5 m k (Z (b k)-2) O O a
def C1 a d(n:d≠0)(m:Sm a)(k:Sm d):r z 183 [aZ a,aZ d] (.t [(ae,av .z<|a/d),(ae,av .z<|a%d),(ah,[.I .i64 0])]):=by
 refine aJ Tryz.func183 ?_;refine I J<|M<|I J ?_;have e:aA d≠0:=O;refine c J (λh2=>?_)<|λh2=>?_
 .exfalso;have h2:(Z (dP d):G)=0:=oO;have:=nZ.2 e;unfold dP at h2;omega
 .refine aD<|bw J J (WY _ _ e m) J<|M<|R ?_;refine rg 25 J J (λh3=>?_) (λh3=>?_)
  .have h3:a<0:=by simpa[bY]using h3
   refine j J<|c J (λh4=>?_)<|λh4=>?_
   .have h4:aA a%aA d≠0:=by have h4:(Z (b<|aA a%aA d):G)>0:=Ko;exact nZ.1 O
    let ⟨e1,f⟩:=WJ (qn e) h3 h4;have hz:bY a=ae:=C2;let ⟨g,i⟩:=CU a d (aA a/aA d+1) (aA d-aA a%aA d) C3 f;have o:aA a%aA d<aA d:=fg _<|qn e;refine R<|rl al [_] J J (rc J J (WD (aA a/aA d) 1 ?_ T)<|j J<|cA<|rc J J (Pv (aA d) _ O k)<|j J<|aI<|R ?_)
    .exact bQ (rL<|Nat.div_le_self _ _) m
    refine rc J J (oV _ _)<|rc J J (oV _ _)<|j J<|bO J ?_;rw[g,i];rfl
   .have h4:aA a%aA d=0:=by have h4:¬(Z (b<|aA a%aA d):G)>0:=Ko;exact F' λl=>by have:=nZ.2 l;omega
    let ⟨e1,f⟩:=WI (qn e) h3 h4;have hz:bY a=ae:=C2;let ⟨g,i⟩:=CU a d (aA a/aA d) (aA a%aA d) C3 (by rw[f,h4];rfl);refine aD<|R<|rc J J (oV _ _)<|rc J J (oV _ _)<|j J<|bO J ?_;rw[g,i];rfl
  .have h3:¬a<0:=by simpa[bY]using h3
   refine j J<|c J (λh4=>by simp at h4)<|λh4=>?_;let ⟨e1,f⟩:=WH (qn e) h3;have hz:bY a=ah:=C2;let ⟨g,i⟩:=CU a d (aA a/aA d) (aA a%aA d) C3 f;refine aD<|R<|rc J J (oV _ _)<|rc J J (oV _ _)<|j J<|bO J ?_;rw[g,i];rfl
def ah8 m k(s:Z (b m)<=1099511627776)(u:Z (b k)<=1099511627776):r z 148 [N al (b m),N al<|b k] (N al<|b<|mY m k):=by
 refine aJ Tryz.func148 ?_;refine I J<|M<|ay<|bf (α:=Y×Y) (λx=>⟨[(0,N al<|b x.1),(1,N al<|b x.2)],[],1,[]⟩) (λx=>mY x.1 x.2=mY m k/\Z (b x.1)<=1099511627776/\Z (b x.2)<=1099511627776) (λx=>x.2) (m,k) ⟨J,s,u⟩ aU ?_;rintro⟨x,y⟩ ⟨hg,lx,i⟩;simp only at hg lx i;refine M<|I J ?_;refine c J (λh=>?_)<|λh=>?_
 .have v:y≠0:=by have h:(Z (b y):G)>0:=dL;exact nZ.1 O
  have a:r z 186 [N al (b x),N al<|b y] (.t [(ah,[.S al (b<|x/y)]),(ah,[.S al (b<|x%y)])]):=WY x y v lx;have e:mY y (x%y)=mY m k:=by rw[<-hg,yc x y,Nat.gcd_rec y x,yc]
  have f:x%y<y:=fg _ O;have g:Z (b<|x%y)<=1099511627776:=bQ (rL O) i;refine aD<|ay<|M<|R ?_;refine rg 13 J J (λh2=>?_)<|λh2=>?_
  .have h2:Z (b x)<=2:=by have h2:(Z (b x):G)<=2:=oO;omega
   refine j J<|c J (λh3=>?_)<|λh3=>?_
   .have h3:Z (b y)<=2:=by have h3:(Z (b y):G)<=2:=zy;omega
    have l:x<18446744073709551616:=by have B:=sj (n:=x);have o:=sk h2;rw[show(4294967296:G)^2=18446744073709551616 from J]at o;omega
    have d:y<18446744073709551616:=by have B:=sj (n:=y);have o:=sk h3;rw[show(4294967296:G)^2=18446744073709551616 from J]at o;omega
    refine R<|rc J J (Px x l)<|rc J J (Px y d)<|rc J J (ahQ x y l d)<|rc J J (CQ _ ?_)<|j J<|bI ?_
    .by_cases p:x=0
     .rw[p,Nat.gcd_zero_left];exact d
     .exact uA (Nat.gcd_le_left y O) l
    .repeat(first|refine cG ?_|refine kE ?_|refine k8 ?_)
     refine eB J ?_;rw[<-hg]
   .refine aD<|bw J J a J<|I J<|rt J<|eL<|aS (y,x%y) ⟨e,i,g⟩ f aU
  .refine j J<|c J (λh3=>by cases h3)<|λ_=>?_;refine aD<|bw J J a J<|I J<|rt J<|eL<|aS (y,x%y) ⟨e,i,g⟩ f aU
 .have h:Z (b y)=0:=by have:¬(Z (b y):G)>0:=dL;omega
  have p:y=0:=F' λq=>by have:=nZ.2 q;omega
  subst p;refine bh<|aI<|I J<|bO J ?_;rw[<-hg,J4]
def Kq a d(e:Sm a)(f:Sm d):r z 96 [aZ a,aZ d] (aZ<|gV a d):=by refine aJ Tryz.func96 ?_;refine I J<|R ?_;refine rc J J (ah8 _ _ e f)<|rc J J (oV ah _)<|j J<|bO J ?_;rfl
def PZ a d(g:Sm a)(i:Sm d):r z 209 [aZ a,aZ d] (aZ<|a-d):=by
 refine aJ Tryz.func209 ?_;have f:Sm (-d):=by unfold Sm dP at i⊢;rwa[Int.natAbs_neg]
 have e:=we a (-d) g f;rw[<-P0]at e;exact I J<|R<|rc J J (WC d)<|rc J J e<|j J<|cJ J
def ah9 a(k:0<=a)(l:a<9223372036854775808):r z 250 [aZ a] (.t [(ah,[.I .i64 a]),(ah,[.B ae])]):=by
 refine aJ Tryz.func250 ?_;have f:aA a<18446744073709551616:=O;have m:=F3 f;have g:bY a=ah:=by simp[bY];omega
 refine I J<|M<|I J<|c J (λh=>?_)<|λ_=>aD ?_
 .exfalso;have h:(Z (dP a):G)>2:=dL;unfold dP at h;omega
 refine bw J J (Px (aA a) f) J ?_;refine M<|R<|rg 15 J J (λh=>?_)<|λh=>?_
 .refine j J (c J (λd=>?_)<|λd=>?_)
  .have i: -9223372036854775808<=((aA a:Y):G)/\((aA a:Y):G)<=9223372036854775807:=by omega
   refine I J (bI<|cG<|eB J ?_) (hp:=i);exact a6 (λx=>AV.t [(ah,[C.I .i64 x]),(ah,[C.B ae])]) O
  .exfalso;have e:decide (((aA a:Y):G)<9223372036854775808)=ae:=qq O;rw[cond_true,e]at d;cases d
 .rw[g]at h;cases h
def Ga(a:V G)(i:Y):r z 256 [N .z a,y i] (aZ<|E a i 0):=by
 refine aJ Tryz.func256 ?_;refine I J<|M<|I J ?_;refine c J (λh=>?_)<|λh=>?_
 .have h:i<Z a:=by simpa using h
  refine I J<|bI<|cG<|eB J ?_;rfl
 .have h:¬i<Z a:=by simpa using h
  refine aD<|bw J J (iI 0 T T) J<|bO J ?_;have e:E a i 0=0:=by simp[aM,jP<|zl h]
  rw[e];rfl
def WZ{a}:eS a=0↔a=0:=by
 unfold eS;split
 .omega
 .split<;>omega
def Kt(a:V G):r z 255 [N .z a] (N .z<|aK a):=by
 refine aJ Tryz.func255<|ui 0 J λi=>?_;have i:Z a*2<=140737488355328:=i;refine I J<|M<|ay<|bf (α:=Y) (λk=>⟨[(0,N .z<|List.take k a)],[],1,[]⟩) (λk=>k<=Z a/\fA a k=fA a (Z a)) (λk=>k) (Z a) ⟨aW _,J⟩ (wk ⟨⟨_,J,bm.of_eq<|by rw[fR]⟩,A⟩ A) ?_;rintro k ⟨l,d⟩;have f:(List.take k a).length=k:=bV;refine M<|R ?_;refine rg 6 J J (λh=>?_)<|λh=>?_
 .have h:0<k:=by have h:(((List.take k a).length:Y):G)>0:=dL;rw[f]at h;omega
  obtain⟨j,rfl⟩:∃j,k=j+1:=⟨k-1,O⟩;have g:af (((List.take (j+1) a).length:G)-1)=j:=by rw[f];omega
  have ev:(List.take (j+1) a).getD j 0=E a j 0:=by rw[aM,Ew O,<-aM]
  refine fX J J J J J (Ah<|(List.take (j+1) a).getD (af<|((List.take (j+1) a).length:G)-1) 0) (re J ?_) (hp:=jJ);refine c J (λh2=>?_)<|λh2=>?_
  .have h2:E a j 0=0:=by have h2:eS ((List.take (j+1) a).getD (af<|((List.take (j+1) a).length:G)-1) 0)=0:=oO;rw[g,ev]at h2;exact WZ.1 h2
   refine aD<|ay<|rt J (eL<|aS j ⟨O,?_⟩ rK<|wk ⟨sE J ?_,A⟩ A) (hp:=jJ)
   .rw[<-d,fA,ao h2]
   .rw[g];simp only[oQ,List.take_take];rw[q7 O]
  .have h2:E a j 0≠0:=by have h2:¬eS ((List.take (j+1) a).getD (af<|((List.take (j+1) a).length:G)-1) 0)=0:=oO;rw[g,ev]at h2;exact λe=>h2 (WZ.2 e)
   refine bh<|aI<|I J<|bO J ?_;unfold aK;rw[<-d,fA,w h2]
 .have h:k=0:=by have h:¬(((List.take k a).length:Y):G)>0:=dL;rw[f]at h;omega
  subst h;refine re J<|c J (λh2=>by simp at h2)<|λ_=>?_;refine bh<|aI<|I J<|bO J ?_;unfold aK;rw[<-d];rfl
def jx(l:V Rat):Y->Y
 |0=>0
 |n+1=>if(E l n 0).num=0 then jx l n else n+1
def eT(l:V Rat):V Rat:=h (jx l<|Z l) l
def jK(a B:Y->G)(n:Y):Y->G
 |0=>0
 |i+1=>jK a B n i+a i*B (n-i)
def conv(a B:Y->G)(n:Y):G:=jK a B n<|n+1
def P1(a B:Y->G)(n:Y):∀k,(∀i,i<k->a i*B (n-i)=0)->jK a B n k=0
 |0,_=>rfl
 |k+1,d=>by simp only[jK,P1 a B n k<|λi e=>d i O,d k O];rfl
def Ku(a B:Y->G)(n d:Y):∀k,d<k->(∀i,i<k->i≠d->a i*B (n-i)=0)->jK a B n k=a d*B (n-d)
 |0,f,_=>by omega
 |k+1,f,h2=>by
  simp only[jK];by_cases e:k=d
  .subst e;rw[P1 a B n k (λi g=>h2 i O O)];omega
  .rw[Ku a B n d k O (λi g=>h2 i O),h2 k O e];omega
def ah'{e B:Y->G}{a d}(f:∀i,a<i->e i=0)(g:∀i,d<i->B i=0):conv e B (a+d)=e a*B d:=by
 unfold conv
 rw[Ku e B (a+d) a _ O]
 .congr 2;omega
 .intro i k l;by_cases h:i<a
  .rw[g (a+d-i) O];simp
  .rw[f i O];simp
def kJ(a d:V G):V G:=(List.range<|Z a+Z d-1).map<|conv (λi=>E a i 0)<|λi=>E d i 0
def Kv(m:Y)(a:m<18446744073709551616):r z 154 [cU m] (N al<|b m):=by
 refine aJ Tryz.func154 ?_;refine I J<|R ?_;have d:aw .u32 (m:G)=((m%4294967296:Y):G):=Kw;have e:aw .u32 ((m:G).fdiv<|2^(min (af (32:G))<|cY .u64))=((m/4294967296:Y):G):=by
  have:(m:G).fdiv (2^(min (af (32:G))<|cY .u64))=((m/4294967296:Y):G):=by rw[Am _ T];rfl
  rw[this,wrap_u32 _ O O]
 refine rl al [_,_] J J ?_;refine rc J J (uw _) ?_;refine j J<|bO J ?_;rw[d,e,Wz m a]
def n9 neg m:r z 153 [cB neg,N al<|b m] (aZ<|sg neg m):=by
 refine aJ Tryz.func153 ?_;have i:=uw<|b m;rw[NO]at i;refine I J<|bw J J i J<|M<|I J ?_;refine c J (λh=>?_)<|λh=>?_
 .have h:Z (b m)=0:=by have h:(Z (b m):G)=0:=dL;omega
  have k:m=0:=F' λa=>by have:=nZ.2 a;omega
  subst k;refine I J<|bI<|cG<|g7 cj J ?_;have e:sg neg 0=0:=by cases neg<;>rfl
  rw[e];refine⟨?_,λn d=>by cases d⟩;rintro g v ⟨vs,rfl,v1,o,rfl,l,v2,p,rfl,f,rfl⟩;have f:v2= .slice none 0 0:=f;exact⟨_,J,v1,_,J,l,v2,_,J,by rw[f];exact Wh g.H,J⟩
 .have h:Z (b m)≠0:=by have h:¬(Z (b m):G)=0:=dL;omega
  refine aD<|I J<|bO J ?_;rw[<-WB];have e:(neg&&decide (0<Z (b m)))=neg:=by have:0<Z (b m):=O;simp[this]
  rw[e];rfl
def Kx(a:V G)(d:Z a<=1099511627776):r z 155 [N al a] (N al a):=by
 refine aJ Tryz.func155 ?_;refine I J<|R<|ran J J J J J J J J ?_ ?_<|j J<|c8 1001000 J J J<|cJ J
 .show(_+_/4+192)*4<=_;omega
 .show _*1<=_;omega
def P2 n(d: -9223372036854775808<=n)(g:n<=9223372036854775807):r z 124 [y n] (aZ n):=by
 refine aJ Tryz.func124 ?_;refine I J<|I J<|M<|I J ?_;refine c J (λh=>?_)<|λh=>?_
 .have h:n<0:=by simpa using h
  have e:aw .u64 (0-aw .u64 n)=(af (-n):Y):=by simp[aw,cY,CP];omega
  refine rt J<|aI<|R ?_;refine rc J J (f:=154) (r:=N al<|b<|af<| -n) (by rw[show(AV.c (num .u64<|0-aw .u64 n).1)=cU ((af (-n):Y):G)from bK e];exact Kv _ O) ?_;refine rc J J (n9 _ _)<|j J<|bO J ?_;have a:sg (decide<|n<0) (af<| -n)=n:=by unfold sg;simp[h];omega
  exact a6 aZ a
 .have h:¬n<0:=by simpa using h
  have e:aw .u64 n=(af n:Y):=by rw[wrap_u64 _ O O];omega
  refine aD<|R ?_;refine rc J J (f:=154) (r:=N al<|b<|af n) (by rw[show(AV.c (num .u64 n).1)=cU ((af n:Y):G)from bK e];exact Kv _ O) ?_;refine rc J J (n9 _ _)<|j J<|bO J ?_;have a:sg (decide<|n<0) (af n)=n:=by unfold sg;simp[h];omega
  exact a6 aZ a
def W0 a:r z 152 [aZ a] (y<|eS a):=by
 refine aJ Tryz.func152 ?_;refine I J<|M<|I J ?_;refine c J (λh=>?_)<|λh=>?_
 .have h:a=0:=by
   have h:(Z (dP a):G)=0:=dL;have:aA a=0:=F' λe=>by have:=nZ.2 e;unfold dP at h;omega
   omega
  refine I J<|bI<|cG<|eB J ?_;rw[h];rfl
 .have h:a≠0:=by have h:¬(Z (dP a):G)=0:=dL;intro f;subst f;exact h J
  refine aD<|M<|I J ?_;refine c J (λd=>?_)<|λd=>?_
  .have d:a<0:=by simpa[bY]using d
   refine I J<|bI<|cG<|eB J ?_;rw[eS,ao d];rfl
  .have d:¬a<0:=by simpa[bY]using d
   refine aD<|I J<|bO J ?_;rw[eS,w d,w h];rfl
def P3 a(d:Sm a):r z 125 [aZ a] (aZ<| -a):=by
 refine aJ Tryz.func125 ?_;refine I J<|R<|rc J J (Kx _ d)<|rc J J (n9 (!bY a)<|aA a)<|j J<|bO J ?_;have e:sg (!bY a) (aA a)= -a:=by
  unfold sg bY;by_cases h:a<0
  .simp[h];omega
  .simp[h];omega
 exact a6 aZ e
def aia a k(Q:bN a)(U:bN k)(W:Z a<=1099511627776)(lb:Z k<=1099511627776):r z 160 [N al a,N al k] (N al<|b<|af<|val a+val k):=by
 refine aJ Tryz.func160 ?_;refine I J<|M<|I J ?_;refine c J (λh=>?_)<|λh=>?_
 .have n:Z a<=Z k:=by have h:Z a<Z k:=dL;omega
  rw[ux (val a)];refine rt J<|aI ?_;revert Q U W lb n;generalize k=X;generalize a=d;intro t u w D n;refine dW (st':=⟨[(0,N al X),(1,N al d)],[],30,[]⟩) aU<|R ?_;refine rm al (X.length+1) J J J J J J (lH .u32) J ?_ ?_ ?_
  .show _*4<=_;omega
  .show _*1<=_;omega
  refine j J<|I J<|M<|I J ?_;refine ay<|bf (α:=Y×V G×G) (λx=>⟨[(0,N al X),(1,N al d),(5,.c<|.X 30003000),(6,cU x.2.2),(21,y X.length),(22,y x.1)],[(30003000,.vec 142 al x.2.1)],33,[]⟩) (λx=>CR X d (X.length+1) x/\x.1<=X.length) (λx=>X.length-x.1) (0,bg (X.length+1) 0,0) ?_ ?_ ?_
  .refine⟨⟨a8 _,ax,pR _,?_,gK _,FX,Ae⟩,a8 _⟩;intro S _;simp only[aM,ll];split<;>rfl
  .exact wk (bJ J) ⟨bR J,A⟩
  .rintro⟨i,o,e⟩ ⟨f,l⟩;have l:i<=X.length:=l;have B:Z o=X.length+1:=f.len;have g:0<=e:=f.c0;have H:e<=1:=f.c1;have ga:=db u i;have gb:=db t i;refine I J<|M ?_;refine c J (λh=>?_) (λh=>?_)
   .have h:i<X.length:=by simpa using h
    have m:=f.next (O:i<X.length+1) u t;simp only at m;generalize ht:X.getD i 0+E d i 0+e=s at m;have C:aw .u32 s=s%4294967296:=by simp[aw,cY,CP]
    have F:s.fdiv (2^(min (af (32:G))<|cY .u64))=s/4294967296:=by rw[Am _ T];rfl
    refine aD<|M<|ay<|I J<|I J<|M<|I J ?_;refine c J (λh2=>?_)<|λh2=>?_
    .have h2:i<Z d:=by simpa using h2
     refine rt J<|aI ?_;have p:aw .u64 (aw .u64 (aw .u64 (X.getD (af (i:G)) 0)+e)+aw .u64 (E d (af (i:G)) 0))=s:=by rw[b6,wrap_u64 (X.getD i 0) O O,wrap_u64 (E d i 0) O O,wrap_u64 (X.getD i 0+e) O O,wrap_u64 _ O O];omega
     refine dW (st':=⟨[(0,N al X),(1,N al d),(5,.c<|.X 30003000),(7,y i),(8,cU s),(21,y X.length),(22,y i)],[(30003000,.vec 142 al o)],40,[]⟩) (wk ⟨sR J,sR J,sR J,sR J,⟨_,J,bm.of_eq<|bK p⟩,sR J,sR J,A⟩ ⟨bR J,A⟩) ?_;refine I J<|rt J<|bH<|rt J<|aS (i+1,o.set i<|s%4294967296,s/4294967296) ⟨m,Ky⟩ Kz<|wk ⟨sR J,sR J,sR J,sE J ?_,sR J,sE J J,A⟩ ⟨bE J ?_,A⟩
     .exact bK F
     .rw[C,b6]
    .have h2:¬i<Z d:=by simpa using h2
     have K:E d i 0=0:=P4;refine aD ?_;have p:aw .u64 (aw .u64 (X.getD (af (i:G)) 0)+e)=s:=by rw[b6,wrap_u64 (X.getD i 0) O O,wrap_u64 _ O O];omega
     refine dW (st':=⟨[(0,N al X),(1,N al d),(5,.c<|.X 30003000),(7,y i),(8,cU s),(21,y X.length),(22,y i)],[(30003000,.vec 142 al o)],40,[]⟩) (wk ⟨sR J,sR J,sR J,sR J,⟨_,J,bm.of_eq<|bK p⟩,sR J,sR J,A⟩ ⟨bR J,A⟩) ?_;refine I J<|rt J<|bH<|rt J<|aS (i+1,o.set i<|s%4294967296,s/4294967296) ⟨m,Ky⟩ Kz<|wk ⟨sR J,sR J,sR J,sE J ?_,sR J,sE J J,A⟩ ⟨bE J ?_,A⟩
     .exact bK F
     .rw[C,b6]
   .have h:¬i<X.length:=by simpa using h
    have l:i=X.length:=O;subst l;have L:aw .u32 e=e:=wrap_u32 e g O;refine bh<|aI<|I J ?_;refine dW (st':=⟨[(5,.c<|.X 30003000)],[(30003000,.vec 142 al<|o.set X.length e)],40,[]⟩) (wk ⟨sR J,A⟩ ⟨bE J ?_,A⟩) ?_
    .rw[L,b6]
    refine c8 30003000 J J J<|bw J J (uw _) J<|bO J ?_;have P:bN (o.set X.length e):=xv f.r _ ⟨g,O⟩;have q:=f.v;simp only[fR]at q;rw[lz d X.length n]at q;rw[nM P,FW o X.length e O<|f.z X.length<|aW _,q]
 .have n:Z k<=Z a:=by have h:¬Z a<Z k:=dL;omega
  refine aD ?_;revert Q U W lb n;generalize a=X;generalize k=d;intro u t D w n;refine dW (st':=⟨[(0,N al X),(1,N al d)],[],30,[]⟩) aU<|R ?_;refine rm al (X.length+1) J J J J J J (lH .u32) J ?_ ?_ ?_
  .show _*4<=_;omega
  .show _*1<=_;omega
  refine j J<|I J<|M<|I J ?_;refine ay<|bf (α:=Y×V G×G) (λx=>⟨[(0,N al X),(1,N al d),(5,.c<|.X 30003000),(6,cU x.2.2),(21,y X.length),(22,y x.1)],[(30003000,.vec 142 al x.2.1)],33,[]⟩) (λx=>CR X d (X.length+1) x/\x.1<=X.length) (λx=>X.length-x.1) (0,bg (X.length+1) 0,0) ?_ ?_ ?_
  .refine⟨⟨a8 _,ax,pR _,?_,gK _,FX,Ae⟩,a8 _⟩;intro S _;simp only[aM,ll];split<;>rfl
  .exact wk (bJ J) ⟨bR J,A⟩
  .rintro⟨i,o,e⟩ ⟨f,l⟩;have l:i<=X.length:=l;have B:Z o=X.length+1:=f.len;have g:0<=e:=f.c0;have H:e<=1:=f.c1;have ga:=db u i;have gb:=db t i;refine I J<|M ?_;refine c J (λh=>?_) (λh=>?_)
   .have h:i<X.length:=by simpa using h
    have m:=f.next (O:i<X.length+1) u t;simp only at m;generalize ht:X.getD i 0+E d i 0+e=s at m;have C:aw .u32 s=s%4294967296:=by simp[aw,cY,CP]
    have F:s.fdiv (2^(min (af (32:G))<|cY .u64))=s/4294967296:=by rw[Am _ T];rfl
    refine aD<|M<|ay<|I J<|I J<|M<|I J ?_;refine c J (λh2=>?_)<|λh2=>?_
    .have h2:i<Z d:=by simpa using h2
     refine rt J<|aI ?_;have p:aw .u64 (aw .u64 (aw .u64 (X.getD (af (i:G)) 0)+e)+aw .u64 (E d (af (i:G)) 0))=s:=by rw[b6,wrap_u64 (X.getD i 0) O O,wrap_u64 (E d i 0) O O,wrap_u64 (X.getD i 0+e) O O,wrap_u64 _ O O];omega
     refine dW (st':=⟨[(0,N al X),(1,N al d),(5,.c<|.X 30003000),(7,y i),(8,cU s),(21,y X.length),(22,y i)],[(30003000,.vec 142 al o)],40,[]⟩) (wk ⟨sR J,sR J,sR J,sR J,⟨_,J,bm.of_eq<|bK p⟩,sR J,sR J,A⟩ ⟨bR J,A⟩) ?_;refine I J<|rt J<|bH<|rt J<|aS (i+1,o.set i<|s%4294967296,s/4294967296) ⟨m,Ky⟩ Kz<|wk ⟨sR J,sR J,sR J,sE J ?_,sR J,sE J J,A⟩ ⟨bE J ?_,A⟩
     .exact bK F
     .rw[C,b6]
    .have h2:¬i<Z d:=by simpa using h2
     have K:E d i 0=0:=P4;refine aD ?_;have p:aw .u64 (aw .u64 (X.getD (af (i:G)) 0)+e)=s:=by rw[b6,wrap_u64 (X.getD i 0) O O,wrap_u64 _ O O];omega
     refine dW (st':=⟨[(0,N al X),(1,N al d),(5,.c<|.X 30003000),(7,y i),(8,cU s),(21,y X.length),(22,y i)],[(30003000,.vec 142 al o)],40,[]⟩) (wk ⟨sR J,sR J,sR J,sR J,⟨_,J,bm.of_eq<|bK p⟩,sR J,sR J,A⟩ ⟨bR J,A⟩) ?_;refine I J<|rt J<|bH<|rt J<|aS (i+1,o.set i<|s%4294967296,s/4294967296) ⟨m,Ky⟩ Kz<|wk ⟨sR J,sR J,sR J,sE J ?_,sR J,sE J J,A⟩ ⟨bE J ?_,A⟩
     .exact bK F
     .rw[C,b6]
   .have h:¬i<X.length:=by simpa using h
    have l:i=X.length:=O;subst l;have L:aw .u32 e=e:=wrap_u32 e g O;refine bh<|aI<|I J ?_;refine dW (st':=⟨[(5,.c<|.X 30003000)],[(30003000,.vec 142 al<|o.set X.length e)],40,[]⟩) (wk ⟨sR J,A⟩ ⟨bE J ?_,A⟩) ?_
    .rw[L,b6]
    refine c8 30003000 J J J<|bw J J (uw _) J<|bO J ?_;have P:bN (o.set X.length e):=xv f.r _ ⟨g,O⟩;have q:=f.v;simp only[fR]at q;rw[lz d X.length n]at q;rw[nM P,FW o X.length e O<|f.z X.length<|aW _,q]
def W4:ByteArray:={data:=(([0,1,2,2,3,3,3,3,4,4,4,4,4,4,4,4,5,5,5,5,5,5,5,5,5,5,5,5,5,5,5,5,6,6,6,6,6,6,6,6,6,6,6,6,6,6,6,6,6,6,6,6,6,6,6,6,6,6,6,6,6,6,6,6].append [7,7,7,7,7,7,7,7,7,7,7,7,7,7,7,7,7,7,7,7,7,7,7,7,7,7,7,7,7,7,7,7,7,7,7,7,7,7,7,7,7,7,7,7,7,7,7,7,7,7,7,7,7,7,7,7,7,7,7,7,7,7,7,7]).append<|[8,8,8,8,8,8,8,8,8,8,8,8,8,8,8,8,8,8,8,8,8,8,8,8,8,8,8,8,8,8,8,8,8,8,8,8,8,8,8,8,8,8,8,8,8,8,8,8,8,8,8,8,8,8,8,8,8,8,8,8,8,8,8,8].append [8,8,8,8,8,8,8,8,8,8,8,8,8,8,8,8,8,8,8,8,8,8,8,8,8,8,8,8,8,8,8,8,8,8,8,8,8,8,8,8,8,8,8,8,8,8,8,8,8,8,8,8,8,8,8,8,8,8,8,8,8,8,8,8]).toArray}
def W5(n:Y):Bool:=match FN W4 (n:G)with
 |some l=>decide (0<=l)&&decide (l<=8)&&Nat.blt n (2^af l)&&(Nat.ble (2^af l) (2*n)||Nat.beq n 0)
 |none=>ah
def aib:((List.range 256).all W5)=ae:=dN
def aic{n:Y}(g:n<256):∃l:Y,FN W4 (n:G)=some (l:G)/\l<=8/\n<2^l/\(2^l<=2*n\/n=0):=by
 have a:=l6.1 aib n<|oI.2 g;unfold W5 at a;split at a
 .rename_i l e;simp only[cw,xK,decide_eq_true_eq]at a;let ⟨⟨⟨h2,i⟩,f⟩,d⟩:=a;have f:=c9 f;refine⟨af l,by rw[uq h2];exact e,O,f,?_⟩;rcases d with d|d
  .exact .inl<|c9 d
  .exact .inr<|kI d
 .cases a
def KA{a}{t:TypeId}{x i}{e}{k}{d f}{g}(l:a.ev x=some (.c<|.V<|.string e))(m:a.ev i=some (.c<|.I k d))(n:S t dG=some g)(o:g.kind= .str)(p:FN e d=some f):uu dG a (.index t x i)=some (.c<|.I .u8 f,.le 0 d):=by simp[uu,l,m,n,o,p]
def aid a d(B:bN a)(F:bN d)(la:Z a<=1099511627776)(lb:Z d<=1099511627776):r z 191 [N al a,N al d] (N al<|b<|af<|val a*val d):=by
 refine aJ Tryz.func191 ?_;refine I J<|R ?_;refine rm al (Z a+Z d) J J J J J J (lH .u32) J ?_ ?_ ?_
 .show _*4<=_;omega
 .show _*1<=_;omega
 refine j J<|M<|I J ?_;refine ay<|bf (α:=Y×V G) (λx=>⟨[(0,N al a),(1,N al d),(5,.c<|.X 1005000),(18,y<|Z a),(19,y x.1)],[(1005000,.vec 142 al x.2)],3,[]⟩) (Pu a d) (λx=>Z a-x.1) (0,bg (Z a+Z d) 0) ?_ ?_ ?_
 .refine⟨a8 _,ax,pR _,?_,Ae⟩;intro S _;simp only[aM,ll];split<;>rfl
 .exact wk (bJ J) ⟨bR J,A⟩
 .rintro⟨i,o⟩ l;have g:Z o=Z a+Z d:=l.len;refine I J<|M ?_;refine c J (λh=>?_) (λh=>?_)
  .have h:i<Z a:=by simpa using h
   have K:=db B i;refine aD<|M<|ay<|I J<|I J<|I J<|M<|I J ?_;have L:aw .u64 (E a (af (i:G)) 0)=E a i 0:=by rw[b6,wrap_u64 _ O O]
   refine ay<|bf (α:=Y×V G×G) (λx=>⟨[(0,N al a),(1,N al d),(5,.c<|.X 1005000),(6,y i),(7,cU x.2.2),(8,cU<|E a i 0),(18,y<|Z a),(19,y i),(28,y<|Z d),(29,y x.1)],[(1005000,.vec 142 al x.2.1)],8,[]⟩) (Ag a d i) (λx=>Z d-x.1) (0,o,0) ?_ ?_ ?_
   .refine⟨a8 _,g,l.r,l.z,gK _,(by show(0:G)<_;decide),?_⟩;have:=l.v;simp only at this;simp[this,val]
   .exact wk ⟨sR J,sR J,sR J,sR J,sR J,⟨_,J,bm.of_eq<|bK L⟩,sR J,sR J,sR J,sR J,A⟩ ⟨bR J,A⟩
   .rintro⟨k,o,e⟩ m;have g:Z o=Z a+Z d:=m.len;have p:0<=e:=m.c0;have q:e<4294967296:=m.c1;refine I J<|M ?_;refine c J (λn=>?_) (λn=>?_)
    .have n:k<Z d:=by simpa using n
     have P:=db F k;have Q:=db m.r<|i+k;simp only at Q;have gm:=FZ K.1 O P.1 O;refine aD<|M<|ay<|I J<|I J ?_ (hp:=jJ);have f:af ((i:G)+(k:G))=i+k:=O;have C:aw .u64 (aw .u64 (aw .u64 (E a i 0*aw .u64 (E d (af (k:G)) 0))+aw .u64 (E o (af<|(i:G)+(k:G)) 0))+e)=E a i 0*E d k 0+E o (i+k) 0+e:=by rw[f,b6,wrap_u64 (E d k 0) O O,wrap_u64 (E o (i+k) 0) O O,wrap_u64 (E a i 0*E d k 0) O O,wrap_u64 (E a i 0*E d k 0+E o (i+k) 0) O O,wrap_u64 _ O O]
     have t:=m.next h n B F;simp only at t;generalize ht:E a i 0*E d k 0+E o (i+k) 0+e=s at t C;have u:aw .u32 s=s%4294967296:=by simp[aw,cY,CP]
     have U:s.fdiv (2^(min (af (32:G))<|cY .u64))=s/4294967296:=by rw[Am _ T];rfl
     refine dW (st':=⟨[(0,N al a),(1,N al d),(5,.c<|.X 1005000),(6,y i),(8,cU<|E a i 0),(9,y k),(10,cU s),(18,y<|Z a),(19,y i),(28,y<|Z d),(29,y k)],[(1005000,.vec 142 al o)],12,[]⟩) (wk ⟨sR J,sR J,sR J,sR J,sR J,sR J,sE J ?_,sR J,sR J,sR J,sR J,A⟩ ⟨bR J,A⟩) ?_
     .exact bK C
     refine I J<|rt J<|bH<|rt J<|aS (k+1,o.set (i+k)<|s%4294967296,s/4294967296) t (O:Z d-(k+1)<Z d-k)<|wk ⟨sR J,sR J,sR J,sR J,sE J ?_,sR J,sR J,sR J,sR J,sE J ?_,A⟩ ⟨bE J ?_,A⟩
     .exact bK U
     .rfl
     .rw[u,f]
    .have n:¬k<Z d:=by simpa using n
     have W:k=Z d:=by have:=m.k;simp only at this;omega
     subst W;have w:=m.done h;have f:af ((i:G)+(Z d:G))=i+Z d:=O;have u:aw .u32 e=e:=wrap_u32 e p q;refine bh<|aI<|rt J<|bH<|rt J<|aS (i+1,o.set (i+Z d) e) w nY<|wk ⟨sR J,sR J,sR J,sR J,sE J ?_,A⟩ ⟨bE J ?_,A⟩
     .rfl
     .rw[u,f]
  .have h:¬i<Z a:=by simpa using h
   have D:i=Z a:=by have:=l.i;simp only at this;omega
   subst D;refine bh<|aI<|c8 1005000 J J J<|R ?_;refine rc J J (uw _)<|j J<|bO J ?_;have H:=l.v;simp only[fR]at H;rw[nM l.r];simp only[H]
def W6 m k(a:Z (b m)<=1099511627776)(d:Z (b k)<=1099511627776):r z 160 [N al (b m),N al<|b k] (N al<|b<|m+k):=by have:=aia (b m) (b k) (dE m) (dE k) a d;rw[dU,dU,(O:af ((m:G)+(k:G))=m+k)]at this;exact this
def aie m k(a:Z (b m)<=1099511627776)(d:Z (b k)<=1099511627776):r z 191 [N al (b m),N al<|b k] (N al<|b<|m*k):=by have:=aid (b m) (b k) (dE m) (dE k) a d;rw[dU,dU,show af ((m:G)*(k:G))=m*k by rw[<-eY];rfl]at this;exact this
def aif a d(k:Sm a)(l:Sm d):r z 159 [aZ a,aZ d] (aZ<|a*d):=by
 refine aJ Tryz.func159 ?_;refine I J<|R ?_;refine rc J J (aie _ _ k l)<|rc J J (n9 _ _)<|j J<|bO J ?_;have m:sg (bY a !=bY d) (aA a*aA d)=a*d:=by have e:=yb a;have f:=yb d;generalize aA a=x at e⊢;generalize aA d=y at f⊢;cases g:bY a<;>cases i:bY d<;>rw[g]at e<;>rw[i]at f<;>simp only[sg,b7,bL,hY]at e f<;>rw[<-e,<-f]<;>simp[sg]<;>grind
 exact a6 aZ m
def nC.fs{P}{f}{args}{be}{d}{xs}(cq:nC P f args be d xs):r P f args (.c<|.S d xs):=by
 refine⟨cq.call,J,λH W vs A i D=>?_⟩;let ⟨e,G,I,⟨v,s,w,t,hle,x,l,m⟩,h2⟩:=cq.spec H W vs A i D;refine⟨e,G,I,?_,h2⟩;rcases t with⟨a,C⟩|⟨b,q,F,a,M,N,K,B,y,Y,R⟩
 .subst C;refine⟨v,s,w,?_,hle,x,l,m⟩;have a:v= .slice none 0 0:=a;exact⟨none,0,a,ax,ax,.inl J⟩
 .have a:v= .slice (some ⟨b,0,none⟩) (Z xs) q:=a;have p:cD s (λg o=>if g=b then(if o<Z xs*d.n then F[o]? else none)else s g o):=by
   intro g o v i;by_cases e:g=b
   .subst e;have:s g o=none:=R o;rw[this]at i;cases i
   .simp[e,i]
  refine⟨v,λg o=>if g=b then(if o<Z xs*d.n then F[o]? else none)else s g o,w,?_,cD.trans hle p,?_,?_,m⟩
  .refine⟨some ⟨b,0,none⟩,q,a,K,B,?_⟩;by_cases C:xs=[]
   .exact .inl C
   .refine .inr ⟨b,0,J,λk z=>⟨(az (k*d.n) F).take d.n,cV.length d _ _<|y k z,cV.mono p d _ _<|y k z,λj V=>?_⟩⟩;have L:(k+1)*d.n<=q*d.n:=ef _ O;have Q:(k+1)*d.n<=Z xs*d.n:=ef _ O;rw[gk,iT]at L Q;simp only[fQ,Cj]at V;have U:k*d.n+j<Z xs*d.n:=O;simp only[b7,eH,pX,sx,U];exact cK O
  .intro g o X;have:g≠b:=O;simp only[this,bL];exact x g o X
  .intro g o u i;by_cases e:g=b
   .subst e;simp only[b7]at i;split at i
    .simp[World.cell?,M,i]
    .cases i
   .simp only[e,bL]at i;exact l g o u i
def aih{P}{n}{x e}{f}{Q}{g:Type}(d:g->St)(i:g->Prop)(a:∀m,i m->TR P n e (d m) Q)(k:(∀m,i m->eR n .normal (d m) (sD P e Q))->TR P n x f (sD P e Q)):TR P n (.seq x e) f Q:=
 M (k λm l=>aI<|a m l)
def m0{P}{n}{x e}{f}{Q}d(a:TR P n e d Q)(g:eR n .normal d (sD P e Q)->TR P n x f (sD P e Q)):TR P n (.seq x e) f Q:=
 M (g<|aI a)
def eZ{n}{e}{d a}{Q}(f:eR n e a Q)(g:Wk d a):eR n e d Q:=E8 g f
def An x d s(e:0<=x)(f:x%2^s=0)(g:0<=d)(a:d<2^s)(m:x+d<18446744073709551616):
  aw .u64 ((iG (cY .u64) x|||iG (cY .u64) d).toNat:G)=x+d:=by
 obtain⟨X,rfl⟩:=Ao e
 obtain⟨C,rfl⟩:=Ao g
 have i:((X:G)%2^s)=((X%2^s:Y):G):=ax
 rw[i]at f
 have a:C<2^s:=by
  have:((C:Y):G)<((2^s:Y):G):=by rw[s7];exact a
  omega
 have k:(iG (cY .u64) (X:G)|||iG (cY .u64) (C:G)).toNat=X+C:=by
  rw[KB,KB,BitVec.toNat_or,KC,KC,show cY .u64=64 from J,n5 O,n5 O];have l:X=2^s*(X/2^s):=by have:=qh X<|2^s;omega
  rw[l,<-Nat.two_pow_add_eq_or_of_lt a]
 rw[k,wrap_u64 _ O O];omega
def yj x s(a:0<=x)(d:s<=64)(e:x*2^s<18446744073709551616):aw .u64 (x*2^(min (af ((s:Y):G))<|cY .u64))=x*2^s:=by rw[b6,show min s (cY .u64)=s from q7 d,wrap_u64 _ (iP a<|W7 T) e]
def yk(x:G) s(a:s<=64):x.fdiv (2^(min (af ((s:Y):G))<|cY .u64))=x/2^s:=by rw[b6,show min s (cY .u64)=s from q7 a,Am _<|W7 T]
def W8(x:G) s(a:s<=32):x.fdiv (2^(min (af ((s:Y):G))<|cY .u32))=x/2^s:=by rw[b6,show min s (cY .u32)=s from q7 a,Am _<|W7 T]
def aii(x:Y)(s:0<x)(u:x<4294967296):∃l:Y,r z 245 [cW x] (cI l)/\l<=32/\1<=l/\x<2^l/\2^l<=2*x:=by
 obtain⟨y,n,p,hy,ex⟩:∃y n:Y,(n=0/\y=x/\x<256\/n=8/\y=x/256/\256<=x/\x<65536\/n=16/\y=x/65536/\65536<=x/\x<16777216\/n=24/\y=x/65536/256/\16777216<=x)/\y<256/\0<y:=by
  by_cases a1:x<256
  .exact⟨x,0,.inl ⟨J,J,a1⟩,a1,s⟩
  .by_cases a2:x<65536
   .exact⟨x/256,8,.inr<|.inl ⟨J,J,O,a2⟩,O,O⟩
   .by_cases t:x<16777216
    .exact⟨x/65536,16,.inr<|.inr<|.inl ⟨J,J,O,t⟩,O,O⟩
    .exact⟨x/65536/256,24,.inr<|.inr<|.inr ⟨J,J,O⟩,O,O⟩
 let ⟨l,el,v,h2,q⟩:=aic hy;have q:2^l<=2*y:=O;have B:1<=l:=by
  by_cases e:l=0
  .subst e;simp at h2;omega
  .omega
 refine⟨n+l,?_,O,O,?_,?_⟩
 .have g:(x:G).fdiv (2^(min (af ((16:Y):G))<|cY .u32))=((x/65536:Y):G):=by rw[W8 _ _ O];omega
  have o:∀k:Y,(k:G).fdiv (2^(min (af ((8:Y):G))<|cY .u32))=((k/256:Y):G):=λk=>by rw[W8 _ _ O];omega
  have W9:∀k:Y,k<256->aw .u8 (k:G)=(k:G):=λk C=>by simp[aw,cY,CP];omega
  refine aJ Tryz.func245 ?_;refine I J<|M<|I J ?_;refine c J (λm=>?_)<|λm=>?_
  .have m:65536<=x:=by have m:(65536:G)<=(x:G):=aT m;omega
   refine I J (hp:=aF)<|rt J<|aI<|M<|I J ?_;refine c J (λd=>?_)<|λd=>?_
   .have d:256<=x/65536:=by have d:(256:G)<=(x:G).fdiv (2^(min (af ((16:Y):G))<|cY .u32)):=aT d;rw[g]at d;omega
    refine I J (hp:=aF)<|rt J (hp:=aF)<|aI ?_;refine dW (st':=⟨[(0,cW y),(2,cI n)],[],9,[]⟩) (wk ⟨⟨_,J,bm.of_eq<|Ci<|by show P5 (P5 (x:G)<|2^(min (af ((16:Y):G))<|cY .u32)) (2^(min (af ((8:Y):G))<|cY .u32))=_;rw[g,o];omega⟩,⟨_,J,bm.of_eq<|iz O⟩,A⟩ A) ?_;refine R<|rx (x:= .c<|.I .u8 l) (pm:= .le 0<|aw .u8 (y:G)) J (KA J J J J KD) KE (hp:=aF)<|j J (hp:=aF)<|bO J<|iz ?_;show(n:G)+(l:G)=((n+l:Y):G);omega
   .have d:x/65536<256:=by have d:¬(256:G)<=(x:G).fdiv (2^(min (af ((16:Y):G))<|cY .u32)):=a4 d;rw[g]at d;omega
    refine aD ?_;refine dW (st':=⟨[(0,cW y),(2,cI n)],[],5,[]⟩) (wk ⟨⟨_,J,bm.of_eq<|Ci<|by show P5 (x:G) (2^(min (af ((16:Y):G))<|cY .u32))=_;rw[g];omega⟩,⟨_,J,bm.of_eq<|iz O⟩,A⟩ A) ?_;refine R<|rx (x:= .c<|.I .u8 l) (pm:= .le 0<|aw .u8 (y:G)) J (KA J J J J KD) KE (hp:=aF)<|j J (hp:=aF)<|bO J<|iz ?_;show(n:G)+(l:G)=((n+l:Y):G);omega
  .have m:x<65536:=by have m:¬(65536:G)<=(x:G):=a4 m;omega
   refine aD<|M<|I J ?_;refine c J (λd=>?_)<|λd=>?_
   .have d:256<=x:=by have d:(256:G)<=(x:G):=aT d;omega
    refine I J (hp:=aF)<|rt J (hp:=aF)<|aI ?_;refine dW (st':=⟨[(0,cW y),(2,cI n)],[],5,[]⟩) (wk ⟨⟨_,J,bm.of_eq<|Ci<|by show P5 (x:G) (2^(min (af ((8:Y):G))<|cY .u32))=_;rw[o];omega⟩,⟨_,J,bm.of_eq<|iz O⟩,A⟩ A) ?_;refine R<|rx (x:= .c<|.I .u8 l) (pm:= .le 0<|aw .u8 (y:G)) J (KA J J J J KD) KE (hp:=aF)<|j J (hp:=aF)<|bO J<|iz ?_;show(n:G)+(l:G)=((n+l:Y):G);omega
   .have d:x<256:=by have d:¬(256:G)<=(x:G):=a4 d;omega
    refine aD ?_;refine dW (st':=⟨[(0,cW y),(2,cI n)],[],3,[]⟩) (wk ⟨⟨_,J,bm.of_eq<|Ci (O:(x:G)=(y:G))⟩,⟨_,J,bm.of_eq<|iz O⟩,A⟩ A) ?_;refine R<|rx (x:= .c<|.I .u8 l) (pm:= .le 0<|aw .u8 (y:G)) J (KA J J J J KD) KE (hp:=aF)<|j J (hp:=aF)<|bO J<|iz ?_;show(n:G)+(l:G)=((n+l:Y):G);omega
 .rcases p with⟨f,i,a⟩|⟨f,i,a⟩|⟨f,i,a⟩|⟨f,i,a⟩
  .subst f i;simpa using h2
  .subst f;rw[lI];omega
  .subst f;rw[lI];omega
  .subst f;rw[lI];omega
 .rcases p with⟨f,i,a⟩|⟨f,i,a⟩|⟨f,i,a⟩|⟨f,i,a⟩
  .subst f i;simpa using q
  .subst f;rw[lI];omega
  .subst f;rw[lI];omega
  .subst f;rw[lI];omega
end Go.El
