/- Contracts: differences and products of words. Own work; no condition. -/
import Derived.Test.YtceihkmakfdcnaaGreatB6
import Derived.Test.YtceihkmakfdcnaaGreatB4
set_option linter.all false
set_option maxHeartbeats 16000000
set_option maxRecDepth 100000
open Bool renaming false->ah,true->ae
open Decidable renaming byContradiction->TC
open Go.El renaming rr->e,cS->S,K0->F,ij->U,re->z,dj->j,cI->O,ahT->r,rb->R
open Go.IntKind renaming wrap->aw,bits->c8,signed->Ip
open Go.Proofs.Tryz renaming prog->c
open Int renaming toNat->af,natAbs->aA,gcd->im,neg_ediv_of_dvd->amR,lt_of_mul_lt_mul_right->am4,le_ediv_of_mul_le->am6,ediv_ediv_of_nonneg->anb
open List renaming getD->I,take->M,length->Z,replicate->bl,drop->ay
open Nat renaming gcd->nV
open _root_ renaming List->E,Int->Y,Nat->V
namespace Go.El
open Go Go.Proofs Go.RowKit
structure Is(a b:E Y)(m:V)(x:V×E Y×Y):Prop where
 i:x.1<=m
 len:x.2.1.length=m
 r:bW x.2.1
 z:∀d,x.1<=d->x.2.1.getD d 0=0
 c0:0<=x.2.2
 c1:x.2.2<=1
 v:val x.2.1-x.2.2*4294967296^x.1=val (a.take x.1)-val (b.take x.1)
def Is.next{a b}{m}{x}(h:Is a b m x)(d:x.1<m)(f:bW a)(g:bW b):Is a b m (x.1+1,x.2.1.set x.1<|(4294967296+I a x.1 0-I b x.1 0-x.2.2)%4294967296,1-(4294967296+I a x.1 0-I b x.1 0-x.2.2)/4294967296):=by
 have n:=de f x.1;have o:=de g x.1;have p:=h.c0;have t:=h.c1;refine⟨d,by simp[h.len],zw h.r _ ⟨G,G⟩,?_,(by show 0<=1-_/_;omega),(by show 1-_/_<=1;omega),?_⟩
 .intro j i;simp only at i;rw[uH _ _ _ _ (by rw[h.len];exact d),y G];exact h.z j G
 .simp only;rw[Iq _ _ _ (by rw[h.len];exact d) (h.z _<|aT _),ko,ko,fH];have k:=h.v;generalize (4294967296:Y)^x.1=q at k⊢;generalize ht:4294967296+I a x.1 0-I b x.1 0-x.2.2=s;have l:s%4294967296+s/4294967296*4294967296=s:=G;have:val x.2.1=val (M x.1 a)-val (M x.1 b)+x.2.2*q:=G;rw[this];have e:s%4294967296*q+s/4294967296*(q*4294967296)=s*q:=by rw[show s/4294967296*(q*4294967296)=s/4294967296*4294967296*q by grind,<-nU,l]
  have u:s*q=4294967296*q+I a x.1 0*q-I b x.1 0*q-x.2.2*q:=by rw[<-ht];grind
  have w:(1-s/4294967296)*(q*4294967296)=4294967296*q-s/4294967296*(q*4294967296):=by grind
  omega
def amM a b(u:bW a)(n:bW b)(hl:Z b<=Z a)(H:val b<=val a)(la:Z a<=1099511627776):ao c 145 [S al a,S al b] (S al<|r<|af<|val a-val b):=by
 refine aL Tryz.func145 ?_;refine e J<|R ?_;refine rm al (Z a) J J J J J J (mE .u32) J ?_ ?_ ?_
 .show _*4<=_;omega
 .show _*1<=_;omega
 refine z J<|e J<|j<|e J ?_;generalize hM:Z a=M;refine az<|bq (α:=V×E Y×Y) (λx=>⟨[(0,S al a),(1,S al b),(5,.c<|.X 1002000),(6,cU x.2.2),(7,O x.1)],[(1002000,.vec 142 al x.2.1)],4,[]⟩) (Is a b M) (λx=>M-x.1) (0,bl M 0,0) ?_ ?_ ?_
 .refine⟨bf _,ax,rI M,?_,hY _,Ir,B2⟩;intro N _;simp only[aN,lY];split<;>rfl
 .exact wk (bM J) ⟨bR J,A⟩
 .rintro⟨i,o,d⟩ f;have g:Z o=M:=f.len;have C:0<=d:=f.c0;have K:d<=1:=f.c1;have U:=de u i;have gb:=de n i;refine j<|e J ?_;refine F J (λh=>?_) (λh=>?_)
  .have h:i<M:=by simpa[hM]using h
   refine aE<|j<|az<|R ?_;refine rc J J (B1 b i n)<|z J ?_;have L:aw .u64 (aw .u64 (aw .u64 (4294967296+aw .u64 (I a (af (i:Y)) 0))-I b i 0)-d)=4294967296+I a i 0-I b i 0-d:=by rw[cr,wrap_u64 (I a i 0) G G,wrap_u64 (4294967296+I a i 0) G G,wrap_u64 (4294967296+I a i 0-I b i 0) G G,wrap_u64 _ G G]
   simp only[L];generalize ht:4294967296+I a i 0-I b i 0-d=s;have P:aw .u32 (s.tmod 4294967296)=s%4294967296:=by rw[lX G,wrap_u32 _ G G]
   have Q:aw .u64 (1-aw .u64 (s.tdiv 4294967296))=1-s/4294967296:=by rw[uG G,wrap_u64 (s/4294967296) G G,wrap_u64 _ G G]
   have w:=f.next h u n;simp only[ht]at w;refine e J<|rt J<|bL<|rt J<|a4 (i+1,o.set i<|s%4294967296,1-s/4294967296) w xJ<|wk ⟨sR J,sR J,sR J,sE J ?_,sE J ?_,A⟩ ⟨bE J ?_,A⟩
   .exact bP Q
   .rfl
   .rw[P,cr]
  .have h:¬i<M:=by simpa[hM]using h
   have T:i=M:=by have:=f.i;simp only at this;omega
   refine bt<|aK<|da 1002000 J J J<|R ?_;refine rc J J (zy _)<|z J<|bY J ?_;have k:=f.v;simp only at k;have p:bW o:=f.r;have t:=nf p;have W:=lW p;have l:val (List.take i a)=val a:=mH a i G;have m:val (List.take i b)=val b:=mH b i G;have B:=jJ M;rw[g]at t;have q:d=0:=by
    rw[l,m,T]at k;rcases Int.lt_or_le d 1 with y|D
    .omega
    .have:d=1:=by omega
     subst this;omega
   rw[oV p];subst q;rw[l,m]at k;simp only[nh,B3]at k;rw[k]
structure Ts(a b:E Y)(x:V×E Y):Prop where
 i:x.1<=a.length
 len:x.2.length=a.length+b.length
 r:bW x.2
 z:∀d,x.1+b.length<=d->x.2.getD d 0=0
 v:val x.2=val (a.take x.1)*val b
structure B4(a b:E Y)(i:V)(x:V×E Y×Y):Prop where
 k:x.1<=b.length
 len:x.2.1.length=a.length+b.length
 r:bW x.2.1
 z:∀d,i+b.length<=d->x.2.1.getD d 0=0
 c0:0<=x.2.2
 c1:x.2.2<4294967296
 v:val x.2.1+x.2.2*4294967296^(i+x.1)=val (a.take i)*val b+a.getD i 0*val (b.take x.1)*4294967296^i
def It{x a:Y}(f:0<=x)(b:x<=4294967295)(d:0<=a)(g:a<=4294967295):0<=x*a/\x*a<=18446744065119617025:=by refine⟨jB f d,?_⟩;have h:x*a<=4294967295*a:=hZ b d;omega
def B4.next{a b}{i}{x}(h:B4 a b i x)(B:i<Z a)(g:x.1<Z b)(l:bW a)(m:bW b):B4 a b i (x.1+1,x.2.1.set (i+x.1)<|(I a i 0*I b x.1 0+I x.2.1 (i+x.1) 0+x.2.2)%4294967296,(I a i 0*I b x.1 0+I x.2.1 (i+x.1) 0+x.2.2)/4294967296):=by
 have k:=de l i;have n:=de m x.1;have C:=h.c0;have H:=h.c1;have K:=de h.r<|i+x.1;have L:=It k.1 G n.1 G;have d:i+x.1<Z x.2.1:=by rw[h.len];omega
 refine⟨g,by simp[h.len],zw h.r _ ⟨G,G⟩,?_,(by show 0<=_/_;omega),(by show _/_<(4294967296:Y);omega),?_⟩
 .intro j o;simp only;rw[uH _ _ _ _ d,y G];exact h.z j o
 .simp only;rw[Tn _ _ _ d,ko,<-q',fH];have p:=h.v;have f:(4294967296:Y)^(i+x.1)=4294967296^i*4294967296^x.1:=Int.pow_add ..;generalize hq:(4294967296:Y)^(i+x.1)=q at p f⊢;generalize ht:I a i 0*I b x.1 0+I x.2.1 (i+x.1) 0+x.2.2=s;have t:s%4294967296+s/4294967296*4294967296=s:=G;have e:s%4294967296*q+s/4294967296*(q*4294967296)=s*q:=by rw[show s/4294967296*(q*4294967296)=s/4294967296*4294967296*q by grind,<-nU,t]
  have P:s*q=I a i 0*I b x.1 0*q+I x.2.1 (i+x.1) 0*q+x.2.2*q:=by rw[<-ht];grind
  have u:(s%4294967296-I x.2.1 (i+x.1) 0)*q=s%4294967296*q-I x.2.1 (i+x.1) 0*q:=by grind
  have w:I a i 0*(val (M x.1 b)+I b x.1 0*4294967296^x.1)*4294967296^i=I a i 0*val (M x.1 b)*4294967296^i+I a i 0*I b x.1 0*q:=by rw[f];grind
  rw[u,w];omega
def B4.done{a b}{i}{o}{f}(h:B4 a b i (Z b,o,f))(l:i<Z a):Ts a b (i+1,o.set (i+Z b) f):=by
 have d:Z o=Z a+Z b:=h.len;have k:=h.c0;have m:=h.c1;have n:I o (i+Z b) 0=0:=h.z _<|aT _;refine⟨l,by simp[d],zw h.r _ ⟨k,m⟩,?_,?_⟩
 .intro j p;simp only at p⊢;rw[uH _ _ _ _ G,y G];exact h.z j G
 .simp only;rw[Iq _ _ _ G n,ko];have g:=h.v;simp only[gQ]at g;rw[g];grind
def amN a b(B:bW a)(H:bW b)(la:Z a<=1099511627776)(lb:Z b<=1099511627776):ao c 146 [S al a,S al b] (S al<|r<|af<|val a*val b):=by
 refine aL Tryz.func146 ?_;refine e J<|R ?_;refine rm al (Z a+Z b) J J J J J J (mE .u32) J ?_ ?_ ?_
 .show _*4<=_;omega
 .show _*1<=_;omega
 refine z J<|j<|e J ?_;refine az<|bq (α:=V×E Y) (λx=>⟨[(0,S al a),(1,S al b),(5,.c<|.X 1005000),(6,O x.1)],[(1005000,.vec 142 al x.2)],3,[]⟩) (Ts a b) (λx=>Z a-x.1) (0,bl (Z a+Z b) 0) ?_ ?_ ?_
 .refine⟨bf _,ax,rI _,?_,B2⟩;intro D _;simp only[aN,lY];split<;>rfl
 .exact wk (bM J) ⟨bR J,A⟩
 .rintro⟨i,o⟩ l;have g:Z o=Z a+Z b:=l.len;refine j<|e J ?_;refine F J (λh=>?_) (λh=>?_)
  .have h:i<Z a:=by simpa using h
   refine aE<|j<|az<|e J<|j<|e J ?_;refine az<|bq (α:=V×E Y×Y) (λx=>⟨[(0,S al a),(1,S al b),(5,.c<|.X 1005000),(6,O i),(7,cU x.2.2),(8,O x.1)],[(1005000,.vec 142 al x.2.1)],6,[]⟩) (B4 a b i) (λx=>Z b-x.1) (0,o,0) ?_ ?_ ?_
   .refine⟨bf _,g,l.r,l.z,hY _,(by show(0:Y)<_;decide),?_⟩;have:=l.v;simp only at this;simp[this,val]
   .exact wk (bM J) ⟨bR J,A⟩
   .rintro⟨k,o,d⟩ m;have g:Z o=Z a+Z b:=m.len;have p:0<=d:=m.c0;have t:d<4294967296:=m.c1;refine j<|e J ?_;refine F J (λn=>?_) (λn=>?_)
    .have n:k<Z b:=by simpa using n
     have L:=de B i;have P:=de H k;have Q:=de m.r<|i+k;simp only at Q;have M:=It L.1 G P.1 G;refine aE<|j<|az<|e J ?_ (hp:=kp);have f:af ((i:Y)+(k:Y))=i+k:=G;have C:aw .u64 (aw .u64 (aw .u64 (aw .u64 (I a (af (i:Y)) 0)*aw .u64 (I b (af (k:Y)) 0))+aw .u64 (I o (af<|(i:Y)+(k:Y)) 0))+d)=I a i 0*I b k 0+I o (i+k) 0+d:=by rw[f,cr,cr,wrap_u64 (I a i 0) G G,wrap_u64 (I b k 0) G G,wrap_u64 (I o (i+k) 0) G G,wrap_u64 (I a i 0*I b k 0) G G,wrap_u64 (I a i 0*I b k 0+I o (i+k) 0) G G,wrap_u64 _ G G]
     have u:=m.next h n B H;simp only at u;generalize ht:I a i 0*I b k 0+I o (i+k) 0+d=s at u C;have w:aw .u32 (s.tmod 4294967296)=s%4294967296:=by rw[lX G,wrap_u32 _ G G]
     have T:aw .u64 (s.tdiv 4294967296)=s/4294967296:=by rw[uG G,wrap_u64 _ G G]
     refine eR (st':=⟨[(0,S al a),(1,S al b),(5,.c<|.X 1005000),(6,O i),(8,O k),(9,cU s)],[(1005000,.vec 142 al o)],8,[]⟩) (wk ⟨sR J,sR J,sR J,sR J,sR J,sE J ?_,A⟩ ⟨bR J,A⟩) ?_
     .exact bP C
     refine e J<|rt J<|bL<|rt J<|a4 (k+1,o.set (i+k)<|s%4294967296,s/4294967296) u (G:Z b-(k+1)<Z b-k)<|wk ⟨sR J,sR J,sR J,sR J,sE J ?_,sE J ?_,A⟩ ⟨bE J ?_,A⟩
     .exact bP T
     .rfl
     .rw[w,f]
    .have n:¬k<Z b:=by simpa using n
     have W:k=Z b:=by have:=m.k;simp only at this;omega
     subst W;have q:=m.done h;have f:af ((i:Y)+(Z b:Y))=i+Z b:=G;have w:aw .u32 d=d:=wrap_u32 d p t;refine bt<|aK<|rt J<|bL<|rt J<|a4 (i+1,o.set (i+Z b) d) q qy<|wk ⟨sR J,sR J,sR J,sE J ?_,A⟩ ⟨bE J ?_,A⟩
     .rfl
     .rw[w,f]
  .have h:¬i<Z a:=by simpa using h
   have y:i=Z a:=by have:=l.i;simp only at this;omega
   subst y;refine bt<|aK<|da 1005000 J J J<|R ?_;refine rc J J (zy _)<|z J<|bY J ?_;have K:=l.v;simp only[gQ]at K;rw[oV l.r];simp only[K]
def Sm(a:Y):Prop:=Z (er a)<=1099511627776
def sg(neg:Bool)(m:V):Y:=if neg then-(m:Y)else m
def zz a:sg (cj a) (aA a)=a:=by
 unfold sg cj;by_cases h:a<0
 .simp[h];omega
 .simp[h];omega
def oX{m}:0<Z (r m)↔m≠0:=by
 constructor
 .intro h e;subst e;simp[EZ]at h
 .intro h;rw[xI h];simp
def mkZ neg m:(AV.a [.B (neg&&decide (0<Z (r m))),.S al<|r m])=aZ (sg neg m):=by
 have b:cj (sg neg m)=(neg&&decide (0<Z (r m))):=by
  unfold cj sg;cases neg with
  |false=>simp
  |true=>
   simp only[cd,Bool.true_and]
   rw[Bool.eq_iff_iff]
   simp only[decide_eq_true_eq]
   rw[oX];omega
 have d:aA (sg neg m)=m:=by unfold sg;cases neg<;>simp
 unfold aZ;simp only[av,er,b,d]
def qA neg m:ao c 135 [cB neg,S al<|r m] (aZ<|sg neg m):=by have:=amJ neg<|r m;rw[Tp,mkZ]at this;exact this
def jn n(d: -9223372036854775808<=n)(g:n<=9223372036854775807):ao c 84 [O n] (aZ n):=by
 refine aL Tryz.func84 ?_;refine e J<|j<|e J ?_;refine F J (λh=>?_)<|λh=>?_
 .have h:n<0:=by simpa using h
  have a:aw .u64 (aw .u64 (0-(n+1))+1)=(af (-n):V):=by rw[wrap_u64 (0-(n+1)) G G,wrap_u64 _ G G];omega
  refine R ?_;refine rc J J (f:=136) (r:=S al<|r<|af<| -n) (by rw[a];exact E0 _ G) ?_;refine rc J J (qA ae _)<|z J<|bV<|cQ<|fg J ?_;have b:sg ae (af<| -n)=n:=by unfold sg;simp;omega
  rw[b];rfl
 .have h:¬n<0:=by simpa using h
  have a:aw .u64 n=(af n:V):=by rw[wrap_u64 _ G G];omega
  refine aE<|R ?_;refine rc J J (f:=136) (r:=S al<|r<|af n) (by rw[show(AV.c (num .u64 n).1)=cU ((af n:V):Y)from bP a];exact E0 _ G) ?_;refine rc J J (qA ah _)<|z J<|bY J ?_;have b:sg ah (af n)=n:=by unfold sg;simp;omega
  rw[b];rfl
def eV(a:Y):Y:=if a<0 then-1 else if a=0 then 0 else 1
def B5 a:ao c 94 [aZ a] (O<|eV a):=by
 refine aL Tryz.func94 ?_;refine e J<|j<|e J ?_;refine F J (λh=>?_)<|λh=>?_
 .have h:a<0:=by simpa[cj]using h
  refine e J<|bV<|cQ<|fg J ?_;rw[eV,q h];rfl
 .have h:¬a<0:=by simpa[cj]using h
  refine aE<|e J<|bY J ?_;have d:(if ae=ah then(0:Y)else if(1:Y)<Z (er a)then 1 else Z (er a))=eV a:=by
   rw[y D,eV,y h];by_cases b:a=0
   .subst b;rfl
   .have:0<Z (er a):=oX.2 G;rw[y b];split<;>omega
  exact jb d
def abg a:ao c 97 [aZ a] (aZ<| -a):=by
 refine aL Tryz.func97 ?_;refine e J<|R ?_;refine rc J J (qA (!cj a)<|aA a)<|z J<|bY J ?_;have b:sg (!cj a) (aA a)= -a:=by
  unfold sg cj;by_cases h:a<0
  .simp[h];omega
  .simp[h];omega
 rw[b];rfl
def Iu m k:ao c 144 [S al (r m),S al<|r k] (O<|dK m k):=by have:=amK (r m) (r k) (dW m) (dW k) (wa m)<|wa k;rw[eJ,eJ]at this;exact this
def M4 a b:ao c 95 [aZ a,aZ b] (O<|dK a b):=by
 refine aL Tryz.func95 ?_;refine e J<|j<|R ?_;refine rg 7 J J (λh=>?_)<|λh=>?_
 .have g:a<0:=by simpa[cj]using h
  refine z J<|F J (λf=>?_)<|λf=>?_
  .have k:¬b<0:=by simpa[cj]using f
   refine e J<|bV<|cQ<|fg J ?_;rw[dK,q G];rfl
  .have k:b<0:=by simpa[cj]using f
   refine aE<|j<|R ?_;refine rg 15 J J (λi=>?_)<|λi=>?_
   .simp[cj,g]at i
   .refine z J<|F J (λd=>by simp at d)<|λ_=>?_;refine aE<|j<|e J ?_;refine F J (λd=>?_) (λd=>?_)
    .refine bH J J (Iu _ _) J<|bV<|cQ<|fg J ?_;have l:dK (aA b) (aA a)=dK a b:=by unfold dK;split<;>split<;>(try split)<;>omega
     exact jb l
    .simp[cj,g]at d
 .have g:¬a<0:=by simpa[cj]using h
  refine z J<|F J (λf=>by simp at f)<|λf=>?_;refine aE<|j<|R ?_;refine rg 15 J J (λi=>?_)<|λi=>?_
  .refine z J (F J (λd=>?_)<|λd=>?_)
   .have k:b<0:=by simpa[cj]using d
    refine e J<|bV<|cQ<|fg J ?_;rw[dK,y G,q G];rfl
   .have k:¬b<0:=by simpa[cj]using d
    refine aE<|j<|e J ?_;refine F J (λd=>?_)<|λd=>?_
    .simp[cj,g]at d
    .refine aE<|bH J J (Iu _ _) J<|bY J ?_;have l:dK (aA a) (aA b)=dK a b:=by unfold dK;split<;>split<;>(try split)<;>omega
     exact jb l
  .simp[cj,g]at i
def abh m k(a:Z (r m)<=1099511627776)(b:Z (r k)<=1099511627776):ao c 143 [S al (r m),S al<|r k] (S al<|r<|m+k):=by have:=amL (r m) (r k) (dW m) (dW k) a b;rw[eJ,eJ,(G:af ((m:Y)+(k:Y))=m+k)]at this;exact this
def sZ{m k}(h:m<=k):Z (r m)<=Z (r k):=B0 (by have:=uE (n:=k);omega)
def Tt m k(h:k<=m)(a:Z (r m)<=1099511627776):ao c 145 [S al (r m),S al<|r k] (S al<|r<|m-k):=by have:=amM (r m) (r k) (dW m) (dW k) (sZ h) (by rw[eJ,eJ];omega) a;rw[eJ,eJ,(G:af ((m:Y)-(k:Y))=m-k)]at this;exact this
def Tu m k(a:Z (r m)<=1099511627776)(b:Z (r k)<=1099511627776):ao c 146 [S al (r m),S al<|r k] (S al<|r<|m*k):=by have:=amN (r m) (r k) (dW m) (dW k) a b;rw[eJ,eJ,show af ((m:Y)*(k:Y))=m*k by rw[<-fC];rfl]at this;exact this
def kV a b(i:Sm a)(k:Sm b):ao c 91 [aZ a,aZ b] (aZ<|a*b):=by
 refine DQ Tryz.func91 J J J J J D ?_;refine e J<|R ?_;refine rc J J (Tu _ _ i k)<|rc J J (qA _ _)<|z J<|bV<|iJ cv J<|bg.of_eq ?_;have l:sg (cj a !=cj b) (aA a*aA b)=a*b:=by have d:=zz a;have f:=zz b;generalize aA a=x at d⊢;generalize aA b=y at f⊢;cases g:cj a<;>cases h:cj b<;>rw[g]at d<;>rw[h]at f<;>simp only[sg,cd,bQ,iF]at d f<;>rw[<-d,<-f]<;>simp[sg]<;>grind
 exact bh aZ l
def xK a b(i:Sm a)(k:Sm b):ao c 90 [aZ a,aZ b] (aZ<|a+b):=by
 refine aL Tryz.func90 ?_;refine e J<|j<|e J ?_;refine F J (λh=>?_)<|λh=>?_
 .have h:cj a=cj b:=by simpa using h
  refine R<|rc J J (abh _ _ i k)<|rc J J (qA _ _)<|z J<|bV<|cQ<|fg J ?_;have d:sg (cj a) (aA a+aA b)=a+b:=by unfold cj sg at*;by_cases f:a<0<;>by_cases h2:b<0<;>simp[f,h2]at h⊢<;>omega
  exact bh aZ d
 .have h:cj a≠cj b:=by simpa using h
  refine aE<|j<|bH J J (Iu _ _) J ?_;refine F J (λh2=>?_)<|λh2=>?_
  .have h2:aA a<aA b:=by
    have h2:dK (aA a) (aA b)<0:=p';unfold dK at h2;split at h2
    .omega
    .split at h2<;>omega
   refine R<|rc J J (Tt _ _ G k)<|rc J J (qA _ _)<|z J<|bV<|cQ<|fg J ?_;have d:sg (cj b) (aA b-aA a)=a+b:=by unfold cj sg at*;by_cases f:a<0<;>by_cases g:b<0<;>simp[f,g]at h⊢<;>omega
   exact bh aZ d
  .have h2:aA b<=aA a:=by
    have h2:¬dK (aA a) (aA b)<0:=p';unfold dK at h2;split at h2
    .omega
    .omega
   refine aE<|R<|rc J J (Tt _ _ G i)<|rc J J (qA _ _)<|z J<|bY J ?_;have d:sg (cj a) (aA a-aA b)=a+b:=by unfold cj sg at*;by_cases f:a<0<;>by_cases g:b<0<;>simp[f,g]at h⊢<;>omega
   exact bh aZ d
def amO(m k:V)(b:m<18446744073709551616)(d:k<18446744073709551616):ao c 184 [cU m,cU k] (cU<|nV m k):=by
 refine aL Tryz.func184 ?_;refine e J<|j<|az<|bq (α:=V×V) (λx=>⟨[(0,cU x.1),(1,cU x.2)],[],1,[]⟩) (λx=>nV x.1 x.2=nV m k/\x.1<18446744073709551616/\x.2<18446744073709551616) (λx=>x.2) (m,k) ⟨J,b,d⟩ aV ?_;rintro⟨x,y⟩ ⟨hg,hx,a⟩;simp only at hg hx a;refine j<|e J ?_;refine F J (λh=>?_)<|λh=>?_
 .have h:0<y:=by have:(y:Y)>0:=eh;omega
  refine aE<|az<|e J<|e J<|rt J<|fB<|a4 (y,x%y) ⟨?_,a,?_⟩ ?_<|wk ⟨sR J,sE J ?_,A⟩ A
  .rw[<-hg,zA x y,Nat.gcd_rec y x,zA]
  .exact fO (fN _ h)<|BZ a
  .exact fN _ h
  .have f:(x:Y).tmod (y:Y)=((x%y:V):Y):=by rw[lX G];omega
   exact bP f
 .have h:y=0:=by have:¬(y:Y)>0:=eh;omega
  subst h;refine bt<|aK<|e J<|bY J ?_;rw[<-hg,M5]
def abi m:I (r m) 0 0=((m%4294967296:V):Y):=by
 by_cases h:m=0
 .subst h;rfl
 .rw[xI h];rfl
def amP m(a:m<18446744073709551616):I (r m) 1 0=((m/4294967296:V):Y):=by
 by_cases h:m=0
 .subst h;rfl
 .rw[xI h,To,abi];congr 1;omega
def Tv m(a:m<18446744073709551616):ao c 185 [S al (r m)] (cU m):=by
 refine aL Tryz.func185 ?_;refine e J<|R ?_;refine rc J J (B1 _ 1<|dW m)<|rc J J (B1 _ 0<|dW m)<|z J<|bY J ?_;have b:aw .u64 (aw .u64 (I (r m) 1 0*4294967296)+I (r m) 0 0)=m:=by rw[abi,amP m a,wrap_u64 (((m/4294967296:V):Y)*4294967296) G G,wrap_u64 _ G G];omega
 exact bP b
def Iv{m}(a:m<18446744073709551616):Z (r m)<=2:=B0 (G:(m:Y)<4294967296^2)
structure E4(a:E Y)(d:Y)(x:V×E Y×Y):Prop where
 k:x.1<=a.length
 len:x.2.1.length=a.length
 r:bW x.2.1
 r0:0<=x.2.2
 r1:x.2.2<d
 v:val (a.drop x.1)=val (x.2.1.drop x.1)*d+x.2.2
def drop_cons(l:E Y) a(h:a<Z l):ay a l=I l a 0::ay (a+1) l:=by rw[rJ h];simp[aN,cO h]
def M6{b a d:Y}(g:0<=b)(h:b<d)(i:0<=a)(k:a<4294967296)(l:d<4294967296):0<=b*4294967296+a/\b*4294967296+a<18446744073709551616/\0<=(b*4294967296+a)/d/\(b*4294967296+a)/d<4294967296/\0<=(b*4294967296+a)%d/\(b*4294967296+a)%d<d:=by have f:0<d:=G;refine⟨G,G,zB G G,?_,iP _ G,iR _ f⟩;apply E5 f;have:(b+1)*4294967296<=d*4294967296:=hZ G D;omega
def E4.next{a}{d}{b}{i}{f}(h:E4 a d (b+1,i,f))(m:bW a)(n:d<4294967296):E4 a d (b,i.set b<|(f*4294967296+I a b 0)/d,(f*4294967296+I a b 0)%d):=by have g:=de m b;have o:0<=f:=h.r0;have p:f<d:=h.r1;have l:=M6 o p g.1 g.2 n;have u:b+1<=Z a:=h.k;have s:Z i=Z a:=h.len;refine⟨by show b<=_;omega,by simp[s],zw h.r _ ⟨l.2.2.1,l.2.2.2.1⟩,l.2.2.2.2.1,l.2.2.2.2.2,?_⟩;have t:val (ay (b+1) a)=val (ay (b+1) i)*d+f:=h.v;simp only;rw[drop_cons a b G,drop_cons (i.set b _) b bX,uH _ _ _ _ G,q J,List.drop_set_of_lt G];simp only[val];rw[t];have:=nW (f*4294967296+I a b 0) d;generalize (f*4294967296+I a b 0)/d=x at*;generalize (f*4294967296+I a b 0)%d=y at*;grind
def abj a d(n:bW a)(i:0<d)(o:d<4294967296)(T:Z a<=1099511627776):ao c 217 [S al a,cU d] (.t [(ah,[.S al (r<|af<|val a/d)]),(ah,[.I .u64 (val a%d)])]):=by
 refine aL Tryz.func217 ?_;refine e J<|R ?_;refine rm al (Z a) J J J J J J (mE .u32) J ?_ ?_ ?_
 .show _*4<=_;omega
 .show _*1<=_;omega
 refine z J<|e J<|dj<|e J ?_;refine az<|bq (α:=V×E Y×Y) (λx=>⟨[(0,S al a),(1,cU d),(6,.c<|.X 1002000),(7,cU x.2.2),(8,O<|(x.1:Y)-1)],[(1002000,.vec 142 al x.2.1)],4,[]⟩) (E4 a d) (λx=>x.1) (Z a,bl (Z a) 0,0) ?_ ?_ ?_
 .exact⟨aT _,ax,rI _,hY _,i,xL⟩
 .exact wk (bM J) ⟨bR J,A⟩
 .rintro⟨k,q,b⟩ f;have p:Z q=Z a:=f.len;have l:0<=b:=f.r0;have m:b<d:=f.r1;have W:k<=Z a:=f.k;refine dj<|e J ?_;refine F J (λh=>?_) (λh=>?_)
  .have h:(k:Y)-1>=0:=by simpa using h
   obtain⟨j,rfl⟩:∃j,k=j+1:=⟨k-1,G⟩;have u:af (((j+1:V):Y)-1)=j:=G;have g:=de n j;have H:=M6 l m g.1 g.2 o;have w:=f.next n o;refine aE<|dj<|az<|e J ?_;have B:aw .u64 (aw .u64 (b*4294967296)+aw .u64 (I a (af<|((j+1:V):Y)-1) 0))=b*4294967296+I a j 0:=by rw[u,wrap_u64 (b*4294967296) G G,wrap_u64 (I a j 0) G G,wrap_u64 _ G G]
   generalize ht:b*4294967296+I a j 0=s at w H B;have K:aw .u32 (aw .u64<|s.tdiv d)=s/d:=by rw[uG G,wrap_u64 _ G G,wrap_u32 _ G G]
   have L:s.tmod d=s%d:=lX G;refine eR (st':=⟨[(0,S al a),(1,cU d),(6,.c<|.X 1002000),(8,O<|((j+1:V):Y)-1),(9,cU s)],[(1002000,.vec 142 al q)],6,[]⟩) (wk ⟨sR J,sR J,sR J,sR J,sE J ?_,A⟩ ⟨bR J,A⟩) ?_
   .exact bP B
   refine e J<|rt J<|bL<|rt J<|a4 (j,q.set j<|s/d,s%d) w sY<|wk ⟨sR J,sR J,sR J,sE J ?_,sE J ?_,A⟩ ⟨bE J ?_,A⟩
   .exact bP L
   .refine jb ?_;show((j+1:V):Y)-1-1=(j:Y)-1;omega
   .rw[K,u]
  .have h:¬((k:Y)-1>=0):=by simpa using h
   have:k=0:=G;subst this;refine bt<|aK<|da 1002000 J J J<|R ?_;refine rc J J (zy _)<|z J<|bY J ?_;have C:val a=val q*d+b:=f.v;have P:bW q:=f.r;have eq:val a/d=val q:=by rw[C,wc,B6 _ _ G,E6 l m];omega
   have Q:val a%d=b:=by rw[C,wc,Tw,gX l m]
   rw[oV P,eq,Q];rfl
def bg.t2{x d f}(h:bg (.c x) (.c d)):bg (.t [(ah,[x]),(ah,[f])]) (.t [(ah,[d]),(ah,[f])]):=by
 refine⟨?_,?_⟩
 .rintro g v ⟨vs,rfl,v1,r,rfl,i,b⟩;exact⟨_,J,v1,r,J,h.1 g v1 i,b⟩
 .intro k a;have b:=h.2 k;simp only[AV.ak,eG,cp,ik,be]at a b⊢;exact a.elim (λh=> .inl<|b h) .inr
def amQ m k(a:k≠0)(h:m<k\/k<4294967296)(d:Z (r m)<=1099511627776):ao c 186 [S al (r m),S al<|r k] (.t [(ah,[.S al (r<|m/k)]),(ah,[.S al (r<|m%k)])]):=by
 refine aL Tryz.func186 ?_;refine e J<|j<|bH J J (Iu m k) J ?_;refine F J (λh2=>?_)<|λh2=>?_
 .have h2:m<k:=by
   have h2:dK m k<0:=p';unfold dK at h2;split at h2
   .omega
   .split at h2<;>omega
  refine e J<|bV<|cQ<|iJ cv J ?_;rw[B7 h2,oY h2];exact bg.t2<|bg.nil al
 .have h2:¬m<k:=by have h2:¬dK m k<0:=p';unfold dK at h2;split at h2<;>omega
  have g:k<4294967296:=h.resolve_left h2;have i:r k=[(k:Y)]:=by rw[xI a,(G:k%4294967296=k),(G:k/4294967296=0)];rfl
  refine aE<|j<|e J ?_;rw[i];refine F J (λb=>?_) (λb=>by simp at b);refine R ?_;have l:aw .u64 (k:Y)=k:=wrap_u64 _ G G;refine rc J J (f:=217) (r:= .t [(ah,[.S al (r<|m/k)]),(ah,[.I .u64 ((m%k:V):Y)])]) ?_ ?_
  .have:=abj (r m) k (dW m) G G d;rw[eJ,show af ((m:Y)/(k:Y))=m/k from J,show(m:Y)%(k:Y)=((m%k:V):Y)from J]at this;rw[show(AV.c (num .u64<|[(k:Y)].getD (af (0:Y)) 0).1)=cU (k:Y)from bP l];exact this
  refine z J<|bH J J (E0 _ ?_) J<|bV<|cQ<|atR J;have:=fN m<|rL a;omega
def Tx a B(b:0<B):(aA a:Y)=((aA a%B:V):Y)+(B:Y)*((aA a/B:V):Y)/\aA a%B<B:=by refine⟨?_,fN _ b⟩;have:=Nat.mod_add_div (aA a) B;rw[<-fC,<-xM,this]
def abk{a}{B:V}(b:0<B)(d:¬a<0):a/(B:Y)=((aA a/B:V):Y)/\a%(B:Y)=((aA a%B:V):Y):=by let ⟨f,h2⟩:=Tx a B b;exact(Ty G).2 ⟨G,G,G⟩
def abl{a}{B}(b:0<B)(g:a<0)(d:aA a%B=0):a/(B:Y)= -((aA a/B:V):Y)/\a%(B:Y)=0:=by let ⟨f,h2⟩:=Tx a B b;refine(Ty G).2 ⟨?_,G,G⟩;rw[d]at f;rw[Int.mul_neg];omega
def abm{a}{B}(b:0<B)(d:a<0)(f:aA a%B≠0):a/(B:Y)= -((aA a/B+1:V):Y)/\a%(B:Y)=((B-aA a%B:V):Y):=by let ⟨g,h2⟩:=Tx a B b;refine(Ty G).2 ⟨?_,G,G⟩;rw[Int.mul_neg,xM,oA];omega
def E7 a b(h i:V)(d:a/(aA b:Y)=sg (cj a) h)(f:a%(aA b:Y)=i):a/b=sg (cj a !=cj b) h/\a%b=sg ah i:=by
 by_cases k:b<0
 .have e:b= -(aA b:Y):=by omega
  have g:cj b=ae:=by simp[cj,k]
  rw[e,B8,Int.emod_neg,<-e,d,f,g];refine⟨?_,J⟩;unfold sg;cases cj a<;>simp
 .have e:b=(aA b:Y):=by omega
  have g:cj b=ah:=by simp[cj,k]
  rw[<-e]at d f;rw[d,f,g];refine⟨?_,J⟩;cases cj a<;>rfl
def Sm.of{a}(h:aA a<18446744073709551616):Sm a:=b6 (Iv h) D
def zC n(a: -9223372036854775808<=n)(b:n<=9223372036854775807):ao c 30 [O n] (aQ (n:Rat)):=by refine aL Tryz.func30 ?_;refine e J<|R<|rc J J (jn n a b)<|rc J J (jn 1 D D)<|z J<|bY J ?_;rfl
def M7 a:ao c 40 [aQ a] (O<|eV a.num):=by refine aL Tryz.func40 ?_;refine e J<|bH J J (B5 a.num) J<|c7 J
def M8 n d(f:d≠0):(Rat.divInt n d).num=n/(if d<0 then-((im n d:V):Y)else((im n d:V):Y))/\((Rat.divInt n d).den:Y)=d/(if d<0 then-((im n d:V):Y)else((im n d:V):Y)):=by
 have b:((im n d:V):Y)∣n:=Int.gcd_dvd_left ..;have a:((im n d:V):Y)∣d:=Tz ..;have g:im n d≠0:=by intro i;have:=(TA.1 i).2;exact f this
 rw[Rat.num_divInt,Rat.den_divInt,y f,Int.gcd_comm d n];by_cases h:d<0
 .rw[q h,Int.sign_eq_neg_one_of_neg h,B8,B8];refine⟨?_,?_⟩
  .rw[Int.neg_mul,kX,amR b]
  .rw[xN,(G:((aA d:V):Y)= -d),amR a]
 .rw[y h,Int.sign_eq_one_of_pos G,kX];refine⟨J,?_⟩;rw[xN,(G:((aA d:V):Y)=d)]
def Iw(a:E Y)(i:V):ao c 256 [S .z a,O i] (aZ<|I a i 0):=by
 refine aL Tryz.func256 ?_;refine e J<|j<|e J ?_;refine F J (λh=>?_)<|λh=>?_
 .have h:i<Z a:=by simpa using h
  refine e J<|bV<|cQ<|fg J ?_;rfl
 .have h:¬i<Z a:=by simpa using h
  refine aE<|bH J J (jn 0 D D) J<|bY J ?_;have b:I a i 0=0:=by simp[aN,jS<|BY h]
  rw[b];rfl
def abn{a}:eV a=0↔a=0:=by
 unfold eV;split
 .omega
 .split<;>omega
def M9(a:E Y):ao c 255 [S .z a] (S .z<|aM a):=by
 refine aL Tryz.func255<|vL 0 J λg=>?_;have g:Z a*2<=140737488355328:=g;refine e J<|dj<|az<|bq (α:=V) (λk=>⟨[(0,S .z<|M k a)],[],1,[]⟩) (λk=>k<=Z a/\fZ a k=fZ a (Z a)) (λk=>k) (Z a) ⟨aT _,J⟩ (wk ⟨⟨_,J,bg.of_eq<|by rw[gQ]⟩,A⟩ A) ?_;rintro k ⟨l,b⟩;have d:(M k a).length=k:=bX;refine dj<|R ?_;refine rg 6 J J (λh=>?_)<|λh=>?_
 .have h:0<k:=by have h:(((M k a).length:V):Y)>0:=eh;rw[d]at h;omega
  obtain⟨j,rfl⟩:∃j,k=j+1:=⟨k-1,G⟩;have f:af (((M (j+1) a).length:Y)-1)=j:=by rw[d];omega
  have ev:(M (j+1) a).getD j 0=I a j 0:=by rw[aN,GV G,<-aN]
  refine gO J J J J J (B5<|(M (j+1) a).getD (af<|((M (j+1) a).length:Y)-1) 0) (z J ?_) (hp:=kp);refine F J (λh2=>?_)<|λh2=>?_
  .have h2:I a j 0=0:=by have h2:eV ((M (j+1) a).getD (af<|((M (j+1) a).length:Y)-1) 0)=0:=p';rw[f,ev]at h2;exact abn.1 h2
   refine aE<|az<|rt J (fB<|a4 j ⟨G,?_⟩ sY<|wk ⟨sE J ?_,A⟩ A) (hp:=kp)
   .rw[<-b,fZ,q h2]
   .rw[f];simp only[qh,List.take_take];rw[sK G]
  .have h2:I a j 0≠0:=by have h2:¬eV ((M (j+1) a).getD (af<|((M (j+1) a).length:Y)-1) 0)=0:=p';rw[f,ev]at h2;exact λi=>h2 (abn.2 i)
   refine bt<|aK<|e J<|bY J ?_;unfold aM;rw[<-b,fZ,y h2]
 .have h:k=0:=by have h:¬(((M k a).length:V):Y)>0:=eh;rw[d]at h;omega
  subst h;refine z J<|F J (λh2=>by simp at h2)<|λ_=>?_;refine bt<|aK<|e J<|bY J ?_;unfold aM;rw[<-b];rfl
def jU(l:E Rat):V->V
 |0=>0
 |n+1=>if(I l n 0).num=0 then jU l n else n+1
def fI(l:E Rat):E Rat:=M (jU l<|Z l) l
def kq(a B:V->Y)(n:V):V->Y
 |0=>0
 |i+1=>kq a B n i+a i*B (n-i)
def conv(a B:V->Y)(n:V):Y:=kq a B n<|n+1
def TB(a B:V->Y)(n:V):∀k,(∀i,i<k->a i*B (n-i)=0)->kq a B n k=0
 |0,_=>rfl
 |k+1,h=>by simp only[kq,TB a B n k<|λi b=>h i G,h k G];rfl
def Na(a B:V->Y)(n d:V):∀k,d<k->(∀i,i<k->i≠d->a i*B (n-i)=0)->kq a B n k=a d*B (n-d)
 |0,h,_=>by omega
 |k+1,h,h2=>by
  simp only[kq];by_cases b:k=d
  .subst b;rw[TB a B n k (λi f=>h2 i G G)];omega
  .rw[Na a B n d k G (λi f=>h2 i G),h2 k G b];omega
def amS{d B:V->Y}{a b}(f:∀i,a<i->d i=0)(g:∀i,b<i->B i=0):conv d B (a+b)=d a*B b:=by
 unfold conv
 rw[Na d B (a+b) a _ G]
 .congr 2;omega
 .intro i k l;by_cases h:i<a
  .rw[g (a+b-i) G];simp
  .rw[f i G];simp
def lC(a b:E Y):E Y:=(List.range<|Z a+Z b-1).map<|conv (λi=>I a i 0)<|λi=>I b i 0
def Nb(m:V)(a:m<18446744073709551616):ao c 154 [cU m] (S al<|r m):=by
 refine aL Tryz.func154 ?_;refine e J<|R ?_;have b:aw .u32 (m:Y)=((m%4294967296:V):Y):=Nc;have d:aw .u32 ((m:Y).fdiv<|2^(min (af (32:Y))<|c8 .u64))=((m/4294967296:V):Y):=by
  have:(m:Y).fdiv (2^(min (af (32:Y))<|c8 .u64))=((m/4294967296:V):Y):=by rw[B9 _ D];rfl
  rw[this,wrap_u32 _ G G]
 refine rl al [_,_] J J ?_;refine rc J J (wb _) ?_;refine z J<|bY J ?_;rw[b,d,abd m a]
def oZ neg m:ao c 153 [cB neg,S al<|r m] (aZ<|sg neg m):=by
 refine aL Tryz.func153 ?_;have f:=wb<|r m;rw[Tp]at f;refine e J<|bH J J f J<|j<|e J ?_;refine F J (λh=>?_)<|λh=>?_
 .have h:Z (r m)=0:=by have h:(Z (r m):Y)=0:=eh;omega
  have i:m=0:=TC λa=>by have:=oX.2 a;omega
  subst i;refine e J<|bV<|cQ<|iJ cv J ?_;have b:sg neg 0=0:=by cases neg<;>rfl
  rw[b];refine⟨?_,λl a6=>wY⟩;rintro g v ⟨vs,rfl,v1,n,rfl,k,v2,o,rfl,d,rfl⟩;have d:v2= .slice none 0 0:=d;exact⟨_,J,v1,_,J,k,v2,_,J,by rw[d];exact aaF g.H,J⟩
 .have h:Z (r m)≠0:=by have h:¬(Z (r m):Y)=0:=eh;omega
  refine aE<|e J<|bY J ?_;rw[<-mkZ];have b:(neg&&decide (0<Z (r m)))=neg:=by have:0<Z (r m):=G;simp[this]
  rw[b];rfl
def Nd(a:E Y)(b:Z a<=1099511627776):ao c 155 [S al a] (S al a):=by
 refine aL Tryz.func155 ?_;refine e J<|R<|ran J J J J J J J J ?_ ?_<|z J<|da 1001000 J J J<|c7 J
 .show(_+_/4+192)*4<=_;omega
 .show _*1<=_;omega
def TD n(d: -9223372036854775808<=n)(g:n<=9223372036854775807):ao c 124 [O n] (aZ n):=by
 refine aL Tryz.func124 ?_;refine e J<|e J<|j<|e J ?_;refine F J (λh=>?_)<|λh=>?_
 .have h:n<0:=by simpa using h
  have a:aw .u64 (0-aw .u64 n)=(af (-n):V):=by simp[aw,c8,Ip];omega
  refine rt J<|aK<|R ?_;refine rc J J (f:=154) (r:=S al<|r<|af<| -n) (by rw[show(AV.c (num .u64<|0-aw .u64 n).1)=cU ((af (-n):V):Y)from bP a];exact Nb _ G) ?_;refine rc J J (oZ _ _)<|z J<|bY J ?_;have b:sg (decide<|n<0) (af<| -n)=n:=by unfold sg;simp[h];omega
  exact bh aZ b
 .have h:¬n<0:=by simpa using h
  have a:aw .u64 n=(af n:V):=by rw[wrap_u64 _ G G];omega
  refine aE<|R ?_;refine rc J J (f:=154) (r:=S al<|r<|af n) (by rw[show(AV.c (num .u64 n).1)=cU ((af n:V):Y)from bP a];exact Nb _ G) ?_;refine rc J J (oZ _ _)<|z J<|bY J ?_;have b:sg (decide<|n<0) (af n)=n:=by unfold sg;simp[h];omega
  exact bh aZ b
def abo a:ao c 152 [aZ a] (O<|eV a):=by
 refine aL Tryz.func152 ?_;refine e J<|j<|e J ?_;refine F J (λh=>?_)<|λh=>?_
 .have h:a=0:=by
   have h:(Z (er a):Y)=0:=eh;have:aA a=0:=TC λd=>by have:=oX.2 d;unfold er at h;omega
   omega
  refine e J<|bV<|cQ<|fg J ?_;rw[h];rfl
 .have h:a≠0:=by have h:¬(Z (er a):Y)=0:=eh;intro f;subst f;exact h J
  refine aE<|j<|e J ?_;refine F J (λb=>?_)<|λb=>?_
  .have b:a<0:=by simpa[cj]using b
   refine e J<|bV<|cQ<|fg J ?_;rw[eV,q b];rfl
  .have b:¬a<0:=by simpa[cj]using b
   refine aE<|e J<|bY J ?_;rw[eV,y b,y h];rfl
def TF a(b:Sm a):ao c 125 [aZ a] (aZ<| -a):=by
 refine aL Tryz.func125 ?_;refine e J<|R<|rc J J (Nd _ b)<|rc J J (oZ (!cj a)<|aA a)<|z J<|bY J ?_;have d:sg (!cj a) (aA a)= -a:=by
  unfold sg cj;by_cases h:a<0
  .simp[h];omega
  .simp[h];omega
 exact bh aZ d
def amT a b(T:bW a)(W:bW b)(la:Z a<=1099511627776)(lb:Z b<=1099511627776):ao c 160 [S al a,S al b] (S al<|r<|af<|val a+val b):=by
 refine aL Tryz.func160 ?_;refine e J<|j<|e J ?_;refine F J (λh=>?_)<|λh=>?_
 .have n:Z a<=Z b:=by have h:Z a<Z b:=eh;omega
  rw[wc (val a)];refine rt J<|aK ?_;revert T W la lb n;generalize b=X;generalize a=d;intro u w q y n;refine eR (st':=⟨[(0,S al X),(1,S al d)],[],30,[]⟩) aV<|R ?_;refine rm al (X.length+1) J J J J J J (mE .u32) J ?_ ?_ ?_
  .show _*4<=_;omega
  .show _*1<=_;omega
  refine z J<|e J<|j<|e J ?_;refine az<|bq (α:=V×E Y×Y) (λx=>⟨[(0,S al X),(1,S al d),(5,.c<|.X 30003000),(6,cU x.2.2),(21,O X.length),(22,O x.1)],[(30003000,.vec 142 al x.2.1)],33,[]⟩) (λx=>E3 X d (X.length+1) x/\x.1<=X.length) (λx=>X.length-x.1) (0,bl (X.length+1) 0,0) ?_ ?_ ?_
  .refine⟨⟨bf _,ax,rI _,?_,hY _,Ir,B2⟩,bf _⟩;intro M _;simp only[aN,lY];split<;>rfl
  .exact wk (bM J) ⟨bR J,A⟩
  .rintro⟨i,o,f⟩ ⟨g,l⟩;have l:i<=X.length:=l;have B:Z o=X.length+1:=g.len;have k:0<=f:=g.c0;have K:f<=1:=g.c1;have N:=de w i;have U:=de u i;refine e J<|j ?_;refine F J (λh=>?_) (λh=>?_)
   .have h:i<X.length:=by simpa using h
    have m:=g.next (G:i<X.length+1) w u;simp only at m;generalize ht:X.getD i 0+I d i 0+f=s at m;have C:aw .u32 s=s%4294967296:=by simp[aw,c8,Ip]
    have H:s.fdiv (2^(min (af (32:Y))<|c8 .u64))=s/4294967296:=by rw[B9 _ D];rfl
    refine aE<|j<|az<|e J<|e J<|j<|e J ?_;refine F J (λh2=>?_)<|λh2=>?_
    .have h2:i<Z d:=by simpa using h2
     refine rt J<|aK ?_;have p:aw .u64 (aw .u64 (aw .u64 (X.getD (af (i:Y)) 0)+f)+aw .u64 (I d (af (i:Y)) 0))=s:=by rw[cr,wrap_u64 (X.getD i 0) G G,wrap_u64 (I d i 0) G G,wrap_u64 (X.getD i 0+f) G G,wrap_u64 _ G G];omega
     refine eR (st':=⟨[(0,S al X),(1,S al d),(5,.c<|.X 30003000),(7,O i),(8,cU s),(21,O X.length),(22,O i)],[(30003000,.vec 142 al o)],40,[]⟩) (wk ⟨sR J,sR J,sR J,sR J,⟨_,J,bg.of_eq<|bP p⟩,sR J,sR J,A⟩ ⟨bR J,A⟩) ?_;refine e J<|rt J<|bL<|rt J<|a4 (i+1,o.set i<|s%4294967296,s/4294967296) ⟨m,Nf⟩ Ng<|wk ⟨sR J,sR J,sR J,sE J ?_,sR J,sE J J,A⟩ ⟨bE J ?_,A⟩
     .exact bP H
     .rw[C,cr]
    .have h2:¬i<Z d:=by simpa using h2
     have L:I d i 0=0:=TG;refine aE ?_;have p:aw .u64 (aw .u64 (X.getD (af (i:Y)) 0)+f)=s:=by rw[cr,wrap_u64 (X.getD i 0) G G,wrap_u64 _ G G];omega
     refine eR (st':=⟨[(0,S al X),(1,S al d),(5,.c<|.X 30003000),(7,O i),(8,cU s),(21,O X.length),(22,O i)],[(30003000,.vec 142 al o)],40,[]⟩) (wk ⟨sR J,sR J,sR J,sR J,⟨_,J,bg.of_eq<|bP p⟩,sR J,sR J,A⟩ ⟨bR J,A⟩) ?_;refine e J<|rt J<|bL<|rt J<|a4 (i+1,o.set i<|s%4294967296,s/4294967296) ⟨m,Nf⟩ Ng<|wk ⟨sR J,sR J,sR J,sE J ?_,sR J,sE J J,A⟩ ⟨bE J ?_,A⟩
     .exact bP H
     .rw[C,cr]
   .have h:¬i<X.length:=by simpa using h
    have l:i=X.length:=G;subst l;have P:aw .u32 f=f:=wrap_u32 f k G;refine bt<|aK<|e J ?_;refine eR (st':=⟨[(5,.c<|.X 30003000)],[(30003000,.vec 142 al<|o.set X.length f)],40,[]⟩) (wk ⟨sR J,A⟩ ⟨bE J ?_,A⟩) ?_
    .rw[P,cr]
    refine da 30003000 J J J<|bH J J (wb _) J<|bY J ?_;have Q:bW (o.set X.length f):=zw g.r _ ⟨k,G⟩;have t:=g.v;simp only[gQ]at t;rw[mH d X.length n]at t;rw[oV Q,Iq o X.length f G<|g.z X.length<|aT _,t]
 .have n:Z b<=Z a:=by have h:¬Z a<Z b:=eh;omega
  refine aE ?_;revert T W la lb n;generalize a=X;generalize b=d;intro w u y q n;refine eR (st':=⟨[(0,S al X),(1,S al d)],[],30,[]⟩) aV<|R ?_;refine rm al (X.length+1) J J J J J J (mE .u32) J ?_ ?_ ?_
  .show _*4<=_;omega
  .show _*1<=_;omega
  refine z J<|e J<|j<|e J ?_;refine az<|bq (α:=V×E Y×Y) (λx=>⟨[(0,S al X),(1,S al d),(5,.c<|.X 30003000),(6,cU x.2.2),(21,O X.length),(22,O x.1)],[(30003000,.vec 142 al x.2.1)],33,[]⟩) (λx=>E3 X d (X.length+1) x/\x.1<=X.length) (λx=>X.length-x.1) (0,bl (X.length+1) 0,0) ?_ ?_ ?_
  .refine⟨⟨bf _,ax,rI _,?_,hY _,Ir,B2⟩,bf _⟩;intro M _;simp only[aN,lY];split<;>rfl
  .exact wk (bM J) ⟨bR J,A⟩
  .rintro⟨i,o,f⟩ ⟨g,l⟩;have l:i<=X.length:=l;have B:Z o=X.length+1:=g.len;have k:0<=f:=g.c0;have K:f<=1:=g.c1;have N:=de w i;have U:=de u i;refine e J<|j ?_;refine F J (λh=>?_) (λh=>?_)
   .have h:i<X.length:=by simpa using h
    have m:=g.next (G:i<X.length+1) w u;simp only at m;generalize ht:X.getD i 0+I d i 0+f=s at m;have C:aw .u32 s=s%4294967296:=by simp[aw,c8,Ip]
    have H:s.fdiv (2^(min (af (32:Y))<|c8 .u64))=s/4294967296:=by rw[B9 _ D];rfl
    refine aE<|j<|az<|e J<|e J<|j<|e J ?_;refine F J (λh2=>?_)<|λh2=>?_
    .have h2:i<Z d:=by simpa using h2
     refine rt J<|aK ?_;have p:aw .u64 (aw .u64 (aw .u64 (X.getD (af (i:Y)) 0)+f)+aw .u64 (I d (af (i:Y)) 0))=s:=by rw[cr,wrap_u64 (X.getD i 0) G G,wrap_u64 (I d i 0) G G,wrap_u64 (X.getD i 0+f) G G,wrap_u64 _ G G];omega
     refine eR (st':=⟨[(0,S al X),(1,S al d),(5,.c<|.X 30003000),(7,O i),(8,cU s),(21,O X.length),(22,O i)],[(30003000,.vec 142 al o)],40,[]⟩) (wk ⟨sR J,sR J,sR J,sR J,⟨_,J,bg.of_eq<|bP p⟩,sR J,sR J,A⟩ ⟨bR J,A⟩) ?_;refine e J<|rt J<|bL<|rt J<|a4 (i+1,o.set i<|s%4294967296,s/4294967296) ⟨m,Nf⟩ Ng<|wk ⟨sR J,sR J,sR J,sE J ?_,sR J,sE J J,A⟩ ⟨bE J ?_,A⟩
     .exact bP H
     .rw[C,cr]
    .have h2:¬i<Z d:=by simpa using h2
     have L:I d i 0=0:=TG;refine aE ?_;have p:aw .u64 (aw .u64 (X.getD (af (i:Y)) 0)+f)=s:=by rw[cr,wrap_u64 (X.getD i 0) G G,wrap_u64 _ G G];omega
     refine eR (st':=⟨[(0,S al X),(1,S al d),(5,.c<|.X 30003000),(7,O i),(8,cU s),(21,O X.length),(22,O i)],[(30003000,.vec 142 al o)],40,[]⟩) (wk ⟨sR J,sR J,sR J,sR J,⟨_,J,bg.of_eq<|bP p⟩,sR J,sR J,A⟩ ⟨bR J,A⟩) ?_;refine e J<|rt J<|bL<|rt J<|a4 (i+1,o.set i<|s%4294967296,s/4294967296) ⟨m,Nf⟩ Ng<|wk ⟨sR J,sR J,sR J,sE J ?_,sR J,sE J J,A⟩ ⟨bE J ?_,A⟩
     .exact bP H
     .rw[C,cr]
   .have h:¬i<X.length:=by simpa using h
    have l:i=X.length:=G;subst l;have P:aw .u32 f=f:=wrap_u32 f k G;refine bt<|aK<|e J ?_;refine eR (st':=⟨[(5,.c<|.X 30003000)],[(30003000,.vec 142 al<|o.set X.length f)],40,[]⟩) (wk ⟨sR J,A⟩ ⟨bE J ?_,A⟩) ?_
    .rw[P,cr]
    refine da 30003000 J J J<|bH J J (wb _) J<|bY J ?_;have Q:bW (o.set X.length f):=zw g.r _ ⟨k,G⟩;have t:=g.v;simp only[gQ]at t;rw[mH d X.length n]at t;rw[oV Q,Iq o X.length f G<|g.z X.length<|aT _,t]
def abp:ByteArray:={data:=(([0,1,2,2,3,3,3,3,4,4,4,4,4,4,4,4,5,5,5,5,5,5,5,5,5,5,5,5,5,5,5,5,6,6,6,6,6,6,6,6,6,6,6,6,6,6,6,6,6,6,6,6,6,6,6,6,6,6,6,6,6,6,6,6].append [7,7,7,7,7,7,7,7,7,7,7,7,7,7,7,7,7,7,7,7,7,7,7,7,7,7,7,7,7,7,7,7,7,7,7,7,7,7,7,7,7,7,7,7,7,7,7,7,7,7,7,7,7,7,7,7,7,7,7,7,7,7,7,7]).append<|[8,8,8,8,8,8,8,8,8,8,8,8,8,8,8,8,8,8,8,8,8,8,8,8,8,8,8,8,8,8,8,8,8,8,8,8,8,8,8,8,8,8,8,8,8,8,8,8,8,8,8,8,8,8,8,8,8,8,8,8,8,8,8,8].append [8,8,8,8,8,8,8,8,8,8,8,8,8,8,8,8,8,8,8,8,8,8,8,8,8,8,8,8,8,8,8,8,8,8,8,8,8,8,8,8,8,8,8,8,8,8,8,8,8,8,8,8,8,8,8,8,8,8,8,8,8,8,8,8]).toArray}
def abq(n:V):Bool:=match HC abp (n:Y)with
 |some l=>decide (0<=l)&&decide (l<=8)&&Nat.blt n (2^af l)&&(Nat.ble (2^af l) (2*n)||Nat.beq n 0)
 |none=>ah
def amU:((List.range 256).all abq)=ae:=eL
def amV{n:V}(h:n<256):∃l:V,HC abp (n:Y)=some (l:Y)/\l<=8/\n<2^l/\(2^l<=2*n\/n=0):=by
 have a:=mn.1 amU n<|pO.2 h;unfold abq at a;split at a
 .rename_i l e;simp only[cD,yL,decide_eq_true_eq]at a;let ⟨⟨⟨h2,f⟩,d⟩,b⟩:=a;have d:=cP d;refine⟨af l,by rw[vP h2];exact e,G,d,?_⟩;rcases b with b|b
  .exact .inl<|cP b
  .exact .inr<|kO b
 .cases a
def Nh{a}{t:TypeId}{x i}{f}{k}{d b}{g}(h:a.ev x=some (.c<|.V<|.string f))(l:a.ev i=some (.c<|.I k d))(m:U t dP=some g)(n:g.kind= .str)(o:HC f d=some b):vQ dP a (.index t x i)=some (.c<|.I .u8 b,.le 0 d):=by simp[vQ,h,l,m,n,o]
def amW a b(B:bW a)(H:bW b)(la:Z a<=1099511627776)(lb:Z b<=1099511627776):ao c 191 [S al a,S al b] (S al<|r<|af<|val a*val b):=by
 refine aL Tryz.func191 ?_;refine e J<|R ?_;refine rm al (Z a+Z b) J J J J J J (mE .u32) J ?_ ?_ ?_
 .show _*4<=_;omega
 .show _*1<=_;omega
 refine z J<|j<|e J ?_;refine az<|bq (α:=V×E Y) (λx=>⟨[(0,S al a),(1,S al b),(5,.c<|.X 1005000),(18,O<|Z a),(19,O x.1)],[(1005000,.vec 142 al x.2)],3,[]⟩) (Ts a b) (λx=>Z a-x.1) (0,bl (Z a+Z b) 0) ?_ ?_ ?_
 .refine⟨bf _,ax,rI _,?_,B2⟩;intro N _;simp only[aN,lY];split<;>rfl
 .exact wk (bM J) ⟨bR J,A⟩
 .rintro⟨i,o⟩ l;have g:Z o=Z a+Z b:=l.len;refine e J<|j ?_;refine F J (λh=>?_) (λh=>?_)
  .have h:i<Z a:=by simpa using h
   have L:=de B i;refine aE<|j<|az<|e J<|e J<|e J<|j<|e J ?_;have P:aw .u64 (I a (af (i:Y)) 0)=I a i 0:=by rw[cr,wrap_u64 _ G G]
   refine az<|bq (α:=V×E Y×Y) (λx=>⟨[(0,S al a),(1,S al b),(5,.c<|.X 1005000),(6,O i),(7,cU x.2.2),(8,cU<|I a i 0),(18,O<|Z a),(19,O i),(28,O<|Z b),(29,O x.1)],[(1005000,.vec 142 al x.2.1)],8,[]⟩) (B4 a b i) (λx=>Z b-x.1) (0,o,0) ?_ ?_ ?_
   .refine⟨bf _,g,l.r,l.z,hY _,(by show(0:Y)<_;decide),?_⟩;have:=l.v;simp only at this;simp[this,val]
   .exact wk ⟨sR J,sR J,sR J,sR J,sR J,⟨_,J,bg.of_eq<|bP P⟩,sR J,sR J,sR J,sR J,A⟩ ⟨bR J,A⟩
   .rintro⟨k,o,d⟩ m;have g:Z o=Z a+Z b:=m.len;have p:0<=d:=m.c0;have t:d<4294967296:=m.c1;refine e J<|j ?_;refine F J (λn=>?_) (λn=>?_)
    .have n:k<Z b:=by simpa using n
     have Q:=de H k;have T:=de m.r<|i+k;simp only at T;have U:=It L.1 G Q.1 G;refine aE<|j<|az<|e J<|e J ?_ (hp:=kp);have f:af ((i:Y)+(k:Y))=i+k:=G;have C:aw .u64 (aw .u64 (aw .u64 (I a i 0*aw .u64 (I b (af (k:Y)) 0))+aw .u64 (I o (af<|(i:Y)+(k:Y)) 0))+d)=I a i 0*I b k 0+I o (i+k) 0+d:=by rw[f,cr,wrap_u64 (I b k 0) G G,wrap_u64 (I o (i+k) 0) G G,wrap_u64 (I a i 0*I b k 0) G G,wrap_u64 (I a i 0*I b k 0+I o (i+k) 0) G G,wrap_u64 _ G G]
     have u:=m.next h n B H;simp only at u;generalize ht:I a i 0*I b k 0+I o (i+k) 0+d=s at u C;have w:aw .u32 s=s%4294967296:=by simp[aw,c8,Ip]
     have W:s.fdiv (2^(min (af (32:Y))<|c8 .u64))=s/4294967296:=by rw[B9 _ D];rfl
     refine eR (st':=⟨[(0,S al a),(1,S al b),(5,.c<|.X 1005000),(6,O i),(8,cU<|I a i 0),(9,O k),(10,cU s),(18,O<|Z a),(19,O i),(28,O<|Z b),(29,O k)],[(1005000,.vec 142 al o)],12,[]⟩) (wk ⟨sR J,sR J,sR J,sR J,sR J,sR J,sE J ?_,sR J,sR J,sR J,sR J,A⟩ ⟨bR J,A⟩) ?_
     .exact bP C
     refine e J<|rt J<|bL<|rt J<|a4 (k+1,o.set (i+k)<|s%4294967296,s/4294967296) u (G:Z b-(k+1)<Z b-k)<|wk ⟨sR J,sR J,sR J,sR J,sE J ?_,sR J,sR J,sR J,sR J,sE J ?_,A⟩ ⟨bE J ?_,A⟩
     .exact bP W
     .rfl
     .rw[w,f]
    .have n:¬k<Z b:=by simpa using n
     have q:k=Z b:=by have:=m.k;simp only at this;omega
     subst q;have y:=m.done h;have f:af ((i:Y)+(Z b:Y))=i+Z b:=G;have w:aw .u32 d=d:=wrap_u32 d p t;refine bt<|aK<|rt J<|bL<|rt J<|a4 (i+1,o.set (i+Z b) d) y qy<|wk ⟨sR J,sR J,sR J,sR J,sE J ?_,A⟩ ⟨bE J ?_,A⟩
     .rfl
     .rw[w,f]
  .have h:¬i<Z a:=by simpa using h
   have M:i=Z a:=by have:=l.i;simp only at this;omega
   subst M;refine bt<|aK<|da 1005000 J J J<|R ?_;refine rc J J (wb _)<|z J<|bY J ?_;have K:=l.v;simp only[gQ]at K;rw[oV l.r];simp only[K]
def abr m k(a:Z (r m)<=1099511627776)(b:Z (r k)<=1099511627776):ao c 160 [S al (r m),S al<|r k] (S al<|r<|m+k):=by have:=amT (r m) (r k) (dW m) (dW k) a b;rw[eJ,eJ,(G:af ((m:Y)+(k:Y))=m+k)]at this;exact this
def amX m k(a:Z (r m)<=1099511627776)(b:Z (r k)<=1099511627776):ao c 191 [S al (r m),S al<|r k] (S al<|r<|m*k):=by have:=amW (r m) (r k) (dW m) (dW k) a b;rw[eJ,eJ,show af ((m:Y)*(k:Y))=m*k by rw[<-fC];rfl]at this;exact this
def amY a b(i:Sm a)(k:Sm b):ao c 159 [aZ a,aZ b] (aZ<|a*b):=by
 refine aL Tryz.func159 ?_;refine e J<|R ?_;refine rc J J (amX _ _ i k)<|rc J J (oZ _ _)<|z J<|bY J ?_;have l:sg (cj a !=cj b) (aA a*aA b)=a*b:=by have d:=zz a;have f:=zz b;generalize aA a=x at d⊢;generalize aA b=y at f⊢;cases g:cj a<;>cases h:cj b<;>rw[g]at d<;>rw[h]at f<;>simp only[sg,cd,bQ,iF]at d f<;>rw[<-d,<-f]<;>simp[sg]<;>grind
 exact bh aZ l
def lZ(a:E Y):V->V
 |0=>0
 |i+1=>lZ a i+aA (I a i 0)
def gR(a:E Y):V:=lZ a (Z a)*2^(Z a-1)
structure Kn1(M a b d v t u2 f u:Y):Prop where
 hM:0<M
 oB:2147483648<=a
 amZ:a<4294967296
 xH:0<=b
 abt:b<4294967296
 tZ:0<=d
 abu:d<M
 ht:0<=t
 iZ:0<=u2
 am0:u2<4294967296
 D7:0<=f
 am1:f<M
 ev:v=(a*4294967296+b)*M+d
 eu:u=(t*4294967296+u2)*M+f
 lt:u<v*4294967296
namespace Kn1
variable{M v1 v2 v' v t u2 u' u:Y}(h:Kn1 M v1 v2 v' v t u2 u' u)
include h
def E8:0<v:=by have a:=h.ev;have:0<(v1*4294967296+v2)*M:=Ca (by have:=h.oB;have:=h.xH;omega) h.hM;have:=h.tZ;omega
def vge:4294967296*M<=v:=by have a:=h.ev;have b:4294967296*M<=(v1*4294967296+v2)*M:=hZ (by have:=h.oB;have:=h.xH;omega) we;have:=h.tZ;omega
def vlt:v<(v1+1)*4294967296*M:=by have a:=h.ev;have b:(v1*4294967296+v2+1)*M<=(v1+1)*4294967296*M:=hZ (by have:=h.abt;omega) we;have d:(v1*4294967296+v2+1)*M=(v1*4294967296+v2)*M+M:=Ix;have:=h.abu;omega
def abv:t*4294967296*M<=u:=by have a:=h.eu;have b:t*4294967296*M<=(t*4294967296+u2)*M:=hZ (by have:=h.iZ;omega) we;have:=h.D7;omega
def abw:u<(t*4294967296+u2+1)*M:=by have a:=h.eu;have b:(t*4294967296+u2+1)*M=(t*4294967296+u2)*M+M:=Ix;have:=h.am1;omega
def tlt:t<(v1+1)*4294967296:=by
 have f:=h.abv;have g:=h.lt;have i:=h.vlt;have a:t*(4294967296*M)<(v1+1)*4294967296*(4294967296*M):=by
  have b:t*(4294967296*M)=t*4294967296*M:=by rw[jo]
  have d:(v1+1)*4294967296*(4294967296*M)=(v1+1)*4294967296*M*4294967296:=by rw[jo _ M,eW M]
  rw[b,d];omega
 exact am4 a we
def E9:u/v<4294967296:=E5 h.E8 (by rw[eW];exact h.lt)
def q0:0<=u/v:=by refine zB ?_ (by have:=h.E8;omega);have:=h.abv;have:0<=t*4294967296*M:=jB (by have:=h.ht;omega) we;omega
def am5:u/v*v<=u:=Int.ediv_mul_le u (by have:=h.E8;omega)
def first:u/v<=t/v1:=by
 apply am6 (by have:=h.oB;omega);have a:=h.am5;have i:u/v*(v1*4294967296*M)<=u/v*v:=kU (by have a:=h.ev;have b:v1*4294967296*M<=(v1*4294967296+v2)*M:=hZ (by have:=h.xH;omega) we;have:=h.tZ;omega) h.q0;have b:=h.abw;have k:(t*4294967296+u2+1)*M<=(t+1)*4294967296*M:=hZ (by have:=h.am0;omega) we;have d:u/v*v1*(4294967296*M)<(t+1)*(4294967296*M):=by
  have f:u/v*v1*(4294967296*M)=u/v*(v1*4294967296*M):=by simp only[jo]
  have g:(t+1)*(4294967296*M)=(t+1)*4294967296*M:=by simp only[jo]
  rw[f,g];omega
 have:=am4 d we;omega
def down{a b:Y}(f:t=a*v1+b)(d:0<=a)(g:a*v2>b*4294967296+u2):u/v<a:=by
 apply E5 h.E8;have i:=h.abw;have k:(t*4294967296+u2+1)*M<=a*(v1*4294967296+v2)*M:=hZ (by
  have e:a*(v1*4294967296+v2)=a*v1*4294967296+a*v2:=by rw[oA,jo]
  rw[e];generalize a*v1=x at*;generalize a*v2=y at*;omega) we
 have l:a*v=a*(v1*4294967296+v2)*M+a*v':=by rw[h.ev,oA,jo a]
 have m:0<=a*v':=jB d h.tZ;omega
def close{a b:Y}(d:t=a*v1+b)(f:0<=a)(g:a<4294967296)(i:a*v2<=b*4294967296+u2):a-1<=u/v:=by
 apply am6 h.E8;have k:a*(v1*4294967296+v2)*M<=(t*4294967296+u2)*M:=hZ (by
  have e:a*(v1*4294967296+v2)=a*v1*4294967296+a*v2:=by rw[oA,jo]
  rw[e];generalize a*v1=x at*;generalize a*v2=y at*;omega) we
 have l:a*v=a*(v1*4294967296+v2)*M+a*v':=by rw[h.ev,oA,jo a]
 have m:a*v'<=4294967296*M:=xO G (by have:=h.abu;omega) h.tZ D;have n:=h.vge;have o:=h.eu;have p:=h.D7;have s:(a-1)*v=a*v-v:=by rw[Iy,kX]
 omega
def am7{a b:Y}(f:t=a*v1+b)(g:4294967296<=b):a<4294967296:=by
 have d:=h.tlt;have i:=h.oB;by_cases hq:a<4294967296
 .exact hq
 .exfalso;have:4294967296*v1<=a*v1:=hZ G G;have e:(v1+1)*4294967296=v1*4294967296+4294967296:=Ix;rw[e]at d;omega
def small{a b:Y}(g:t=a*v1+b)(i:0<=b):a<=4294967297:=by
 have d:=h.tlt;have k:=h.oB;have f:=h.amZ;by_cases hq:a<=4294967297
 .exact hq
 .exfalso;have:4294967298*v1<=a*v1:=hZ G G;have e:(v1+1)*4294967296=v1*4294967296+4294967296:=Ix;rw[e]at d;omega
end Kn1
def rM:V->Y->Y->Y->Y->Y->Y
 |0,a,_,_,_,_=>a
 |f+1,a,b,v1,v2,u2=>if a>=4294967296\/a*v2>b*4294967296+u2 then(if b+v1>=4294967296 then a-1 else rM f (a-1) (b+v1) v1 v2 u2)else a
def Ni{s d i w v t l x u:Y}(h:Kn1 s d i w v t l x u):∀(f:V)(a b:Y),t=a*d+b->0<=b->b<4294967296->4294967296<=b+f*2147483648->u/v<=a->u/v<=rM f a b d i l/\rM f a b d i l<=u/v+1/\rM f a b d i l<4294967296
 |0,a,b,_,_,h2,B,_=>by omega
 |f+1,a,b,ht,L,h2,B,hq=>by
  have q0:=h.q0;have E9:=h.E9;have C:=h.oB;rw[rM];split
  .rename_i g;have H:u/v<a:=by
    rcases g with g|g
    .omega
    .exact h.down ht G g
   have k:t=(a-1)*d+(b+d):=by rw[Iy,kX];omega
   split
   .rename_i o;have p:=h.am7 k o;have g:a-1-1<=u/v:=h.close k G p (by have K:(a-1)*i<=4294967296*4294967296:=xO G (by have:=h.abt;omega) h.xH D;have:=h.iZ;omega);exact⟨G,G,p⟩
   .rename_i o;exact Ni h f (a-1) (b+d) k G G G G
  .rename_i g;have m:a<4294967296:=by
    by_cases e:a<4294967296
    .exact e
    .exact absurd (.inl G) g
   have n:a*i<=b*4294967296+l:=by
    by_cases e:a*i<=b*4294967296+l
    .exact e
    .exact absurd (.inr G) g
   have:=h.close ht G m n;exact⟨hq,G,m⟩
def Fa{a b:Y}(d:0<=a):a.tdiv b=a/b:=uG d
def Iz{a b:Y}(d:0<=a):a.tmod b=a%b:=lX d
def am8 a v b n(H:bW a)(hv:bW v)(hn:Z v=n+2)(hj:b+n+3<=Z a)(hl:Z a<=1099511627777){v' u' u}
  (K:Kn1 (4294967296^n) (I v (n+1) 0) (I v n 0) v' (val v) (I a (b+(n+2)) 0*4294967296+I a (b+(n+1)) 0) (I a (b+n) 0) u' u):
  uy c 218 [.c (.W 0 b<|n+3),S al v] 142 al a (cU<|rM 2 ((I a (b+(n+2)) 0*4294967296+I a (b+(n+1)) 0)/I v (n+1) 0) ((I a (b+(n+2)) 0*4294967296+I a (b+(n+1)) 0)%I v (n+1) 0) (I v (n+1) 0) (I v n 0)<|I a (b+n) 0) a:=by
 refine Ie Tryz.func218 J J J J J D ?_
 have g1:=de H<|b+(n+2)
 have g2:=de H<|b+(n+1)
 have g3:=de H<|b+n
 have k1:=de hv<|n+1
 have k2:=de hv n
 have oB:=K.oB
 have a1:af ((Z v:Y))=n+2:=G
 have a2:af ((Z v:Y)-1)=n+1:=G
 have a3:af ((Z v:Y)-2)=n:=G
 generalize hQ:rM 2 ((I a (b+(n+2)) 0*4294967296+I a (b+(n+1)) 0)/I v (n+1) 0) ((I a (b+(n+2)) 0*4294967296+I a (b+(n+1)) 0)%I v (n+1) 0) (I v (n+1) 0) (I v n 0) (I a (b+n) 0)=Q0
 refine e J<|e J<|e J (hp:=kp) ?_
 rw[a1,a2]
 have e6:aw .u64 (aw .u64 (aw .u64 (I a (b+(n+2)) 0)*4294967296)+aw .u64 (I a (b+(n+1)) 0))=I a (b+(n+2)) 0*4294967296+I a (b+(n+1)) 0:=by rw[wrap_u64 (I a (b+(n+2)) 0) G G,wrap_u64 (I a (b+(n+1)) 0) G G,wrap_u64 (_*_) G G,wrap_u64 _ G G]
 have L:aw .u64 (I v (n+1) 0)=I v (n+1) 0:=wrap_u64 _ G G
 have P:aw .u64 (I v n 0)=I v n 0:=wrap_u64 _ G G
 have Q:aw .u64 (I a (b+n) 0)=I a (b+n) 0:=wrap_u64 _ G G
 have k:0<=I a (b+(n+2)) 0*4294967296+I a (b+(n+1)) 0:=G
 have ht1:I a (b+(n+2)) 0*4294967296+I a (b+(n+1)) 0<18446744073709551616:=G
 have T:=@Kn1.small _ _ _ _ _ _ _ _ _ K
 have df:=@Ni _ _ _ _ _ _ _ _ _ K
 have X:=K.first
 generalize I a (b+(n+2)) 0*4294967296+I a (b+(n+1)) 0=t at*
 generalize m:I v (n+1) 0=v1 at*
 generalize o:I v n 0=v2 at*
 generalize p:I a (b+n) 0=u2 at*
 have s:aw .u64 (I v (af<|(Z v:Y)-1) 0)=v1:=by rw[a2,m];exact L
 have x2:aw .u64 (I v (af<|(Z v:Y)-2) 0)=v2:=by rw[a3,o];exact P
 have x3:aw .u64 (I a (b+af ((Z v:Y)-2)) 0)=u2:=by rw[a3,p];exact Q
 have E:0<=t/v1:=zB k G
 have M:0<=t%v1:=iP _ G
 have v7:t%v1<v1:=iR _ G
 have b7:=nW t v1
 refine eR (st':=⟨[(0,.c<|.W 0 b<|n+3),(1,S al v),(5,O<|Z v),(6,cU t)],[(0,.vec 142 al a)],4,[]⟩) (wk ⟨sR J,sR J,sR J,⟨_,J,bg.of_eq<|bP e6⟩,A⟩ ⟨bR J,A⟩) ?_
 have hp1:((-9223372036854775808<=(Z v:Y)-1/\(Z v:Y)-1<=9223372036854775807)/\0<=(Z v:Y)-1/\(Z v:Y)-1<(Z v:Y))/\aw .u64 (I v (af<|(Z v:Y)-1) 0)≠0:=by rw[s];omega
 refine e J (hp:=aby)<|e J (hp:=aby) ?_
 refine j<|az<|bq (α:=V×Y×Y) (λx=>⟨[(0,.c<|.W 0 b<|n+3),(1,S al v),(5,O<|Z v),(6,cU t),(7,cU x.2.1),(8,cU x.2.2)],[(0,.vec 142 al a)],6,[]⟩) (λx=>rM x.1 x.2.1 x.2.2 v1 v2 u2=Q0/\t=x.2.1*v1+x.2.2/\0<=x.2.2/\x.2.2<4294967296/\4294967296<=x.2.2+x.1*2147483648/\u/val v<=x.2.1) (λx=>x.1) (2,t/v1,t%v1) ⟨hQ,by show t=t/v1*v1+t%v1;rw[eW];omega,M,(G:t%v1<4294967296),TH,X⟩ (wk ⟨sR J,sR J,sR J,sR J,sE J ?_,sE J ?_,A⟩ ⟨bR J,A⟩) ?_
 .refine bP ?_;show aw .u64 (t.tdiv<|aw .u64<|I v (af<|(Z v:Y)-1) 0)=t/v1;have:=Int.ediv_le_self v1 k;rw[s,Fa k,wrap_u64 _ E G]
 .refine bP ?_;show(t.tmod<|aw .u64<|I v (af<|(Z v:Y)-1) 0)=t%v1;rw[s,Iz k]
 .rintro⟨f,q,r⟩ ⟨i,h2,h3,h4,h5,h6⟩;simp only at i h2 h3 h4 h5 h6;have IA:=K.q0;have hqs:=T h2 h3;cases f with
  |zero=>omega
  |succ f=>
  rw[rM]at i;have w:0<=q*v2/\q*v2<18446744073709551616:=by refine⟨jB G G,?_⟩;have:q*v2<=4294967297*4294967295:=xO G G G D;omega
  refine j<|R<|rg 42 J J (λh=>?_)<|λh=>?_
  .have B:q>=4294967296:=by simpa using h
   have g:q>=4294967296\/q*v2>r*4294967296+u2:= .inl B;refine z J (F J (λ_=>?_)<|λd=>by cases d);have N:u/val v<q:=by
    rcases g with g|g
    .have:=K.E9;omega
    .exact K.down h2 G g
   have C:aw .u64 (q-1)=q-1:=wrap_u64 _ G G;have w2:aw .u64 (r+aw .u64 (I v (af<|(Z v:Y)-1) 0))=r+v1:=by rw[s,wrap_u64 _ G G]
   refine aE<|az<|e J<|e J (hp:=kp)<|e J<|F J (λd=>?_)<|λd=>?_
   .have d:r+v1>=4294967296:=by
     have d:4294967296<=aw .u64 (r+aw .u64 (I v (af<|(Z v:Y)-1) 0)):=by simpa using d
     omega
    rw[gf g,gf d]at i;refine nL<|K2<|ov<|nM<|aK<|e J<|bV<|zo cv J (bg.of_eq ?_) J;refine bP ?_;rw[<-i];exact C
   .have d:¬r+v1>=4294967296:=by
     have d:aw .u64 (r+aw .u64 (I v (af<|(Z v:Y)-1) 0))<4294967296:=by simpa using d
     omega
    rw[gf g,y d]at i;refine dc<|fB<|a4 (f,q-1,r+v1) ⟨i,Nj,Nk,Nl,Nm,Nn⟩ (dJ f)<|wk ⟨sR J,sR J,sR J,sR J,⟨_,J,bg.of_eq<|bP C⟩,⟨_,J,bg.of_eq<|bP w2⟩,A⟩ ⟨bR J,A⟩
  .have B:¬q>=4294967296:=by have:q<4294967296:=eh;omega
   have w3:aw .u64 (q*aw .u64 (I v (af<|(Z v:Y)-2) 0))=q*v2:=by rw[x2,wrap_u64 _ w.1 w.2]
   have w4:aw .u64 (aw .u64 (r*4294967296)+aw .u64 (I a (b+af ((Z v:Y)-2)) 0))=r*4294967296+u2:=by rw[x3,wrap_u64 (r*4294967296) G G,wrap_u64 _ G G]
   refine z J (hp:=kp)<|F J (λl=>?_)<|λl=>?_
   .have g:q>=4294967296\/q*v2>r*4294967296+u2:= .inr (by
     have l:aw .u64 (q*aw .u64 (I v (af<|(Z v:Y)-2) 0))>aw .u64 (aw .u64 (r*4294967296)+aw .u64 (I a (b+af ((Z v:Y)-2)) 0)):=by simpa using l
     rw[w3,w4]at l;exact l)
    have N:u/val v<q:=by
     rcases g with g|g
     .have:=K.E9;omega
     .exact K.down h2 G g
    have C:aw .u64 (q-1)=q-1:=wrap_u64 _ G G;have w2:aw .u64 (r+aw .u64 (I v (af<|(Z v:Y)-1) 0))=r+v1:=by rw[s,wrap_u64 _ G G]
    refine aE<|az<|e J<|e J (hp:=kp)<|e J<|F J (λd=>?_)<|λd=>?_
    .have d:r+v1>=4294967296:=by
      have d:4294967296<=aw .u64 (r+aw .u64 (I v (af<|(Z v:Y)-1) 0)):=by simpa using d
      omega
     rw[gf g,gf d]at i;refine nL<|K2<|ov<|nM<|aK<|e J<|bV<|zo cv J (bg.of_eq ?_) J;refine bP ?_;rw[<-i];exact C
    .have d:¬r+v1>=4294967296:=by
      have d:aw .u64 (r+aw .u64 (I v (af<|(Z v:Y)-1) 0))<4294967296:=by simpa using d
      omega
     rw[gf g,y d]at i;refine dc<|fB<|a4 (f,q-1,r+v1) ⟨i,Nj,Nk,Nl,Nm,Nn⟩ (dJ f)<|wk ⟨sR J,sR J,sR J,sR J,⟨_,J,bg.of_eq<|bP C⟩,⟨_,J,bg.of_eq<|bP w2⟩,A⟩ ⟨bR J,A⟩
   .have g:¬(q>=4294967296\/q*v2>r*4294967296+u2):=by
     have l:¬aw .u64 (q*aw .u64 (I v (af<|(Z v:Y)-2) 0))>aw .u64 (aw .u64 (r*4294967296)+aw .u64 (I a (b+af ((Z v:Y)-2)) 0)):=by simpa using l
     rw[w3,w4]at l;omega
    rw[y g]at i;subst i;exact bt<|aK<|e J<|bV<|zo cv J (bg.refl _) J
def bT:V->Y->E Y
 |0,_=>[]
 |n+1,x=>x%4294967296::bT n (x/4294967296)
def s0:∀(n:V)(x:Y),Z (bT n x)=n
 |0,_=>rfl
 |n+1,x=>by rw[bT,iI,s0 n]
def IB:∀(n:V)(x:Y),bW (bT n x)
 |0,_=>Tl
 |n+1,x=>zu.2 ⟨⟨iP _ D,iR _ D⟩,IB n _⟩
def o0 n:(4294967296:Y)^(n+1)=4294967296^n*4294967296:=fH _ _
def No(x:Y) n:x/4294967296^(n+1)=x/4294967296^n/4294967296:=by rw[o0,anb<|by have:=jJ n;omega]
def abz(x:Y) n:x/4294967296^(n+1)=x/4294967296/4294967296^n:=by rw[o0,eW,anb D]
def TL(x:Y) n:x%4294967296^(n+1)=x%4294967296+4294967296*(x/4294967296%4294967296^n):=by
 have f:=nW x<|4294967296^(n+1);have g:=nW x 4294967296;have h:=nW (x/4294967296)<|4294967296^n;rw[abz,o0]at f;rw[o0];generalize x/4294967296/4294967296^n=a at*;generalize x/4294967296%4294967296^n=b at*;generalize x/4294967296=c at*;have e:4294967296^n*4294967296*a=4294967296*(4294967296^n*a):=by rw[eW (4294967296^n) 4294967296,jo]
 rw[e]at f;generalize (4294967296:Y)^n*a=d at*;omega
def IC:∀(n:V)(x:Y),val (bT n x)=x%4294967296^n
 |0,x=>by rw[o8,Int.emod_one];rfl
 |n+1,x=>by rw[bT,val,IC n,TL]
def Fb:∀(n:V)(x:Y),bT (n+1) x=bT n x++[x/4294967296^n%4294967296]
 |0,x=>by rw[o8,uI];rfl
 |n+1,x=>by rw[bT,Fb n,bT,abz];rfl
def Np:∀(n:V)(x a:Y),x%4294967296^n=a%4294967296^n->bT n x=bT n a
 |0,_,_,_=>rfl
 |n+1,x,a,h=>by rw[TL,TL]at h;rw[bT,bT,Np n (x/4294967296) (a/4294967296) G,(G:x%4294967296=a%4294967296)]
def TM n x a:bT n (x+a*4294967296^n)=bT n x:=Np n _ _<|Tw _ _ _
def abA:∀{a:E Y},bW a->bT (Z a) (val a)=a
 |[],_=>rfl
 |w::a,h=>by let ⟨b,h2⟩:=zu.1 h;rw[iI,bT,val];rw[(G:(w+4294967296*val a)%4294967296=w),(G:(w+4294967296*val a)/4294967296=val a),abA h2]
def cZ(a:E Y)(b:V)(d:E Y):E Y:=M b a++(d++ay (b+Z d) a)
def Nq a b:cZ a b []=a:=by simp[cZ]
def xP{U}{j}{ws}(h:j+Z ws<=Z U):Z (cZ U j ws)=Z U:=by simp[cZ];omega
def Nr{U}{j}{ws}(h:j+Z ws<=Z U):I (cZ U j ws) (j+Z ws) 0=I U (j+Z ws) 0:=by unfold cZ;have a:(M j U).length=j:=bX;rw[aN,DB G,a,DB G,tJ,aN];congr 2;omega
def Ns{U}{j}{ws}w(h:j+Z ws<Z U):(cZ U j ws).set (j+Z ws) w=cZ U j (ws++[w]):=by unfold cZ;have a:(M j U).length=j:=bX;rw[Nt _ _ G,a,Nt _ _ G,(G:j+Z ws-j-Z ws=0)];rw[rJ h,TN,lP,iX];rfl
def TO{a}{d}{b}(h:bW a)(f:bW b):bW (cZ a d b):=Tm (jm h _)<|Tm f<|zv h _
def TP{b}{a}{d}(h:a+Z d<=Z b):ay a (cZ b a d)=d++ay (a+Z d) b:=by unfold cZ;have f:(M a b).length=a:=bX;rw[AX G,tK G,tI]
def abB{b}{a}{d}(h:a+Z d<=Z b):M a (cZ b a d)=M a b:=by unfold cZ;have f:(M a b).length=a:=bX;rw[xa G,iY G]
def TQ(a:E Y) b i:(ay b a).getD i 0=I a (b+i) 0:=by rw[aN,tJ,aN]
def abC a v d i f{h c b}(m:h=val ((ay d a).take i)-f*val (M i v))(n:h/4294967296^i= -(c+b)):
  (let p:=f*List.getD v i 0+c
   let t:=4294967296+List.getD a (d+i) 0-p%4294967296-b
   let g:=val ((ay d a).take<|i+1)-f*val (List.take (i+1) v)
   bT (i+1) g=bT i h++[t%4294967296]/\g/4294967296^(i+1)= -(p/4294967296+(1-t/4294967296))):=by
 intro p t g
 have k:g=h+(I a (d+i) 0-f*I v i 0)*4294967296^i:=by show val ((ay d a).take<|i+1)-f*val (M (i+1) v)=_;rw[ko,ko,TQ,m,oA,Iy,jo];omega
 have l:g/4294967296^i= -(c+b)+(I a (d+i) 0-f*I v i 0):=by rw[k,B6 _ _ (by have:=jJ i;omega),n]
 have o:p=f*I v i 0+c:=rfl
 have s:t=4294967296+I a (d+i) 0-p%4294967296-b:=rfl
 clear_value p t
 refine⟨?_,?_⟩
 .rw[Fb,k,TM,<-k,l];congr 2;omega
 .rw[No,l];omega
def abD a v b i{f c}(k:f=val ((ay b a).take i)+val (M i v))(l:f/4294967296^i=c):
  (let t:=List.getD a (b+i) 0+List.getD v i 0+c
   let d:=val ((ay b a).take<|i+1)+val (List.take (i+1) v)
   bT (i+1) d=bT i f++[t%4294967296]/\d/4294967296^(i+1)=t/4294967296):=by
 intro t d
 have g:d=f+(I a (b+i) 0+I v i 0)*4294967296^i:=by show val ((ay b a).take<|i+1)+val (M (i+1) v)=_;rw[ko,ko,TQ,k,nU];omega
 have h:d/4294967296^i=c+(I a (b+i) 0+I v i 0):=by rw[g,B6 _ _ (by have:=jJ i;omega),l]
 have m:t=I a (b+i) 0+I v i 0+c:=rfl
 clear_value t
 refine⟨?_,?_⟩
 .rw[Fb,g,TM,<-g,h];congr 2;omega
 .rw[No,h];omega
def abE{v}(d:bW v){a}(b:0<=a)(k:a<4294967296) i:0<=a*val (M i v)/4294967296^i/\a*val (M i v)/4294967296^i<4294967296:=by have f:=lW<|jm d i;have l:=nf<|jm d i;have o:=uF (m:=(M i v).length) (n:=i) bX;have g:=jJ i;have h:0<=a*val (M i v):=jB b f;refine⟨zB h G,E5 g ?_⟩;have p:a*val (M i v)<=4294967296*val (M i v):=hZ G f;have s:4294967296*val (M i v)<4294967296*4294967296^i:=Int.mul_lt_mul_of_pos_left G D;omega
def abF{v}{q a}i(b:a=q*val (M i v)/4294967296^i):q*val (M (i+1) v)/4294967296^(i+1)=(q*I v i 0+a)/4294967296:=by rw[No,ko,oA,<-jo,B6 _ _ (by have:=jJ i;omega),b,wc]
def anc{v}(d:bW v){a}(b:0<=a)(h:a<4294967296){L}(i:Z v<L):a*val (M L v)/4294967296^L=0:=by
 rw[mH v L G];have f:=lW d;have k:=nf d;have l:=uF (m:=Z v) (n:=L-1) G;have g:(4294967296:Y)^L=4294967296^(L-1)*4294967296:=by rw[<-o0];congr 1;omega
 have o:a*val v<=4294967296*val v:=hZ G f;exact E6 (jB b f) (by rw[g];omega)
def ane d v a L f(hU:bW d)(H:bW v)(hj:a+L<=Z d)(hL:Z v<L)(g:0<=f)(Q:f<4294967296)(hl:Z d<=1099511627777):
  uy c 219 [.c (.W 0 a L),S al v,cU f] 142 al d (cB<|decide<|val ((ay a d).take L)-f*val v<0) (cZ d a<|bT L<|val ((ay a d).take L)-f*val v):=by
 refine Ie Tryz.func219 J J J J J D ?_
 refine e J<|e J<|e J<|j<|e J ?_
 refine az<|bq (α:=V×Y×Y) (λx=>⟨[(0,.c<|.W 0 a L),(1,S al v),(2,cU f),(7,cU x.2.1),(8,cU x.2.2),(9,O x.1)],[(0,.vec 142 al<|cZ d a<|bT x.1<|val ((ay a d).take x.1)-f*val (M x.1 v))],5,[]⟩) (λx=>x.1<=L/\(val ((ay a d).take x.1)-f*val (M x.1 v))/4294967296^x.1= -(x.2.1+x.2.2)/\x.2.1=f*val (M x.1 v)/4294967296^x.1/\(x.2.2=0\/x.2.2=1)) (λx=>L-x.1) (0,0,0) ⟨bf _,xL,xL,.inl J⟩ (wk (bM J) ⟨bE J ?_,A⟩) ?_
 .exact bh (aD.vec 142 al) (Nq d a).symm
 rintro⟨i,K,b⟩ ⟨y,h2,k,l⟩
 simp only at y h2 k l
 have z:=abE H g Q i
 rw[<-k]at z
 refine j<|e J ?_
 refine F J (λh=>?_)<|λh=>?_
 .have h:i<L:=by simpa using h
  have E:=de H i;have gu:=de hU<|a+i;have hm:0<=f*I v i 0/\f*I v i 0<=18446744065119617025:=It g G E.1 G;have m:=abC d v a i f (c:=K) (b:=b) J h2;have P:=abF (v:=v) (q:=f) i k;simp only at m;let ⟨s1,s2⟩:=m;have n:Z (bT i<|val ((ay a d).take i)-f*val (M i v))=i:=s0 _ _;have N:=xP (U:=d) (j:=a) (ws:=bT i<|val ((ay a d).take i)-f*val (M i v)) G;have o:=Nr (U:=d) (j:=a) (ws:=bT i<|val ((ay a d).take i)-f*val (M i v)) G;have s:=λw=>Ns (U:=d) (j:=a) (ws:=bT i<|val ((ay a d).take i)-f*val (M i v)) w G
  rw[n]at o s;refine aE<|j<|az<|bH J J (B1 v i H) J ?_;have R:aw .u64 (aw .u64 (f*I v i 0)+K)=f*I v i 0+K:=by rw[wrap_u64 (f*I v i 0) G G,wrap_u64 _ G G]
  generalize T:f*I v i 0+K=p at*;have u:0<=p/\p<18446744073709551616:=G;refine eR (st':=⟨[(0,.c<|.W 0 a L),(1,S al v),(2,cU f),(8,cU b),(9,O i),(10,cU p)],[(0,.vec 142 al<|cZ d a<|bT i<|val ((ay a d).take i)-f*val (M i v))],7,[]⟩) (wk ⟨sR J,sR J,sR J,sR J,sR J,⟨_,J,bg.of_eq<|bP R⟩,A⟩ ⟨bR J,A⟩) ?_;generalize hX:cZ d a (bT i<|val ((ay a d).take i)-f*val (M i v))=X at*;refine e J<|e J (hp:=kp) ?_;have r:af (i:Y)=i:=cr i;have w2:aw .u64 (p.tdiv 4294967296)=p/4294967296:=by rw[Fa u.1,wrap_u64 _ G G]
  have w3:aw .u64 (aw .u64 (aw .u64 (4294967296+aw .u64 (X.getD (a+af (i:Y)) 0))-p.tmod 4294967296)-b)=4294967296+I d (a+i) 0-p%4294967296-b:=by rw[r,o,Iz u.1,wrap_u64 (I d (a+i) 0) G G,wrap_u64 (4294967296+_) G G,wrap_u64 (_-p%4294967296) G G,wrap_u64 _ G G]
  generalize ht:4294967296+I d (a+i) 0-p%4294967296-b=t at*;have B:0<=t/\t<8589934592:=G;refine eR (st':=⟨[(0,.c<|.W 0 a L),(1,S al v),(2,cU f),(7,cU<|p/4294967296),(9,O i),(11,cU t)],[(0,.vec 142 al X)],9,[]⟩) (wk ⟨sR J,sR J,sR J,⟨_,J,bg.of_eq<|bP w2⟩,sR J,⟨_,J,bg.of_eq<|bP w3⟩,A⟩ ⟨bR J,A⟩) ?_;refine e J (hp:=kp)<|rt J ?_;refine bL<|rt J<|a4 (i+1,p/4294967296,1-t/4294967296) ⟨h,s2,P.symm,(G:1-t/4294967296=0\/1-t/4294967296=1)⟩ (G:L-(i+1)<L-i)<|wk ⟨sR J,sR J,sR J,sR J,sE J ?_,sE J ?_,A⟩ ⟨bE J ?_,A⟩
  .refine bP ?_;show aw .u64 (1-aw .u64 (t.tdiv 4294967296))=1-t/4294967296;rw[Fa B.1,wrap_u64 (t/4294967296) G G,wrap_u64 _ G G]
  .exact bh O G
  .refine bh (aD.vec 142 al) ?_;show X.set (a+af (i:Y)) (aw .u32<|t.tmod 4294967296)=cZ d a (bT (i+1) _);rw[s1,r,Iz B.1,wrap_u32 _ G G,s]
 .have h:¬i<L:=by simpa using h
  have cz:i=L:=G;subst cz;rw[anc H g Q hL]at k;rw[mH v i G]at h2⊢;refine bt<|aK<|e J<|bV<|zo cv J (bg.of_eq ?_) J;refine bh cB ?_;show(b==1)=_;have T:=jJ i;rcases l with l|l
  .subst l k;have:0<=val ((ay a d).take i)-f*val v:=by have C:=nW (val ((ay a d).take i)-f*val v)<|4294967296^i;have h6:=iP (val ((ay a d).take i)-f*val v) (G:(4294967296:Y)^i≠0);rw[h2]at C;simp at C;omega
   rw[s5 G];rfl
  .subst l k;have:val ((ay a d).take i)-f*val v<0:=by have C:=nW (val ((ay a d).take i)-f*val v)<|4294967296^i;have h6:=iR (val ((ay a d).take i)-f*val v) T;rw[h2]at C;simp at C;omega
   rw[qB G];rfl
def anf b v a L(p:bW b)(n:bW v)(P:a+L<=Z b)(Q:Z v<=L)(T:Z b<=1099511627777):
  uy c 220 [.c (.W 0 a L),S al v] 142 al b (.t []) (cZ b a<|bT L<|val ((ay a b).take L)+val v):=by
 refine Ie Tryz.func220 J J J J J D ?_
 refine e J<|e J ?_
 refine az<|bq (α:=V×Y) (λx=>⟨[(0,.c<|.W 0 a L),(1,S al v),(4,cU x.2),(5,O x.1)],[(0,.vec 142 al<|cZ b a<|bT x.1<|val ((ay a b).take x.1)+val (M x.1 v))],3,[]⟩) (λx=>x.1<=L/\(val ((ay a b).take x.1)+val (M x.1 v))/4294967296^x.1=x.2/\(x.2=0\/x.2=1)) (λx=>L-x.1) (0,0) ⟨bf _,xL,.inl J⟩ (wk (bM J) ⟨bE J ?_,A⟩) ?_
 .exact bh (aD.vec 142 al) (Nq b a).symm
 rintro⟨i,m⟩ ⟨s,h2,u⟩
 simp only at s h2 u
 refine j<|e J ?_
 refine F J (λh=>?_)<|λh=>?_
 .have h:i<L:=by simpa using h
  have K:=de n i;have q:=de p<|a+i;have d:=abD b v a i (c:=m) J h2;simp only at d;let ⟨s1,s2⟩:=d;have f:Z (bT i<|val ((ay a b).take i)+val (M i v))=i:=s0 _ _;have B:=xP (U:=b) (j:=a) (ws:=bT i<|val ((ay a b).take i)+val (M i v)) G;have g:=Nr (U:=b) (j:=a) (ws:=bT i<|val ((ay a b).take i)+val (M i v)) G;have k:=λw=>Ns (U:=b) (j:=a) (ws:=bT i<|val ((ay a b).take i)+val (M i v)) w G
  rw[f]at g k;generalize r:cZ b a (bT i<|val ((ay a b).take i)+val (M i v))=X at*;have o:af (i:Y)=i:=cr i;refine aE<|j<|az<|R<|rc J J (B1 v i n) (hp:=kp)<|z J ?_;have C:aw .u64 (aw .u64 (aw .u64 (X.getD (a+af (i:Y)) 0)+I v i 0)+m)=I b (a+i) 0+I v i 0+m:=by rw[o,g,wrap_u64 (I b (a+i) 0) G G,wrap_u64 (_+I v i 0) G G,wrap_u64 _ G G]
  generalize ht:I b (a+i) 0+I v i 0+m=t at*;have l:0<=t/\t<8589934592:=G;refine eR (st':=⟨[(0,.c<|.W 0 a L),(1,S al v),(5,O i),(6,cU t)],[(0,.vec 142 al X)],5,[]⟩) (wk ⟨sR J,sR J,sR J,⟨_,J,bg.of_eq<|bP C⟩,A⟩ ⟨bR J,A⟩) ?_;refine e J (hp:=kp)<|rt J ?_;refine bL<|rt J<|a4 (i+1,t/4294967296) ⟨h,s2,(G:t/4294967296=0\/t/4294967296=1)⟩ (G:L-(i+1)<L-i)<|wk ⟨sR J,sR J,sE J ?_,sE J ?_,A⟩ ⟨bE J ?_,A⟩
  .refine bP ?_;show aw .u64 (t.tdiv 4294967296)=t/4294967296;rw[Fa l.1,wrap_u64 (t/4294967296) G G]
  .exact bh O G
  .refine bh (aD.vec 142 al) ?_;show X.set (a+af (i:Y)) (aw .u32<|t.tmod 4294967296)=cZ b a (bT (i+1) _);rw[s1,o,Iz l.1,wrap_u32 _ G G,k]
 .have h:¬i<L:=by simpa using h
  have H:i=L:=G;subst H;rw[mH v i G];exact bt<|aaJ cv J (bg.refl _) J
def TS{v}{n}(h:Z v=n+2):val v=(I v (n+1) 0*4294967296+I v n 0)*4294967296^n+val (M n v):=by
 have b:=ko v n;have a:=ko v<|n+1;rw[mH v (n+1+1) G,o0]at a;rw[a,b,nU];have e:I v (n+1) 0*(4294967296^n*4294967296)=I v (n+1) 0*4294967296*4294967296^n:=by rw[eW (4294967296^n),jo]
 rw[e];omega
def ang d f n:val ((ay f d).take<|n+3)=((I d (f+(n+2)) 0*4294967296+I d (f+(n+1)) 0)*4294967296+I d (f+n) 0)*4294967296^n+val ((ay f d).take n):=by have i:=ko (ay f d) n;have g:=ko (ay f d)<|n+1;have h:=ko (ay f d)<|n+2;rw[TQ]at i g h;rw[o0]at g;rw[o0 (n+1),o0]at h;rw[show n+3=n+2+1 from J,h,g,i];generalize (4294967296:Y)^n=M;generalize I d (f+(n+2)) 0=a;generalize I d (f+(n+1)) 0=b;generalize I d (f+n) 0=c;grind
def abG{U v}{j n}(a:bW U)(d:bW v)(l:Z v=n+2)(o:j+n+3<=Z U)(b:2147483648<=I v (n+1) 0)(f:val ((ay j U).take<|n+3)<val v*4294967296):
  Kn1 (4294967296^n) (I v (n+1) 0) (I v n 0) (val<|M n v) (val v) (I U (j+(n+2)) 0*4294967296+I U (j+(n+1)) 0) (I U (j+n) 0) (val<|(ay j U).take n) (val<|(ay j U).take<|n+3):=by
 have m:=de d<|n+1
 have g:=de d n
 have p:=de a<|j+(n+2)
 have s:=de a<|j+(n+1)
 have h:=de a<|j+n
 have i:=nf<|jm d n
 have k:=nf<|jm (zv a j) n
 rw[(bX:(M n v).length=n)]at i
 rw[(bX:Z ((ay j U).take n)=n)]at k
 exact⟨jJ n,b,m.2,g.1,g.2,lW<|jm d n,i,G,h.1,h.2,lW<|jm (zv a j) n,k,TS l,ang U j n,f⟩
structure uJ(a v:Y)(lb M:V)(x:V×E Y×E Y):Prop where
 k:x.1<=M+1
 ul:x.2.1.length=M+lb+1
 ur:bW x.2.1
 ub:val (x.2.1.drop x.1)<v
 ql:x.2.2.length=M+1
 qr:bW x.2.2
 qz:∀i,i<x.1->x.2.2.getD i 0=0
 eq:a=val x.2.1+v*val x.2.2
def zD a b(h:b<=Z a):val a=val (M b a)+4294967296^b*val (ay b a):=by have:=EY (M b a)<|ay b a;rw[sI]at this;rw[this];congr 3;simp;omega
def abH{a}(h:bW a) n(b:n<=Z a)(d:val a<4294967296^n):val (ay n a)=0:=by
 have f:=zD a n b;have g:=lW<|jm h n;have i:=lW<|zv h n;by_cases e:val (ay n a)=0
 .exact e
 .exfalso;have:4294967296^n*1<=4294967296^n*val (ay n a):=kU G (by have:=jJ n;omega);omega
def uJ.TU{m v}{d f a}{b Q}(h:uJ m v d f (a+1,b,Q))(o:v<4294967296^d):val (ay a b)=val ((ay a b).take<|d+1)/\val ((ay a b).take<|d+1)<v*4294967296:=by
 have p:a+1<=f+1:=h.k;have s:Z b=f+d+1:=h.ul;have g:bW b:=h.ur;have t:val (ay (a+1) b)<v:=h.ub;have n:ay a b=I b a 0::ay (a+1) b:=by rw[rJ G];simp[aN,cO (G:a<Z b)]
 have i:val ((ay (a+1) b).drop d)=0:=abH (zv g _) d bX G;have l:val (ay a b)=val ((ay a b).take<|d+1):=by have:=zD (ay a b) (d+1) bX;rw[pY]at this;rw[pY]at i;rw[this,(G:a+(d+1)=a+1+d),i];simp
 refine⟨l,?_⟩;rw[<-l,n,val];have:=de g a;omega
def uJ.next{o v}{b g a}{d Q}(h:uJ o v b g (a+1,d,Q))(l:0<v)(L:v<4294967296^b):
  uJ o v b g (a,cZ d a<|bT (b+1)<|val ((ay a d).take<|b+1)%v,Q.set a<|val ((ay a d).take<|b+1)/v):=by
 let ⟨H,P⟩:=h.TU L
 have F:a+1<=g+1:=h.k
 have T:Z d=g+b+1:=h.ul
 have K:bW d:=h.ur
 have p:Z Q=g+1:=h.ql
 have s:bW Q:=h.qr
 have m:∀i,i<a+1->I Q i 0=0:=h.qz
 have heq:o=val d+v*val Q:=h.eq
 have t:0<=val ((ay a d).take<|b+1):=lW<|jm (zv K _) _
 generalize hu:val ((ay a d).take<|b+1)=u at*
 have W:=iP u (G:v≠0)
 have X:=iR u l
 have c:0<=u/v:=zB t G
 have q:u/v<4294967296:=E5 l (by rw[eW];exact P)
 have w:=nW u v
 have B:Z (bT (b+1)<|u%v)=b+1:=s0 _ _
 have f:a+Z (bT (b+1)<|u%v)<=Z d:=G
 have C:u%v<4294967296^(b+1):=by rw[o0];have:=jJ b;omega
 have r:val (ay (a+(b+1)) d)=0:=by
  have:=zD (ay a d) (b+1) bX;rw[pY,hu,H]at this;have J:=jJ<|b+1;have z:4294967296^(b+1)*val (ay (a+(b+1)) d)=0:=G;rcases Int.mul_eq_zero.1 z with e|e
  .omega
  .exact e
 have n:val (ay a<|cZ d a<|bT (b+1)<|u%v)=u%v:=by rw[TP f,EY,IC,gX W C,B,r];simp
 refine⟨(G:a<=g+1),by show Z (cZ _ _ _)=_;rw[xP f];exact T,TO K<|IB _ _,by show val (ay a<|cZ d a _)<v;rw[n];exact X,by show(Q.set _ _).length=_;simp[p],zw s _ ⟨c,q⟩,?_,?_⟩
 .intro i N;show(Q.set a _).getD i 0=0;rw[aN,List.getElem?_set_ne G,<-aN];exact m i G
 .show o=val (cZ d a _)+v*val (Q.set a _);rw[Tn Q a _ G,m a G,zD (cZ d a _) a (by rw[xP f];omega),abB f,n,heq,zD d a G,H];have D:v*(val Q+(u/v-0)*4294967296^a)=v*val Q+4294967296^a*(v*(u/v)):=by generalize u/v=x;generalize (4294967296:Y)^a=y;grind
  have E:4294967296^a*u=4294967296^a*(u%v)+4294967296^a*(v*(u/v)):=by rw[<-oA,w]
  rw[D,E];omega
def uJ.fin{a v}{g i}{b Q}(h:uJ a v g i (0,b,Q)):val Q=a/v/\val b=a%v:=by have f:val b<v:=h.ub;have d:=lW h.ur;have heq:a=val b+v*val Q:=h.eq;simp only at d;have k:0<v:=G;rw[heq,Int.add_mul_ediv_left _ _ G,E6 d f,Nu,gX d f];exact⟨G,J⟩
def anh{b1:Y}(f:1<=b1)(g:b1<4294967296):2147483648<=b1*(4294967296/(b1+1)):=by
 have h:=nW 4294967296<|b1+1;have i:=iR 4294967296 (G:0<b1+1);generalize 4294967296/(b1+1)=d at*;generalize (4294967296:Y)%(b1+1)=r at*;by_cases k:2147483648<=b1
 .have a:1<=d:=by
   by_cases e:1<=d
   .exact e
   .have:(b1+1)*d<=(b1+1)*0:=kU G G;omega
  have:b1*1<=b1*d:=kU a G;omega
 .have b:0<=(b1-1)*(4294967296-2*b1-2):=jB G G;have l:(b1-1)*(4294967296-2*b1-2)=b1*4294967296-2*(b1*b1)-4294967296+2:=by grind
  have m:(b1+1)*(b1*d)=b1*(4294967296-r):=by rw[show(b1+1)*(b1*d)=b1*((b1+1)*d)by grind];congr 1;omega
  have n:b1*(4294967296-b1)<=b1*(4294967296-r):=kU G G;have o:b1*(4294967296-b1)=b1*4294967296-b1*b1:=by rw[Ff]
  by_cases e:2147483648<=b1*d
  .exact e
  .exfalso;have:(b1+1)*(b1*d)<=(b1+1)*2147483647:=kU G G;omega
def ani{k n}(b:Z (r k)=n+2){a}(g:a=I (r k) (n+1) 0){d:V}(x:(d:Y)=4294967296/(a+1)):
  1<=a/\a<4294967296/\1<=d/\d<4294967296/\((k*d:V):Y)<4294967296^(n+2)/\Z (r<|k*d)=n+2/\2147483648<=I (r<|k*d) (n+1) 0:=by
 have h:=de (dW k)<|n+1
 have B:=wa k
 have j:a≠0:=by
  rcases B with e|e
  .rw[e]at b;simp at b
  .rw[b]at e;rw[g];exact e
 rw[<-g]at h
 have C:=nW 4294967296<|a+1
 have H:=iP 4294967296 (G:a+1≠0)
 have q:=iR 4294967296 (G:0<a+1)
 have i:=anh (b1:=a) G h.2
 rw[<-x]at C i
 have z:(1:Y)<=d:=by
  by_cases e:(1:Y)<=d
  .exact e
  .have:(d:Y)=0:=by omega
   rw[this]at i;simp at i
 have A:(d:Y)<4294967296:=by have:2*(d:Y)<=(a+1)*d:=hZ G G;omega
 have K:=TS b
 rw[eJ,<-g]at K
 have L:=nf<|jm (dW k) n
 rw[(bX:Z (M n<|r k)=n)]at L
 have D:=lW<|jm (dW k) n
 have P:=de (dW k) n
 have E:=jJ n
 generalize I (r k) n 0=f at*
 generalize val (M n<|r k)=F at*
 have l:(4294967296:Y)^(n+1)=4294967296^n*4294967296:=o0 n
 have Q:a*4294967296^(n+1)<=(k:Y):=by have:(a*4294967296)*4294967296^n<=(a*4294967296+f)*4294967296^n:=hZ G G;rw[l,show a*(4294967296^n*4294967296)=a*4294967296*4294967296^n by rw[eW (4294967296^n),jo]];omega
 have T:(k:Y)<(a+1)*4294967296^(n+1):=by
  have o:(a*4294967296+f+1)*4294967296^n<=(a*4294967296+4294967296)*4294967296^n:=hZ G G;have p:(a*4294967296+f+1)*4294967296^n=(a*4294967296+f)*4294967296^n+4294967296^n:=by rw[nU _ 1,kX]
  have s:(a*4294967296+4294967296)*4294967296^n=(a+1)*(4294967296^n*4294967296):=by generalize (4294967296:Y)^n=y;grind
  rw[l,<-s];omega
 have v:((k*d:V):Y)<4294967296^(n+2):=by
  rw[fC,o0];have o:(k:Y)*d<(a+1)*4294967296^(n+1)*d:=ID T G;have p:(a+1)*4294967296^(n+1)*d=4294967296^(n+1)*((a+1)*d):=by generalize (4294967296:Y)^(n+1)=y;grind
  have s:4294967296^(n+1)*((a+1)*d)<=4294967296^(n+1)*4294967296:=kU G G;omega
 have w:Z (r<|k*d)=n+2:=by have o:Z (r<|k*d)<=n+2:=B0 v;have p:=sZ (m:=k) (k:=k*d)<|TV _ G;omega
 refine⟨G,h.2,G,G,v,w,?_⟩
 have t:=TS w
 have W:=nf<|jm (dW<|k*d) n
 rw[(bX:Z (M n<|r<|k*d)=n)]at W
 have X:=de (dW<|k*d) n
 have c:=de (dW<|k*d)<|n+1
 rw[eJ,fC]at t
 generalize I (r<|k*d) n 0=u at*
 generalize I (r<|k*d) (n+1) 0=c1 at*
 generalize val (M n<|r<|k*d)=J at*
 by_cases e:2147483648<=c1
 .exact e
 .exfalso;have o:(c1*4294967296+u+1)*4294967296^n<=(c1*4294967296+4294967296)*4294967296^n:=hZ G G;have p:(c1*4294967296+u+1)*4294967296^n=(c1*4294967296+u)*4294967296^n+4294967296^n:=by rw[nU _ 1,kX]
  have s:(c1*4294967296+4294967296)*4294967296^n=(c1+1)*4294967296^(n+1):=by rw[l];generalize (4294967296:Y)^n=y;grind
  have N:a*4294967296^(n+1)*d<=(k:Y)*d:=hZ Q G;have O:(c1+1)*4294967296^(n+1)<=a*d*4294967296^(n+1):=hZ G G;have R:a*4294967296^(n+1)*d=a*d*4294967296^(n+1):=by generalize (4294967296:Y)^(n+1)=y;grind
  omega
def abI{b}{a}{d f}(h:a+Z d<=Z b)(g:Z f=Z d):cZ (cZ b a d) a f=cZ b a f:=by unfold cZ;rw[show(M a b++(d++ay (a+Z d) b)).take a=M a b from abB h,g];have i:(M a b).length=a:=bX;rw[List.drop_append,i,tK G,tI,(G:a+Z d-a=Z d),List.drop_left'];rfl
def anj m k n(w:Z (r k)=n+2)(mj:k<=m)(lm:Z (r m)<=1099511627776):ao c 186 [S al (r m),S al<|r k] (.t [(ah,[.S al (r<|m/k)]),(ah,[.S al (r<|m%k)])]):=by
 refine aL Tryz.func186 ?_;generalize N:I (r k) (n+1) 0=b1;obtain⟨d,hd⟩:∃d:V,(d:Y)=4294967296/(b1+1):=⟨af<|4294967296/(b1+1),vP<|zB D<|by have:=de (dW k)<|n+1;omega⟩;let ⟨f1,f2,f3,f4,f5,f6,f7⟩:=ani w N.symm hd;have m5:0<k:=by
  rcases qD k with l|l
  .subst l;rw[EZ]at w;simp at w
  .exact l
 have hla:n+2<=Z (r m):=by rw[<-w];exact sZ mj
 obtain⟨b,hM⟩:∃b,Z (r m)=b+(n+2):=⟨Z (r m)-(n+2),G⟩;have TW:((m*d:V):Y)<4294967296^(b+(n+2)+1):=by have h1:=uE (n:=m);rw[hM]at h1;rw[o0,fC];have:=jJ<|b+(n+2);have h2:(m:Y)*d<=(m:Y)*4294967296:=kU G G;omega
 have avD:Z (r<|m*d)<=b+(n+2)+1:=B0 TW;have anl:¬dK (m:Y) (k:Y)<0:=by unfold dK;rw[y G];split<;>decide
 refine e J<|j<|bH J J (Iu m k) J<|F J (λh=>absurd eh anl)<|λ_=>aE ?_;refine j<|e J<|F J (λh=>?_)<|λ_=>aE ?_
 .exfalso;have h:(Z (r k):Y)=1:=eh;omega
 have a2:af ((Z (r k):Y)-1)=n+1:=G;have x1:aw .u64 (aw .u64 (I (r k) (af<|(Z (r k):Y)-1) 0)+1)=b1+1:=by rw[a2,N,wrap_u64 b1 G G,wrap_u64 _ G G]
 have x2:aw .u64 ((4294967296:Y).tdiv<|aw .u64<|aw .u64 (I (r k) (af<|(Z (r k):Y)-1) 0)+1)=(d:Y):=by rw[x1,Fa D,<-hd,wrap_u64 _ G G]
 refine e J<|e J (hp:=by simp only[Pr.an,Pr.h,num,fX,true_and,and_true];rw[x1];omega) ?_;refine eR (st':=⟨[(0,S al<|r m),(1,S al<|r k),(8,O ((n+2:V):Y)),(9,cU d)],[],5,[]⟩) (wk ⟨sR J,sR J,⟨_,J,bg.of_eq<|bh (λfw:V=>O (fw:Y)) w⟩,⟨_,J,bg.of_eq<|bP x2⟩,A⟩ A) ?_;refine R<|rc J J (E0 d G)<|rc J J (Tu k d G<|by have:=Iv (m:=d) G;omega)<|z J ?_;refine R<|rm al (Z (r m)+1) J J J J J J (mE .u32) G ?_ ?_<|z J ?_
 .show _*4<=_;omega
 .show _*1<=_;omega
 refine R<|rc J J (E0 d G)<|rc J J (Tu m d G<|by have:=Iv (m:=d) G;omega) ?_;refine MQ J J J J J TX ax<|z J ?_;generalize K:r (m*d)++ay (Z<|r<|m*d) (bl (Z (r m)+1) (0:Y))=o;refine R<|rm al (b+1) J J J J J J (mE .u32) G ?_ ?_<|z J ?_
 .show _*4<=_;omega
 .show _*1<=_;omega
 have B:val o=((m*d:V):Y):=by rw[<-K,EY,eJ,(ax:ay (Z<|r<|m*d) (bl (Z (r m)+1) (0:Y))=bl (Z (r m)+1-Z (r<|m*d)) 0),M0];simp
 have H:bW o:=by rw[<-K];exact Tm (dW _)<|zv (rI _) _
 have anm:Z o=b+(n+2)+1:=by rw[<-K];simp;omega
 have zE:(0:Y)<((k*d:V):Y):=by have:0<k*d:=zH m5 G;omega
 have zn:uJ ((m*d:V):Y) ((k*d:V):Y) (n+2) b (b+1,o,bl (b+1) 0):=by
  refine⟨aT _,anm,H,?_,ax,rI _,λi hi=>?_,?_⟩
  .show val (ay (b+1) o)<_;have h1:=zD o (b+1) G;have h2:=lW<|jm H<|b+1;have hp:=jJ<|b+1;by_cases l:val (ay (b+1) o)<((k*d:V):Y)
   .exact l
   .exfalso;have h3:4294967296^(b+1)*((k*d:V):Y)<=4294967296^(b+1)*val (ay (b+1) o):=kU G G;have h4:=M1 (dW k) (wa k) (by intro l;rw[l]at w;simp at w);rw[eJ,w,(G:n+2-1=n+1)]at h4;have h5:=uE (n:=m);rw[hM,(G:b+(n+2)=b+1+(n+1)),Int.pow_add]at h5;have h6:4294967296^(b+1)*4294967296^(n+1)*(d:Y)<=4294967296^(b+1)*((k*d:V):Y):=by rw[fC,jo];exact kU (hZ h4 G) G
    have h7:(m:Y)*d<4294967296^(b+1)*4294967296^(n+1)*(d:Y):=ID h5 G;rw[B,fC m d]at h1;omega
  .show I (bl (b+1) (0:Y)) i 0=0;rw[aN,lY];split<;>rfl
  .show _=val o+_*val (bl (b+1) 0);rw[M0,B];omega
 refine j<|e J ?_;refine az<|bq (α:=V×E Y×E Y) (λx=>⟨[(8,O ((n+2:V):Y)),(9,cU d),(10,S al<|r<|k*d),(11,.c<|.X 6003000),(12,.c<|.X 8005000),(13,O<|(x.1:Y)-1)],[(6003000,.vec 142 al x.2.1),(8005000,.vec 142 al x.2.2)],10,[]⟩) (uJ ((m*d:V):Y) ((k*d:V):Y) (n+2) b) (λx=>x.1) (b+1,o,bl (b+1) 0) zn (wk ⟨sR J,sR J,sR J,sR J,sR J,sE J ?_,A⟩<|ow J) ?_
 .exact bh O G
 rintro⟨T,U,Q⟩ p;have m6:Z U=b+(n+2)+1:=p.ul;have g:bW U:=p.ur;have Nv:Z Q=b+1:=p.ql;have LG:T<=b+1:=p.k;refine j<|e J ?_;refine F J (λh=>?_)<|λh=>?_
 .have h:(T:Y)-1>=0:=by simpa using h
  obtain⟨a,rfl⟩:∃a,T=a+1:=⟨T-1,G⟩;have ej:((a+1:V):Y)-1=(a:Y):=G;rw[ej];have f:=p.next zE f5;let ⟨_,xE⟩:=p.TU f5;have hK:=abG (U:=U) (v:=r<|k*d) (j:=a) (n:=n) g (dW _) f6 G f7 (by rw[eJ];exact xE);have oB:=de (dW<|k*d)<|n+1;have L:=Ni hK 2 ((I U (a+(n+2)) 0*4294967296+I U (a+(n+1)) 0)/I (r<|k*d) (n+1) 0)<|(I U (a+(n+2)) 0*4294967296+I U (a+(n+1)) 0)%I (r<|k*d) (n+1) 0;have P:=hK.first;generalize TY:I (r<|k*d) (n+1) 0=v1 at L oB f7 P;generalize hte:I U (a+(n+2)) 0*4294967296+I U (a+(n+1)) 0=t at L P;have Nw:=iP t (G:v1≠0);have v7:=iR t (G:0<v1);have L:=L (by have h1:=nW t v1;have h2:=eW (t/v1) v1;omega) Nw G G P;rw[<-hte,<-TY]at L;have So:=am8 U (r<|k*d) a n g (dW _) f6 G G hK;have IA:=hK.q0;generalize rM 2 ((I U (a+(n+2)) 0*4294967296+I U (a+(n+1)) 0)/I (r<|k*d) (n+1) 0) ((I U (a+(n+2)) 0*4294967296+I U (a+(n+1)) 0)%I (r<|k*d) (n+1) 0) (I (r<|k*d) (n+1) 0) (I (r<|k*d) n 0) (I U (a+n) 0)=q at*;rw[eJ]at L IA;have hls:=ane U (r<|k*d) a (n+3) q g (dW _) G G G L.2.2 G;rw[eJ]at hls;rw[show n+2+1=n+3 from J]at f xE;generalize hu:val ((ay a U).take<|n+3)=u at*;have TZ:=nW u ((k*d:V):Y);have HP:=iP u (G:((k*d:V):Y)≠0);have zt:=iR u zE;generalize hv:((k*d:V):Y)=v at*;refine aE<|j<|az ?_;refine R<|rw_ a (a+(n+3)) J J J J J J G G (G:a+(n+3)<=Z U)<|z J ?_
  refine eR (st':=⟨[(8,O ((n+2:V):Y)),(9,cU d),(10,S al<|r<|k*d),(11,.c<|.X 6003000),(12,.c<|.X 8005000),(13,O a),(14,.c<|.W 6003000 a<|n+3)],[(6003000,.vec 142 al U),(8005000,.vec 142 al Q)],12,[]⟩) (wk ⟨sR J,sR J,sR J,sR J,sR J,sR J,⟨_,J,bg.of_eq<|bh (λfw=>AV.c<|C.W 6003000 a fw) G⟩,A⟩<|ow J) ?_;refine R<|zq 6003000 J So J J<|z J ?_;refine j<|R<|zq 6003000 J hls J J<|z J ?_;have Fg:∀x,Z (bT (n+3) x)=n+3:=λx=>s0 _ _
  refine F J (λh=>?_)<|λh=>?_
  .have h:u-q*v<0:=by simpa using h
   have s:q=u/v+1:=by
    by_cases l:q=u/v
    .subst l;have:=eW (u/v) v;omega
    .omega
   have T0:q*v=v*(u/v)+v:=by rw[s,nU,kX,eW]
   have hr:bW (cZ U a<|bT (n+3)<|u-q*v):=TO g<|IB _ _;have BI:=anf (cZ U a<|bT (n+3)<|u-q*v) (r<|k*d) a (n+3) hr (dW _) (by rw[xP uK];omega) G (by rw[xP uK];omega);have e1:cZ (cZ U a<|bT (n+3)<|u-q*v) a (bT (n+3)<|val (M (n+3)<|ay a<|cZ U a<|bT (n+3)<|u-q*v)+val (r<|k*d))=cZ U a (bT (n+3)<|u%v):=by rw[abI uK (by rw[Fg,Fg]),TP uK,xa uK,iY uK,IC,eJ,hv];refine bh (cZ U a)<|Np _ _ _ ?_;rw[Int.emod_add_emod];congr 1;omega
   rw[e1]at BI;have w1:aw .u64 (q-1)=u/v:=by rw[wrap_u64 _ G G];omega
   refine e J<|cK<|zq 6003000 J BI J J<|z J<|aK ?_;refine eR (st':=⟨[(8,O ((n+2:V):Y)),(9,cU d),(10,S al<|r<|k*d),(11,.c<|.X 6003000),(12,.c<|.X 8005000),(13,O a),(15,cU<|u/v)],[(6003000,.vec 142 al<|cZ U a<|bT (n+3)<|u%v),(8005000,.vec 142 al Q)],16,[]⟩) (wk ⟨sR J,sR J,sR J,sR J,sR J,sR J,⟨_,J,bg.of_eq<|bP w1⟩,A⟩<|ow J) ?_;refine rt J (hp:=kp) ?_;refine bL<|rt J<|a4 (a,cZ U a<|bT (n+3)<|u%v,Q.set a<|u/v) f (dJ a)<|wk (bM J) ⟨bR J,bE J ?_,A⟩;refine bh (aD.vec 142 al) ?_;show Q.set (af (a:Y)) (aw .u32<|u/v)=Q.set a (u/v);rw[cr,wrap_u32 _ G G]
  .have h:¬u-q*v<0:=by simpa using h
   have s:q=u/v:=by
    by_cases l:q=u/v
    .exact l
    .exfalso;have e2:q=u/v+1:=G;have T0:q*v=v*(u/v)+v:=by rw[e2,nU,kX,eW]
     omega
   have e1:u-q*v=u%v:=by have:=eW (u/v) v;rw[s];omega
   refine aE ?_;refine eR (st':=⟨[(8,O ((n+2:V):Y)),(9,cU d),(10,S al<|r<|k*d),(11,.c<|.X 6003000),(12,.c<|.X 8005000),(13,O a),(15,cU<|u/v)],[(6003000,.vec 142 al<|cZ U a<|bT (n+3)<|u%v),(8005000,.vec 142 al Q)],16,[]⟩) (wk ⟨sR J,sR J,sR J,sR J,sR J,sR J,⟨_,J,bg.of_eq<|bP s⟩,A⟩ ⟨⟨_,J,kK.of_eq<|bh (λfw=>aD.vec 142 al<|cZ U a<|bT (n+3) fw) e1⟩,bR J,A⟩) ?_;refine rt J (hp:=kp) ?_;refine bL<|rt J<|a4 (a,cZ U a<|bT (n+3)<|u%v,Q.set a<|u/v) f (dJ a)<|wk (bM J) ⟨bR J,bE J ?_,A⟩;refine bh (aD.vec 142 al) ?_;show Q.set (af (a:Y)) (aw .u32<|u/v)=Q.set a (u/v);rw[cr,wrap_u32 _ G G]
 .have h:¬(T:Y)-1>=0:=by simpa using h
  have hc:T=0:=G;subst hc;let ⟨e1,e2⟩:=p.fin;have q1:aM Q=r (m/k):=by
   rw[oV p.qr];show r (af<|val Q)=_;rw[e1];have:((m*d:V):Y)/((k*d:V):Y)=((m/k:V):Y):=by rw[<-xN,Nat.mul_div_mul_right _ _ G]
   rw[this,cr]
  have q2:r (af<|val (aM U)/(d:Y))=r (m%k):=by
   rw[aa'];show r (af<|val U/(d:Y))=_;rw[e2];have:((m*d:V):Y)%((k*d:V):Y)/(d:Y)=((m%k:V):Y):=by rw[<-IE,Nat.mul_mod_mul_right,<-xN,T1 _ G]
   rw[this,cr]
  have xQ:=abj (aM U) (d:Y) (abb g) G G (by
   have h2:Z (aM U)<=n+2:=by rw[oV g];apply B0;have h3:val U<((k*d:V):Y):=p.ub;omega
   omega)
  rw[q2]at xQ;refine bt<|aK<|da 6003000 J J J<|da 8005000 J J J ?_;refine R<|rc J J (zy U)<|rc J J xQ<|z J ?_;refine bH J J (zy Q) J<|bY J ?_;rw[q1]
def abK m k(b:k≠0)(a:Z (r m)<=1099511627776):ao c 186 [S al (r m),S al<|r k] (.t [(ah,[.S al (r<|m/k)]),(ah,[.S al (r<|m%k)])]):=by
 by_cases h:m<k\/k<4294967296
 .exact amQ m k b h a
 .have f:2<=Z (r k):=by
   by_cases e:2<=Z (r k)
   .exact e
   .exfalso;have g:=uE (n:=k);have d:=uF (m:=Z<|r k) (n:=1) G;rw[Int.pow_one]at d;omega
  exact anj m k (Z (r k)-2) G G a
def Fh a b(m:b≠0)(l:Sm a)(i:Sm b):ao c 183 [aZ a,aZ b] (.t [(ae,av .z<|a/b),(ae,av .z<|a%b),(ah,[.I .i64 0])]):=by
 refine aL Tryz.func183 ?_;refine e J<|j<|e J ?_;have d:aA b≠0:=G;refine F J (λh2=>?_)<|λh2=>?_
 .exfalso;have h2:(Z (er b):Y)=0:=p';have:=oX.2 d;unfold er at h2;omega
 .refine aE<|bH J J (abK _ _ d l) J<|j<|R ?_;refine rg 25 J J (λh3=>?_) (λh3=>?_)
  .have h3:a<0:=by simpa[cj]using h3
   refine z J<|F J (λh4=>?_)<|λh4=>?_
   .have h4:aA a%aA b≠0:=by have h4:(Z (r<|aA a%aA b):Y)>0:=Nx;exact oX.1 G
    let ⟨e1,f⟩:=abm (rL d) h3 h4;have hz:cj a=ae:=Fi;let ⟨g,h⟩:=E7 a b (aA a/aA b+1) (aA b-aA a%aA b) Fj f;have n:aA a%aA b<aA b:=fN _<|rL d;refine R<|rl al [_] J J (rc J J (abh (aA a/aA b) 1 ?_ D)<|z J<|cK<|rc J J (Tt (aA b) _ G i)<|z J<|aK<|R ?_)
    .exact b6 (sZ<|Nat.div_le_self _ _) l
    refine rc J J (qA _ _)<|rc J J (qA _ _)<|z J<|bY J ?_;rw[g,h];rfl
   .have h4:aA a%aA b=0:=by have h4:¬(Z (r<|aA a%aA b):Y)>0:=Nx;exact TC λk=>by have:=oX.2 k;omega
    let ⟨e1,f⟩:=abl (rL d) h3 h4;have hz:cj a=ae:=Fi;let ⟨g,h⟩:=E7 a b (aA a/aA b) (aA a%aA b) Fj (by rw[f,h4];rfl);refine aE<|R<|rc J J (qA _ _)<|rc J J (qA _ _)<|z J<|bY J ?_;rw[g,h];rfl
  .have h3:¬a<0:=by simpa[cj]using h3
   refine z J<|F J (λh4=>by simp at h4)<|λh4=>?_;let ⟨e1,f⟩:=abk (rL d) h3;have hz:cj a=ah:=Fi;let ⟨g,h⟩:=E7 a b (aA a/aA b) (aA a%aA b) Fj f;refine aE<|R<|rc J J (qA _ _)<|rc J J (qA _ _)<|z J<|bY J ?_;rw[g,h];rfl
def ano m k(u:Z (r m)<=1099511627776)(v:Z (r k)<=1099511627776):ao c 148 [S al (r m),S al<|r k] (S al<|r<|nV m k):=by
 refine aL Tryz.func148 ?_;refine e J<|j<|az<|bq (α:=V×V) (λx=>⟨[(0,S al<|r x.1),(1,S al<|r x.2)],[],1,[]⟩) (λx=>nV x.1 x.2=nV m k/\Z (r x.1)<=1099511627776/\Z (r x.2)<=1099511627776) (λx=>x.2) (m,k) ⟨J,u,v⟩ aV ?_;rintro⟨x,y⟩ ⟨hg,lx,i⟩;simp only at hg lx i;refine j<|e J ?_;refine F J (λh=>?_)<|λh=>?_
 .have w:y≠0:=by have h:(Z (r y):Y)>0:=eh;exact oX.1 G
  have a:ao c 186 [S al (r x),S al<|r y] (.t [(ah,[.S al (r<|x/y)]),(ah,[.S al (r<|x%y)])]):=abK x y w lx;have d:nV y (x%y)=nV m k:=by rw[<-hg,zA x y,Nat.gcd_rec y x,zA]
  have f:x%y<y:=fN _ G;have g:Z (r<|x%y)<=1099511627776:=b6 (sZ G) i;refine aE<|az<|j<|R ?_;refine rg 13 J J (λh2=>?_)<|λh2=>?_
  .have h2:Z (r x)<=2:=by have h2:(Z (r x):Y)<=2:=p';omega
   refine z J<|F J (λh3=>?_)<|λh3=>?_
   .have h3:Z (r y)<=2:=by have h3:(Z (r y):Y)<=2:=AR;omega
    have l:x<18446744073709551616:=by have B:=uE (n:=x);have o:=uF h2;rw[show(4294967296:Y)^2=18446744073709551616 from J]at o;omega
    have b:y<18446744073709551616:=by have B:=uE (n:=y);have o:=uF h3;rw[show(4294967296:Y)^2=18446744073709551616 from J]at o;omega
    refine R<|rc J J (Tv x l)<|rc J J (Tv y b)<|rc J J (amO x y l b)<|rc J J (E0 _ ?_)<|z J<|bV ?_
    .by_cases p:x=0
     .rw[p,Nat.gcd_zero_left];exact b
     .exact wg (Nat.gcd_le_left y G) l
    .repeat(first|refine cQ ?_|refine lQ ?_|refine mq ?_)
     refine fg J ?_;rw[<-hg]
   .refine aE<|bH J J a J<|e J<|rt J<|fB<|a4 (y,x%y) ⟨d,i,g⟩ f aV
  .refine z J<|F J (λh3=>by cases h3)<|λ_=>?_;refine aE<|bH J J a J<|e J<|rt J<|fB<|a4 (y,x%y) ⟨d,i,g⟩ f aV
 .have h:Z (r y)=0:=by have:¬(Z (r y):Y)>0:=eh;omega
  have p:y=0:=TC λs=>by have:=oX.2 s;omega
  subst p;refine bt<|aK<|e J<|bY J ?_;rw[<-hg,M5]
def Ny a b(d:Sm a)(f:Sm b):ao c 96 [aZ a,aZ b] (aZ<|im a b):=by refine aL Tryz.func96 ?_;refine e J<|R ?_;refine rc J J (ano _ _ d f)<|rc J J (qA ah _)<|z J<|bY J ?_;rfl
def T2 a b(g:Sm a)(h:Sm b):ao c 209 [aZ a,aZ b] (aZ<|a-b):=by
 refine aL Tryz.func209 ?_;have d:Sm (-b):=by unfold Sm er at h⊢;rwa[Int.natAbs_neg]
 have f:=xK a (-b) g d;rw[<-T3]at f;exact e J<|R<|rc J J (abg b)<|rc J J f<|z J<|c7 J
def anp a(k:0<=a)(l:a<9223372036854775808):ao c 250 [aZ a] (.t [(ah,[.I .i64 a]),(ah,[.B ae])]):=by
 refine aL Tryz.func250 ?_;have d:aA a<18446744073709551616:=G;have m:=Iv d;have f:cj a=ah:=by simp[cj];omega
 refine e J<|j<|e J<|F J (λh=>?_)<|λ_=>aE ?_
 .exfalso;have h:(Z (er a):Y)>2:=eh;unfold er at h;omega
 refine bH J J (Tv (aA a) d) J ?_;refine j<|R<|rg 15 J J (λh=>?_)<|λh=>?_
 .refine z J (F J (λb=>?_)<|λb=>?_)
  .have g: -9223372036854775808<=((aA a:V):Y)/\((aA a:V):Y)<=9223372036854775807:=by omega
   refine e J (bV<|cQ<|fg J ?_) (hp:=g);exact bh (λx=>AV.t [(ah,[C.I .i64 x]),(ah,[C.B ae])]) G
  .exfalso;have i:decide (((aA a:V):Y)<9223372036854775808)=ae:=qB G;rw[cond_true,i]at b;cases b
 .rw[f]at h;cases h
def oz.fs{P}{f}{args}{aU}{T}{xs}(h:oz P f args aU T xs):ao P f args (.c<|.S T xs):=by
 refine⟨h.call,J,λH W vs A g D=>?_⟩;let ⟨e,F,I,⟨v,s,r,t,hle,w,i,l⟩,h2⟩:=h.spec H W vs A g D;refine⟨e,F,I,?_,h2⟩;rcases t with⟨a,B⟩|⟨b,p,C,a,M,N,K,x,y,U,O⟩
 .subst B;refine⟨v,s,r,?_,hle,w,i,l⟩;have a:v= .slice none 0 0:=a;exact⟨none,0,a,ax,ax,.inl J⟩
 .have a:v= .slice (some ⟨b,0,none⟩) (Z xs) p:=a;have m:cE s (λd o=>if d=b then(if o<Z xs*T.n then C[o]? else none)else s d o):=by
   intro d o v g;by_cases e:d=b
   .subst e;have:s d o=none:=O o;rw[this]at g;cases g
   .simp[e,g]
  refine⟨v,λd o=>if d=b then(if o<Z xs*T.n then C[o]? else none)else s d o,r,?_,cE.trans hle m,?_,?_,l⟩
  .refine⟨some ⟨b,0,none⟩,p,a,K,x,?_⟩;by_cases B:xs=[]
   .exact .inl B
   .refine .inr ⟨b,0,J,λk z=>⟨(ay (k*T.n) C).take T.n,c6.length T _ _<|y k z,c6.mono m T _ _<|y k z,λj R=>?_⟩⟩;have L:(k+1)*T.n<=p*T.n:=et _ G;have Q:(k+1)*T.n<=Z xs*T.n:=et _ G;rw[gy,iG]at L Q;simp only[gL,DS]at R;have X:k*T.n+j<Z xs*T.n:=G;simp only[cd,eP,rf,tH,X];exact cO G
  .intro d o q;have:d≠b:=G;simp only[this,bQ];exact w d o q
  .intro d o u g;by_cases e:d=b
   .subst e;simp only[cd]at g;split at g
    .simp[World.cell?,M,g]
    .cases g
   .simp only[e,bQ]at g;exact i d o u g
def anq{P}{n}{x d}{f}{Q}{g:Type}(b:g->St)(i:g->Prop)(a:∀m,i m->TR P n d (b m) Q)(h:(∀m,i m->fA n .normal (b m) (tM P d Q))->TR P n x f (tM P d Q)):TR P n (.seq x d) f Q:=
 j (h λm k=>aK<|a m k)
def nX{P}{n}{x d}{f}{Q}b(a:TR P n d b Q)(h:fA n .normal b (tM P d Q)->TR P n x f (tM P d Q)):TR P n (.seq x d) f Q:=
 j (h<|aK a)
def fJ{n}{b}{d a}{Q}(h:fA n b a Q)(f:Wk d a):fA n b d Q:=QR f h
end Go.El
