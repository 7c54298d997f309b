/- Contracts: sorted insertion, number of bits, bound and scaling of the reference. Own work; no condition. -/
import Derived.Test.YtceihkmakfdcnaaGreatB13
import Derived.Test.YtceihkmakfdcnaaGreatB11
import Derived.Test.YtceihkmakfdcnaaGreatB12
import Derived.Test.YtceihkmakfdcnaaGreatB8
import Derived.Test.YtceihkmakfdcnaaGreatB5
set_option linter.all false
set_option maxHeartbeats 16000000
set_option maxRecDepth 100000
open Bool renaming true->ae,false->ah
open Classical renaming choose->yb
open Go.El renaming rr->e,cS->S,K0->F,ij->U,re->z,dj->j,cI->O,rb->R
open Go.Proofs.Tryz renaming prog->c
open Int renaming toNat->af,natAbs->aA,ofNat->WC
open List renaming length->Z,getD->I,drop->ay,replicate->bl,take->M,mem_range'_1->asR
open Nat renaming testBit->mY,gcd->nV,beq->il
open Option renaming some->ad
open _root_ renaming Nat->V,Int->Y,List->E,Rat->N,Option->au
namespace Go.El
open Go Go.Proofs Go.RowKit
def asa l x(hl:Z l<=1000)(H:Gc 20 x)(h:∀m∈l,Gc 20 m):ao c 142 [S UT l,.a<|av UT x] (S UT<|si ([],0) (λm=>decide<|jt x.1 m.1<0) x l):=by
 refine aL Tryz.func142 ?_;have s:=Wh ([],0) (λm=>decide<|jt x.1 m.1<0) x l;have L:=Wg ([],0) (λm=>decide<|jt x.1 m.1<0) x l;generalize w:je ([],0) (λm=>decide<|jt x.1 m.1<0) x l=T at*;refine e J<|R<|gP UT [] J J (z J<|e J<|j<|e J ?_);refine az<|bq (α:=V) (λi=>⟨[(0,S UT l),(3,.c<|.P 0 0),(5,.c<|.X 1000000),(6,cB (T i).1),(7,O i)],[(0,.box 114 0<|av UT x),(1000000,.vec 114 UT (T i).2)],4,[]⟩) (λi=>i<=Z l) (λi=>Z l-i) 0 (bf _) (by rw[<-w];exact(wk (bM J) ⟨bE J J,bR J,A⟩)) ?_;intro i G;have t:=s i;have Q:(T i).2.length<=1001:=by split at t<;>omega
 refine j<|e J<|F J (λh1=>?_)<|λh1=>?_
 .have h1:i<Z l:=by have h1:(i:Y)<(Z l:Y):=aW h1;omega
  have W:af ((i:Y))=i:=cr i;have B:(I l (af<|(i:Y))<|ET.dG UT)=I l i ([],0):=bh (λr=>I l r ([],0)) W;have K:=h (I l i ([],0)) PH;have C:=ar' (k:=20) D x.1 (I l i ([],0)).1 H.l K.l H.q K.q;have d:=L i;have u:=s<|i+1;rw[<-B]at*;obtain⟨n,f⟩:∃n,n=if(!(T i).1&&decide (jt x.1 (I l (af<|(i:Y))<|ET.dG UT).1<0))=ae then(T i).2++[x]else(T i).2:=⟨_,J⟩
  have v:(T<|i+1).2=n++[I l (af<|(i:Y)) (ET.dG UT)]:=by rw[d,f];split<;>rfl
  have E:Z n<=1001:=by rw[v,iX,rA]at u;split at u<;>omega
  refine aE<|j<|az ?_;refine nX ⟨[(0,S UT l),(3,.c<|.P 0 0),(5,.c<|.X 1000000),(6,cB (T<|i+1).1),(7,O i)],[(0,.box 114 0<|av UT x),(1000000,.vec 114 UT n)],8,[]⟩ ?_<|λo=>R<|rg 17 J J (λb=>?_)<|λb=>?_
  .refine cK (rl UT [_] J J (ra J J J J J J J J J ?_ ?_<|z J ?_) (hp:=aF))
   .show(_+1+(_+1)/4+192)*32<=_;omega
   .show(_+1)*2<=_;omega
   refine bL<|rt J<|a4 (i+1) h1 yn<|Wk.trans (wk (st':=⟨[(0,S UT l),(3,.c<|.P 0 0),(5,.c<|.X 8006000),(6,cB (T<|i+1).1),(7,O ((i+1:V):Y))],[(0,.box 114 0<|av UT x),(8006000,.vec 114 UT (T<|i+1).2)],16,[]⟩) (bM J) ⟨bR J,bE J ?_,A⟩)<|Wk.trans (gW 1000000 8006000 J J J) aV;rw[v]
  .have b:(T i).1=ah:=by
    cases p:(T i).1
    .rfl
    .rw[p]at b;cases b
   refine gO J J J J J C (z J<|F J (λg=>?_)<|λg=>?_) (hp:=aF)
   .have g:decide (jt x.1 (I l (af<|(i:Y))<|ET.dG UT).1<0)=ae:=g;rw[b,g]at f;rw[b,g]at d;have f:n=(T i).2++[x]:=f;refine R (rl UT [x] J J (ra J J J J J J J J J ?_ ?_<|z J ?_))
    .show(_+1+(_+1)/4+192)*32<=_;omega
    .show(_+1)*2<=_;omega
    refine rt J<|fJ o<|Wk.trans (wk (st':=⟨[(0,S UT l),(3,.c<|.P 0 0),(5,.c<|.X 6003000),(6,cB (T<|i+1).1),(7,O i)],[(0,.box 114 0<|av UT x),(6003000,.vec 114 UT n)],8,[]⟩) ⟨sR J,sR J,sR J,sE J ?_,sR J,A⟩ ⟨bR J,bE J ?_,A⟩)<|Wk.trans (gW 1000000 6003000 J J J) aV
    .rw[d];rfl
    .rw[f]
   .have g:decide (jt x.1 (I l (af<|(i:Y))<|ET.dG UT).1<0)=ah:=g;rw[b,g]at f;rw[b,g]at d;have f:n=(T i).2:=f;refine dc (fJ o<|wk ⟨sR J,sR J,sR J,sE J ?_,sR J,A⟩ ⟨bR J,bE J ?_,A⟩)
    .rw[d,b];rfl
    .rw[f]
  .have b:(T i).1=ae:=by
    cases p:(T i).1
    .rw[p]at b;cases b
    .rfl
   rw[b]at f;rw[b]at d;have f:n=(T i).2:=f;refine z J<|F J (λg=>by cases g)<|λg=>dc<|fJ o<|wk ⟨sR J,sR J,sR J,sE J ?_,sR J,A⟩ ⟨bR J,bE J ?_,A⟩
   .rw[d,b];rfl
   .rw[f]
 .have h1:i=Z l:=by have h1:¬(i:Y)<(Z l:Y):=bc h1;omega
  subst h1;refine bt<|aK<|j<|e J<|F J (λb=>?_)<|λb=>?_
  .have b:(T<|Z l).1=ah:=by
    cases p:(T<|Z l).1
    .rfl
    .rw[p]at b;cases b
   refine cK<|rl UT [x] J J (ra J J J J J J J J J ?_ ?_<|z J ?_)
   .show(_+1+(_+1)/4+192)*32<=_;omega
   .show(_+1)*2<=_;omega
   refine aK<|da 6003000 J J J<|e J<|bY J ?_;unfold si;rw[w,b];rfl
  .have b:(T<|Z l).1=ae:=by
    cases p:(T<|Z l).1
    .rw[p]at b;cases b
    .rfl
   refine aE<|da 1000000 J J J<|e J<|bY J ?_;unfold si;rw[w,b];rfl
def asb a n(H:n<=1000)(L:Z a<=13)(s:∀i,aG n (I a i 0)):ao c 176 [S .z a] (aZ ((gR a:V):Y)):=by
 refine aL Tryz.func176 ?_;have t:∀i,i<=Z a->aG (n+1) ((lZ a i:V):Y):=λi u=>acE a s G
 have p:∀b,b<=12->aG (n+2) ((lZ a (Z a)*2^b:V):Y):=λb v=>by have f:=t (Z a)<|aT _;have m:2^b<=2^12:=eZ D v;unfold aG at*;rw[o9]at*;have d:lZ a (Z a)*2^b<=lZ a (Z a)*2^12:=jk _ m;rw[fQ];generalize (4294967296:V)^(n+1)=M at*;omega
 refine e J<|bH J J (jn 0 D D) J<|j<|e J ?_;refine az<|bq (α:=V) (λi=>⟨[(0,S .z a),(2,.c<|.P 0 0),(3,.c<|.P 1001000 0),(4,O i)],[(0,.box 42 0 [.B ah,.V<|.slice none 0 0]),(1001000,.box 42 0<|av .z ((lZ a i:V):Y))],3,[]⟩) (λi=>i<=Z a) (λi=>Z a-i) 0 (bf _) (wk (bM J) ⟨bE J J,bE J J,A⟩) ?_;intro i u;refine j<|e J<|F J (λh=>?_)<|λh=>?_
 .have h:i<Z a:=by have h:(i:Y)<(Z a:Y):=aW h;omega
  have o:af ((i:Y))=i:=cr i;have w:=B5<|I a (af<|(i:Y)) 0;have f:=((t i u).sm G);have m:=(s<|af<|(i:Y)).sm (by omega:n<=1099511627776);have g:=T2 _ _ f m;have k:=xK _ _ f m;have l:((lZ a (i+1):V):Y)=((lZ a i:V):Y)+(aA (I a i 0):Y):=by rw[lZ,xM]
  refine aE<|j<|az ?_;refine R<|rc J J w (z J<|F J (λd=>?_)<|λd=>?_) (hp:=aF)
  .have d:eV (I a (af<|(i:Y)) 0)<0:=aW d;rw[OR,o]at d;refine cK<|rc J J g (z J<|bL<|rt J (hp:=aF)<|a4 (i+1) h qy<|wk (bM J) ⟨bE J J,bE J ?_,A⟩) (hp:=aF);rw[l,(G:(aA (I a i 0):Y)= -(I a i 0)),o];rfl
  .have d:¬eV (I a (af<|(i:Y)) 0)<0:=bc d;rw[OR,o]at d;refine cK<|rc J J k (z J<|bL<|rt J (hp:=aF)<|a4 (i+1) h qy<|wk (bM J) ⟨bE J J,bE J ?_,A⟩) (hp:=aF);rw[l,(G:(aA (I a i 0):Y)=I a i 0),o];rfl
 .have h:i=Z a:=by have h:¬(i:Y)<(Z a:Y):=bc h;omega
  subst h;refine bt<|aK<|j<|e J ?_;refine az<|bq (α:=V) (λb=>⟨[(0,S .z a),(2,.c<|.P 0 0),(3,.c<|.P 1001000 0),(5,O ((b+1:V):Y))],[(0,.box 42 0 [.B ah,.V<|.slice none 0 0]),(1001000,.box 42 0<|av .z ((lZ a (Z a)*2^b:V):Y))],8,[]⟩) (λb=>b<=Z a-1) (λb=>Z a-b) 0 (bf _) (wk (bM J) ⟨bE J J,bE J ?_,A⟩) ?_
  .rw[oC,oW]
  intro b v;refine j<|e J<|F J (λh=>?_)<|λh=>?_
  .have h:b+1<Z a:=by have h:((b+1:V):Y)<(Z a:Y):=aW h;omega
   have f:=((p b G).sm G);refine aE<|j<|az<|cK<|rc J J (xK _ _ f f)<|z J<|bL<|rt J (hp:=aF)<|a4 (b+1) G (G:Z a-(b+1)<Z a-b)<|wk (bM J) ⟨bE J J,bE J ?_,A⟩;rw[fQ,<-xM,<-Nat.two_mul,hJ 2,wh];rfl
  .have h:¬((b+1:V):Y)<(Z a:Y):=bc h;have x:b=Z a-1:=G;subst x;exact bt<|aK<|e J<|bY J J
def sk(f:E Y)(k:V):Y:=if k=Z f-1 then 1 else I f k 0*I f (Z f-1) 0^(Z f-2-k)
def PJ(f:E Y):E Y:=(List.range<|Z f).map<|sk f
def asc f(x:1<=Z f)(B:Z f<=12)(s:∀i,aG 210 (I f i 0)):ao c 170 [S .z f] (S .z<|PJ f):=by
 refine aL Tryz.func170 ?_;obtain⟨n,v⟩:∃n,Z f=n+1:=⟨Z f-1,G⟩;have g:pB (sk f) 0 (Z f) (Z f)=PJ f:=aqZ _ _ _;have l:∀k,k<=12->aG 2600 (I f n 0^k):=λk w=>((s n).pow k).le (by have:=jk 210 w;omega)
 refine e J<|e J<|R<|rm .z (Z f) J J J J J J MM ?_ ?_ ?_<|z J ?_
 .show(Z f:Y)-1+1=(Z f:Y);omega
 .show Z f*32<=_;omega
 .show Z f*2<=_;omega
 refine R<|rc J J (jn 1 D D)<|ux (T:= .z) (1:Y) J J J J J ?_ (z J ?_) (hp:=?_)
 .rw[fY];omega
 .refine bH J J (jn 1 D D) J<|j<|e J ?_;refine az (bq (α:=V) (λa=>⟨[(0,S .z f),(3,O n),(4,.c<|.X 2002000),(5,.c<|.P 4001000 0),(6,O<|(n:Y)-1-a)],[(2002000,.vec 42 .z<|pB (sk f) 0 (Z f)<|a+1),(4001000,.box 42 0<|av .z<|I f n 0^a)],8,[]⟩) (λa=>a<=n) (λa=>n-a) 0 (bf _) (wk ⟨sR J,sE J ?_,sR J,sR J,sE J ?_,A⟩ ⟨bE J ?_,bE J ?_,A⟩) ?_)
  .exact bh O (G:(Z f:Y)-1=n)
  .exact bh O (G:(Z f:Y)-1-1=(n:Y)-1-(0:V))
  .refine bh (aD.vec 42 .z) ?_;rw[aqY (sk f) 0 (Z f),(G:af ((Z f:Y)-1)=Z f-1-0),<-aff (sk f) 0 (G:0<Z f)];congr 1;show(1:Y)=sk f (Z f-1-0);rw[sk,q G]
  .rw[o8];rfl
  intro a C;refine j<|e J<|F J (λb=>?_)<|λb=>?_
  .have b:a<n:=by have b:(n:Y)-1-(a:Y)>=0:=aW b;omega
   have u:af ((n:Y)-1-(a:Y))=Z f-1-(a+1):=G;have d:=l a G;have m:=kV (I f (af<|(n:Y)-1-(a:Y)) 0) (I f n 0^a) ((s _).sm G)<|d.sm G;have t:I f (af<|(n:Y)-1-(a:Y)) 0*I f n 0^a=sk f (Z f-1-(a+1)):=by rw[u,sk,y G,(G:Z f-1=n),(G:Z f-2-(n-(a+1))=a)]
   rw[t]at m;have o:=kV (I f n 0^a) (I f n 0) (d.sm G)<|(s n).sm G;rw[<-fH]at o;have H:af ((n:Y))=n:=cr n;have p:=aqX (sk f) 0 (Z f)<|a+1;refine aE<|j<|az<|R ?_;refine rc J J m ?_ (hp:=aF);refine ux (T:= .z) (sk f<|Z f-1-(a+1)) J J J J J ?_ (z J ?_) (hp:=?_)
   .rw[p];omega
   .clear d l s;refine cK (rc J J o (z J<|bL<|rt J<|a4 (a+1) b (G:n-(a+1)<n-a)<|wk ⟨sR J,sR J,sR J,sR J,sE J ?_,A⟩ ⟨bE J ?_,bE J J,A⟩) (hp:=aF))
    .exact bh O G
    .rw[u,aff (sk f) 0 (G:a+1<Z f)]
   .simp only[Pr.an,Pr.h,num,fX,true_and,and_true];rw[p];omega
  .have b:a=n:=by have b:¬(n:Y)-1-(a:Y)>=0:=bc b;omega
   subst b;rw[<-v,g];exact bt<|aK<|da 2002000 J J J<|e J<|c7 J
 .simp only[Pr.an,Pr.h,num,fX,true_and,and_true];rw[fY];omega
def asd a g{i}(h:i<Z g):ay i (kE a g)=Rat.divInt (I g i 0) ((a:Y)^(Z g-1-i))::ay (i+1) (kE a g):=by have b:=Py a g;rw[rJ G];have:=V1 a g h;rw[aN,cO G]at this;rw[<-this];rfl
def ase g(b:V)(x:0<b)(B:Z g<=12)(t:∀i,aG 210 (I g i 0))(l:aG 210 (b:Y)):ao c 180 [S .z g,aZ b] (S .q<|kE b g):=by
 refine aL Tryz.func180 ?_;have f:∀k,k<=12->Sm ((b:Y)^k):=λk u=>(l.pow k).sm (by have:=jk 210 u;omega)
 have m:∀k,(b:Y)^k≠0:=λk=>Int.ne_of_gt<|nT G
 have n:∀i,Sm (I g i 0):=λi=>(t i).sm G
 have o:Sm (b:Y):=l.sm G;clear t l;have v:=Py b g;refine e J<|R<|rl .q [] J J (z J<|bH J J (jn 1 D D) J<|j<|e J ?_);refine az<|bq (α:=V) (λa=>⟨[(0,S .z g),(3,.c<|.P 0 0),(5,S .q<|ay (Z g-a)<|kE b g),(6,.c<|.P 2001000 0),(7,O<|(Z g:Y)-1-a)],[(0,.box 42 0<|av .z (b:Y)),(2001000,.box 42 0<|av .z<|(b:Y)^a)],4,[]⟩) (λa=>a<=Z g) (λa=>Z g-a) 0 (bf _) (wk ⟨sR J,sR J,sE J ?_,sR J,sE J ?_,A⟩ ⟨bE J J,bE J ?_,A⟩) ?_
 .rw[BW,tK G]
 .exact bh O (G:(Z g:Y)-1=(Z g:Y)-1-(0:V))
 .rw[o8];rfl
 intro a C;refine j<|e J<|F J (λd=>?_)<|λd=>?_
 .have d:a<Z g:=by have d:(Z g:Y)-1-(a:Y)>=0:=aW d;omega
  have w:af ((Z g:Y)-1-(a:Y))=Z g-1-a:=G;have p:=Vs (I g (af<|(Z g:Y)-1-(a:Y)) 0) ((b:Y)^a) (m a) (n _)<|f a G;have s:=kV ((b:Y)^a) b (f a G) o;have h:=asd b g (i:=Z g-(a+1)) G;rw[(G:Z g-1-(Z g-(a+1))=a),(G:Z g-(a+1)+1=Z g-a)]at h;refine aE<|j<|az ?_;refine R<|rc J J p (z J ?_) (hp:=aF);refine R<|gP .q [_] J J (ra J J J J J J J J J ?_ ?_<|z J<|da 6003000 J J J ?_)
  .show(1+Z (ay (Z g-a)<|kE b g)+(1+Z (ay (Z g-a)<|kE b g))/4+192)*64<=_;rw[DS];omega
  .show(1+Z (ay (Z g-a)<|kE b g))*4<=_;rw[DS];omega
  refine cK<|rc J J s<|z J<|bL<|rt J (hp:=aF)<|a4 (a+1) d (G:Z g-(a+1)<Z g-a)<|wk ⟨sR J,sR J,sE J ?_,sR J,sE J ?_,A⟩ ⟨bR J,bE J ?_,A⟩
  .rw[h,w,(G:Z g-1-a=Z g-(a+1))];rfl
  .exact bh O (G:(Z g:Y)-1-a-1=(Z g:Y)-1-(a+1:V))
  .rw[fH];rfl
 .have d:a=Z g:=by have d:¬(Z g:Y)-1-(a:Y)>=0:=bc d;omega
  subst d;rw[kg,qh];exact bt<|aK<|e J<|c7 J
def agl(b:V->Bool):∀n,b8 b (n+1)=(if b 0 then 1 else 0)+b8 (λi=>b<|i+1) n
 |0=>by rw[b8,b8,b8];omega
 |n+1=>by rw[b8,agl b n,b8];omega
def asf k n:b8 k.testBit (n+1)=k%2+b8 (k/2).testBit n:=by
 rw[agl];congr 1
 .rw[Nat.testBit_zero];rcases Nat.mod_two_eq_zero_or_one k with e|e<;>rw[e]<;>rfl
 .exact JA λi _=>by rw[Nat.testBit_succ]
def agm(b:V->Bool):∀n,b8 b n<=n
 |0=>aT _
 |n+1=>by have:=agm b n;rw[b8];split<;>omega
def agn n:b8 (0:V).testBit n=0:=by
 induction n with
 |zero=>rfl
 |succ n a=>rw[b8,a,Nat.zero_testBit];rfl
def ash(k n:V)(f:k<2^n)(p:n<=60):ao c 210 [O k] (O<|b8 k.testBit n):=by
 refine aL Tryz.func210 ?_;have s:k<2^60:=fO f<|eZ D p;refine e J<|e J<|j<|e J ?_;refine az<|bq (α:=V×V×V) (λx=>⟨[(3,O x.1),(4,O x.2.1)],[],4,[]⟩) (λx=>x.2.1<2^x.2.2/\x.1+b8 x.2.1.testBit x.2.2=b8 k.testBit n/\x.2.1<=k) (λx=>x.2.1) (0,k,n) ⟨f,eP _,aT _⟩ aV ?_;rintro⟨o,m,g⟩ ⟨d,b,t⟩;simp only at d b t;have u:=agm k.testBit n;refine j<|e J<|F J (λa=>?_)<|λa=>?_
 .have a:0<m:=by have a:(m:Y)>0:=aW a;omega
  obtain⟨i,rfl⟩:∃i,g=i+1:=by
   cases g with
   |zero=>rw[oC]at d;omega
   |succ i=>exact⟨i,J⟩
  rw[asf]at b;rw[fQ]at d;have l:(m:Y).tmod 2=((m%2:V):Y):=mI m 2;have v:(m:Y).tdiv 2=((m/2:V):Y):=(Int.ofNat_tdiv m 2).symm;refine aE<|j<|az<|rt J (bL<|rt J<|a4 (o+m%2,m/2,i) ⟨?_,?_,?_⟩ ?_<|wk ⟨sE J ?_,sE J ?_,A⟩ A) (hp:=?_)
  .show m/2<2^i;omega
  .show o+m%2+b8 (m/2).testBit i=_;omega
  .show m/2<=k;omega
  .show m/2<m;omega
  .show AV.c (C.I .i64<|(o:Y)+(m:Y).tmod 2)=_;rw[l];rfl
  .show AV.c (C.I .i64<|(m:Y).tdiv 2)=_;rw[v]
  .show(_:Pr).h;simp only[Pr.an,Pr.h,num,fX,true_and,and_true];rw[l];omega
 .have a:m=0:=by have a:¬(m:Y)>0:=bc a;omega
  subst a;rw[agn,jv]at b;subst b;exact bt<|aK<|e J<|c7 J
def k9(a g:E Y):E Y:=bl (Z a-Z g) 0++g.map (I a (Z a-1) 0*·)
def C4(g:E Y)(x:E Y×E Y):E Y×E Y:=(aM<|k8 x.1<|k9 x.1 g,x.2.set (Z x.1-Z g)<|I x.1 (Z x.1-1) 0)
def wO(g:E Y):V->E Y×E Y->E Y×E Y
 |0,x=>x
 |n+1,x=>if Z x.1<Z g then x else wO g n (C4 g x)
structure wP(f g:E Y)(u v:V)(x:E Y×E Y):Prop where
 can:can x.1
 eq:Rx.zx f=Rx.zx x.2*Rx.zx g+Rx.zx x.1
 ql:x.2.length=f.length+1-g.length
 fl:x.1.length<=f.length
 z:∀i,i+g.length<=x.1.length->x.2.getD i 0=0
 B:∀i,aG (u+(f.length-x.1.length)*(v+1)) (x.1.getD i 0)
def PK{a g}(h:Z g<=Z a) i:I (k9 a g) i 0=if Z a-Z g<=i then I a (Z a-1) 0*I g (i-(Z a-Z g)) 0 else 0:=by
 unfold k9;by_cases c:Z a-Z g<=i
 .rw[q c,aN,DB (by simpa using c),fY,<-aN];exact getD_map (f:=(I a (Z a-1) 0*·)) (gY _) g _
 .rw[y c,aN,DA bX,lY,q G];rfl
def asi{a g}(h:Z g<=Z a):Z (k9 a g)=Z a:=by simp[k9];omega
def asj{a g}(h:Z g<=Z a):Rx.zx (k9 a g)=Rx.K ((I a (Z a-1) 0:Y):N)*(Rx.X (Z a-Z g)*Rx.zx g):=Rx.ext λi=>by
 rw[Rx.k4,PK h,Rx.dZ,Rx.mL];split
 .rw[Rx.k4,fT]
 .rw[dY];rfl
def asl a:Rx.zx (aM a)=Rx.zx a:=Rx.ext λi=>by rw[Rx.k4,Rx.k4];congr 1;rw[<-cG,qK,cG]
def asm a b:Rx.zx (k8 a b)=Rx.zx a-Rx.zx b:=Rx.ext λi=>by rw[Rx.uO,Rx.k4,Rx.k4,Rx.k4,Ge,Og]
section
variable{f g:E Y}{u v:V}
def wP.next(l:aH g)(o:∀i,aG v (I g i 0)){x}(a:wP f g u v x)(h:¬Z x.1<Z g):wP f g u v (C4 g x)/\(C4 g x).1.length<Z x.1/\∀i,aG (u+(Z f-Z x.1)*(v+1)+v+1) (I (k8 x.1<|k9 x.1 g) i 0):=by
 have t:=cR.2 l.1;have b:Z g<=Z x.1:=G;have m:∀i,aG (u+(Z f-Z x.1)*(v+1)+v+1) (I (k8 x.1<|k9 x.1 g) i 0):=λi=>by
  rw[Ge,PK b];split
  .exact((a.B i).le G).sub<|(a.B _).mul<|o _
  .rw[B3];exact(a.B i).le G
 have d:∀i,Z x.1-1<=i->I (k8 x.1<|k9 x.1 g) i 0=0:=λi n=>by
  rw[Ge,PK b,q G];rcases Nat.lt_or_eq_of_le n with e|e
  .rw[fh x.1 G,fh g G,gY];rfl
  .rw[<-e,(G:Z x.1-1-(Z x.1-Z g)=Z g-1),l.2,ni,Int.sub_self]
 have k:(C4 g x).1.length<Z x.1:=by
  show Z (aM<|k8 x.1<|k9 x.1 g)<_;rcases Io (k8 x.1<|k9 x.1 g)with e|e
  .rw[e];simp;omega
  .refine Nat.lt_of_not_le λC=>e ?_
   rw[<-cG,qK,cG];exact d _ G
 have p:=a.ql;have s:=a.fl;refine⟨⟨Io _,?_,by show(x.2.set _ _).length=_;rw[nG];exact a.ql,G,λi n=>?_,λi=>?_⟩,k,m⟩
 .show Rx.zx f=Rx.zx (x.2.set (Z x.1-Z g)<|I x.1 (Z x.1-1) 0)*Rx.zx g+Rx.zx (aM<|k8 x.1<|k9 x.1 g);rw[apU _ G (a.z _ G),asl,asm,asj b,a.eq,Rx.add_mul,Rx.mul_assoc (Rx.K _)<|Rx.X _];generalize Rx.K ((I x.1 (Z x.1-1) 0:Y):N)*(Rx.X (Z x.1-Z g)*Rx.zx g)=w;rw[Rx.add_assoc,Rx.add_comm w,Rx.lF]
 .show(x.2.set (Z x.1-Z g) _).getD i 0=0;rw[uH _ _ _ _ G,y G];exact a.z i G
 .show aG _ (I (aM<|k8 x.1<|k9 x.1 g) i 0);rw[<-cG,qK,cG];refine(m i).le ?_;have:(Z f-Z x.1+1)*(v+1)<=(Z f-(C4 g x).1.length)*(v+1):=et _ G;rw[gy,iG]at this;omega
def ago(b:aH g)(d:∀i,aG v (I g i 0)):∀(n:V)(x:E Y×E Y),wP f g u v x->Z x.1<n->wP f g u v (wO g n x)/\(wO g n x).1.length<Z g
 |0,x,_,h=>by omega
 |n+1,x,k,h=>by
  rw[wO];split
  .rename_i a;exact⟨k,a⟩
  .rename_i a;let ⟨l,m,_⟩:=k.next b d a;exact ago b d n _ l G
open Classical in
noncomputable def vk(f g:E Y):E Y:=if Rx.zx g∣Rx.zx f then mQ f g else[]
def wP.start(b:Go.El.can f)(d:∀i,aG u (I f i 0)):wP f g u v (f,bl (Z f+1-Z g) 0):=by
 have a:∀m i,I (bl m (0:Y)) i 0=0:=λm i=>by rw[aN,lY];split<;>rfl
 refine⟨b,?_,fY,aT _,λi _=>a _ i,λi=>(d i).le G⟩;rw[show Rx.zx (bl (Z f+1-Z g) (0:Y))=0 from Rx.ext λi=>by rw[Rx.k4,a];rfl,Rx.zero_mul,Rx.zero_add]
def asn(n:aH f)(m:aH g)(H:∀i,aG u (I f i 0))(L:∀i,aG v (I g i 0)):(if(wO g (Z f+1) (f,bl (Z f+1-Z g) 0)).1=[]then(wO g (Z f+1) (f,bl (Z f+1-Z g) 0)).2 else[])=vk f g:=by
 let ⟨k,hl⟩:=ago (f:=f) (u:=u) m L (Z f+1) _ (wP.start n.can H)<|dJ _;generalize wO g (Z f+1) (f,bl (Z f+1-Z g) 0)=x at*;have b:=Rx.n9 m;unfold vk;by_cases e:x.1=[]
 .rw[q e];have C:Rx.zx x.1=0:=by rw[e];exact Rx.pj
  have a:=k.eq;rw[C,Rx.add_zero]at a;rw[q ⟨_,a⟩];have d:Rx.Mo (Rx.zx x.2):=by have:=Rx.n9 n;rw[a]at this;exact this.zZ b
  have K:=k.ql;have o:=Rx.ef d.ne b.ne;rw[<-a,Rx.k5 n.can,Rx.k5 m.can]at o;have l:aH x.2:=by have P:Z x.2=Rx.sz (Rx.zx x.2):=G;have p:Rx.zx x.2 (Rx.sz (Rx.zx x.2)-1)=1:=d;have X:=Rx.fo d.ne;rw[<-P,Rx.k4]at p;exact⟨λe=>by have c:Z x.2=0:=bh Z e;omega,x9.1 (p.trans Rat.intCast_one.symm)⟩
  have h:∃s,aH s/\Rx.zx f=Rx.zx g*Rx.zx s:=⟨_,l,by rw[Rx.mul_comm];exact a⟩;have Q:mQ f g=yb h:=by unfold mQ;rw[dif_pos h]
  let ⟨c1,t⟩:=wu h;rw[<-Q]at c1 t;exact(Rx.aph c1.can l.can<|Rx.zY b.ne<|by rw[<-a,t,Rx.mul_comm]).symm
 .rw[y e,y λw=>e ?_];have a:=k.eq;rw[a]at w;have T:=Rx.wo w<|Rx.dvd_mul_left _ _;have W:=Rx.s8 T (by rw[Rx.k5 m.can,Rx.k5 k.can];exact hl);have B:=Rx.k5 k.can;rw[W,Rx.kv]at B;exact gK B.symm
def aso t(h:t<=1000):(Z (bl t (0:Y))+1+(Z (bl t (0:Y))+1)/4+192)*32<=281474976710656:=by rw[fY];omega
def asp t(h:t<=1000):(Z (bl t (0:Y))+1)*2<=140737488355328:=by rw[fY];omega
def agp(a:E Y)(h:Z a<=200):(Z a+1+(Z a+1)/4+192)*32<=281474976710656:=G
def agq(a:E Y)(h:Z a<=200):(Z a+1)*2<=140737488355328:=G
def asq(hf:aH f)(hg:aH g)(hu:∀i,aG u (I f i 0))(hv:∀i,aG v (I g i 0))(lf:Z f<=100)(lg:Z g<=100)(u9:u<=1000)(v9:v<=100):ao c 213 [S .z f,S .z g] (S .z<|vk f g):=by
 rw[<-asn hf hg hu hv];have I0:=wP.start (u:=u) (v:=v) (g:=g) hf.can hu;have pg:=cR.2 hg.1;have pf:=cR.2 hf.1;generalize hm:Z f+1-Z g=m at*;have hv9:(v+1)*100<=10100:=G;generalize hX:wO g (Z f+1) (f,bl m 0)=X;refine DQ Tryz.func213 J J J J J D ?_;refine e J<|R<|rm .z m J J J J J J MM ?_ ?_ ?_<|z J<|j<|e J ?_
 .rw[q J];split<;>omega
 .show m*32<=_;omega
 .show m*2<=_;omega
 refine az<|bq (α:=V) (λi=>⟨[(0,S .z f),(1,S .z g),(5,.c<|.X 1007000),(6,O i)],[(1007000,.vec 42 .z<|bl m 0)],3,[]⟩) (λi=>i<=m) (λi=>m-i) 0 (bf _) aV ?_;intro i hi;refine j<|e J<|F J (λd=>?_)<|λd=>?_
 .have d:i<m:=by have d:(i:Y)<(Z (bl m (0:Y)):Y):=aW d;rw[fY]at d;omega
  refine dc<|aK<|j<|az<|cK<|rc J J (jn 0 D D)<|ux (T:= .z) (0:Y) J J J J J ?_ (z J<|fB<|aK<|rt J (hp:=aF)<|a4 (i+1) d (G:m-(i+1)<m-i)<|wk (bM J) ⟨bE J ?_,A⟩) (hp:=?_)
  .show af ((i:Y))<_;rw[fY];omega
  .refine bh (aD.vec 42 .z)<|tQ ax λk l p=>?_;rw[List.getElem_set];split<;>simp
  .simp only[Pr.an,Pr.h,num,fX,true_and,and_true];rw[fY];omega
 have d:i=m:=by have d:¬(i:Y)<(Z (bl m (0:Y)):Y):=bc d;rw[fY]at d;omega
 subst d;refine nL<|rk<|ov<|nM<|aK ?_;refine j<|az<|bq (α:=V×E Y×E Y) (λs=>⟨[(0,S .z s.2.1),(1,S .z g),(5,.c<|.X 1007000)],[(1007000,.vec 42 .z s.2.2)],8,[]⟩) (λs=>wP f g u v s.2/\Z s.2.1<s.1/\wO g s.1 s.2=X) (λs=>s.1) (Z f+1,f,bl i 0) ⟨I0,dJ _,hX⟩ aV ?_;rintro⟨n,a,Q⟩ ⟨H,hn,x⟩;simp only at H hn x;have hFl:Z a<=Z f:=H.fl;obtain⟨n,rfl⟩:∃n',n=n'+1:=⟨n-1,G⟩;rw[wO]at x;refine j<|e J<|F J (λd=>?_)<|λd=>?_
 .have d:Z g<=Z a:=by have d:(Z a:Y)>=(Z g:Y):=aW d;omega
  rw[y (G:¬Z a<Z g)]at x;obtain⟨n1,N,n3⟩:=H.next hg hv (G:¬Z a<Z g);have K:=H.B;have Nv:Z Q=Z f+1-Z g:=H.ql;obtain⟨k,hk⟩:∃k,Z a=Z g+k:=⟨Z a-Z g,G⟩;have w:∀b,aG 12000 (I a b 0):=λb=>(K b).le (by have:=et (v+1) (G:Z f-Z a<=100);show u+(Z f-Z a)*(v+1)<=_;omega)
  have U:∀b,aG 13000 (I (k8 a<|k9 a g) b 0):=λb=>(n3 b).le (by have:=et (v+1) (G:Z f-Z a<=100);show u+(Z f-Z a)*(v+1)+v+1<=_;omega)
  have L:∀b,aG 12200 (I (k9 a g) b 0):=λb=>by
   rw[PK d];split
   .exact((w _).mul<|hv _).le G
   .exact aG.zero _
  have hTl:=asi d;have Wl:=af9 a (k9 a g) 13000 D G G (λb=>(w b).le D)<|λb=>(L b).le D;have hc:I a (af<|(Z a:Y)-1) 0=I a (Z a-1) 0:=by rw[(G:af ((Z a:Y)-1)=Z a-1)]
  have hT:k9 a g=bl k 0++g.map (I a (Z a-1) 0*·):=by unfold k9;rw[(G:Z a-Z g=k)]
  have hN:C4 g (a,Q)=(aM<|k8 a<|k9 a g,Q.set k<|I a (Z a-1) 0):=by unfold C4;show(aM<|k8 a<|k9 a g,Q.set (Z a-Z g)<|I a (Z a-1) 0)=_;rw[(G:Z a-Z g=k)]
  have hcS:=(w<|Z a-1).sm D;have hgS:∀b,Sm (I g b 0):=λb=>(hv b).sm G
  rw[hN]at n1 N x;clear w U L K n3;generalize hW:aM (k8 a<|k9 a g)=W at*;generalize hTq:k9 a g=T at*;generalize hcc:I a (Z a-1) 0=o at*;refine dc<|aK<|az<|e J<|e J ?_ (hp:=aF);rw[hc];clear hc hcc hX I0 hi hTq hW;refine R<|ux (T:= .z) o J J J J J ?_ (z J ?_) (hp:=?_)
  .show af ((Z a:Y)-(Z g:Y))<Z Q;omega
  .refine R<|gP .z [] J J (z J<|j<|e J ?_);rw[(G:af ((Z a:Y)-(Z g:Y))=k),(G:(Z a:Y)-(Z g:Y)=(k:Y))];refine az<|bq (α:=V) (λt=>⟨[(0,S .z a),(1,S .z g),(5,.c<|.X 1007000),(7,O k),(8,.c<|.P 10006000 0),(9,.c<|.X 12000000),(10,O t)],[(10006000,.box 42 0<|av .z o),(12000000,.vec 42 .z<|bl t 0),(1007000,.vec 42 .z<|Q.set k o)],14,[]⟩) (λt=>t<=k) (λt=>k-t) 0 (bf _) (wk (bM J) ⟨bE J J,bR J,bR J,A⟩) ?_;intro t ht;have C:t<=1000:=G;refine j (e J<|F J (λl=>?_)<|λl=>?_)
   .have l:t<k:=by have l:(t:Y)<(k:Y):=aW l;omega
    refine dc<|aK<|j<|az<|cK<|rc J J (jn 0 D D)<|rl .z [(0:Y)] J J (ra J J J J J J J J J ?_ ?_<|z J ?_)
    .exact aso t C
    .exact asp t C
    refine fB<|aK<|rt J<|a4 (t+1) l (G:k-(t+1)<k-t)<|Wk.trans (wk (st':=⟨[(0,S .z a),(1,S .z g),(5,.c<|.X 1007000),(7,O k),(8,.c<|.P 10006000 0),(9,.c<|.X 15003000),(10,O ((t+1:V):Y))],[(10006000,.box 42 0<|av .z o),(15003000,.vec 42 .z<|bl (t+1) 0),(1007000,.vec 42 .z<|Q.set k o)],24,[]⟩) (bM J) ⟨bR J,bE J ?_,bR J,A⟩)<|Wk.trans (gW 12000000 15003000 J J J) aV;rw[List.replicate_succ']
   have l:t=k:=by have l:¬(t:Y)<(k:Y):=bc l;omega
   subst l;refine nL<|rk<|ov<|nM<|aK<|j<|e J ?_;have r:(g.map (o*·)).length=Z g:=cT _;refine az<|bq (α:=V) (λb=>⟨[(0,S .z a),(1,S .z g),(5,.c<|.X 1007000),(8,.c<|.P 10006000 0),(9,.c<|.X 12000000),(11,O b)],[(10006000,.box 42 0<|av .z o),(12000000,.vec 42 .z<|bl t 0++(g.map (o*·)).take b),(1007000,.vec 42 .z<|Q.set t o)],20,[]⟩) (λb=>b<=Z g) (λb=>Z g-b) 0 (bf _) (wk (bM J) ⟨bR J,bE J ?_,bR J,A⟩) ?_
   .rw[Fl,ik]
   intro b hj;have M:(bl t (0:Y)++(g.map (o*·)).take b).length<=200:=by rw[iX,fY,gL,r];omega
   refine j<|e J<|F J (λp=>?_)<|λp=>?_
   .have p:b<Z g:=by have p:(b:Y)<(Z g:Y):=aW p;omega
    have ej:af ((b:Y))=b:=cr b;have ry:=kV o (I g (af<|(b:Y)) 0) hcS<|hgS _;have hV1:bl t (0:Y)++(g.map (o*·)).take (b+1)=bl t (0:Y)++(g.map (o*·)).take b++[o*I g (af<|(b:Y)) 0]:=by rw[rR (g.map (o*·)) b G,getD_map (f:=(o*·))<|gY o,ej,lP]
    clear r C;generalize bl t (0:Y)++(g.map (o*·)).take b=C3 at*;refine dc<|aK<|j<|az<|cK<|rc J J ry (rl .z [_] J J (ra J J J J J J J J J ?_ ?_<|z J ?_)) (hp:=aF)
    .exact agp C3 M
    .exact agq C3 M
    refine fB<|aK<|rt J<|a4 (b+1) p (G:Z g-(b+1)<Z g-b)<|Wk.trans (wk (st':=⟨[(0,S .z a),(1,S .z g),(5,.c<|.X 1007000),(8,.c<|.P 10006000 0),(9,.c<|.X 21008000),(11,O ((b+1:V):Y))],[(10006000,.box 42 0<|av .z o),(21008000,.vec 42 .z<|bl t 0++(g.map (o*·)).take (b+1)),(1007000,.vec 42 .z<|Q.set t o)],32,[]⟩) (bM J) ⟨bR J,bE J ?_,bR J,A⟩)<|Wk.trans (gW 12000000 21008000 J J J) aV;rw[hV1]
   .have p:b=Z g:=by have p:¬(b:Y)<(Z g:Y):=bc p;omega
    subst p;rw[iY G,<-hT];refine nL<|rk<|ov<|nM<|aK<|da 12000000 J J J<|cK<|rc J J Wl<|z J<|fB<|a4 (n,W,Q.set t o) ⟨n1,?_,x⟩ (dJ n) aV;show Z W<n;have N:Z W<Z a:=N;omega
  .simp only[Pr.an,Pr.h,num,fX,true_and,and_true];omega
 .have d:Z a<Z g:=by have d:¬(Z a:Y)>=(Z g:Y):=bc d;omega
  rw[q d]at x;subst x;refine nL<|rk<|ov<|nM<|aK<|j<|e J<|F J (λl=>?_)<|λl=>?_
  .have l:a≠[]:=λcz=>by have l:(Z a:Y)>0:=aW l;rw[cz]at l;exact absurd l D
   rw[y l];exact e J<|bV<|cQ<|iJ cv J<|bg.nil .z
  .have l:a=[]:=gK (by have l:¬(Z a:Y)>0:=bc l;omega);rw[q l];exact dc<|aK<|da 1007000 J J J<|e J<|bV<|iJ cv J<|bg.refl _
end
open Fx
def asv{m}{a}{l}{b}(g:b∈mc (Z l))(h:Rx.zx (gS m l b.testBit)∣Rx.zx a)(i:∀T∈mc (Z l),b8 T.testBit (Z l)<b8 b.testBit (Z l)\/(b8 T.testBit (Z l)=b8 b.testBit (Z l)/\T<b)->¬Rx.zx (gS m l T.testBit)∣Rx.zx a):tj m a l=ad b:=by
 classical
 let ⟨us,ws,e⟩:=Ql g;unfold tj;refine List.find?_eq_some_iff_append.2 ⟨qB h,us,ws,e,λT d=>?_⟩;have f:=ap3<|Z l;rw[e]at f;have k:=(yg.1 f).2.2 T d b ax;rw[G3,decide_eq_false_iff_not];exact i T (by rw[e];simp[d]) k
def asw{m}{a}{l}(b:∀T∈mc (Z l),¬Rx.zx (gS m l T.testBit)∣Rx.zx a):tj m a l=none:=by
 classical
 unfold tj;refine List.find?_eq_none.2 λT d=>?_
 rw[decide_eq_true_iff];exact b T d
def jY(m:Y)(l:E (E Y))(b:V->Bool)(i:V):E Y:=(kC m [1] (bD b 0<|M i l)).map (dB · m)
def tq(l:E (E Y))(b:V->Bool)(i:V):E (E Y):=bD (λi=> !b i) 0<|M i l
def Wq{l}{i}(h:i<Z l)(b:V->Bool):bD b 0 (M (i+1) l)=bD b 0 (M i l)++(if b i then[l.getD i []]else[]):=by
 have a:M (i+1) l=M i l++[l.getD i []]:=by rw[sW,aN,cO h];rfl
 rw[a,adS];congr 1;rw[bD,bD,(bX:0+(M i l).length=i)]
def asx{l}{i}(h:i<Z l)(b:V->Bool):tq l b (i+1)=if b i=ae then tq l b i else tq l b i++[l.getD i []]:=by unfold tq;rw[Wq h];cases b i<;>simp
def ags{m}(a:1<m){l}(g:∀f∈l,aH f)(b:V->Bool) i:aH (kC m [1] (bD b 0<|M i l))/\aH (jY m l b i)/\Z (jY m l b i)=1+dz (bD b 0<|M i l):=by let ⟨d,h2⟩:=Ae a CL (λf h=>g f (EX<|yf h):∀f∈bD b 0 (M i l),aH f);refine⟨d,CJ a d,?_⟩;unfold jY;rw[cT,h2];rfl
def asy{m}(g:1<m){l}(d:∀f∈l,aH f){i}(h:i<Z l)(b:V->Bool):(b i=ah->jY m l b (i+1)=jY m l b i)/\(b i=ae->(lC (jY m l b i)<|l.getD i []).map (dB · m)=jY m l b (i+1)):=by
 constructor
 .intro e;unfold jY;rw[Wq h,e];simp
 .intro e;have a:l.getD i []∈l:=VM;have n:=d _ a;let ⟨t1,t2,t3⟩:=ags g d b i;have o:jY m l b (i+1)=(tf (kC m [1] (bD b 0<|M i l)) (l.getD i []) m).map (dB · m):=by unfold jY;rw[Wq h,e,q J,adT];rfl
  rw[o];refine apk G ?_ λj=>?_
  .rw[Jx,U2];have:Z (jY m l b i)=Z (kC m [1] (bD b 0<|M i l)):=by unfold jY;rw[cT]
   rw[this]
  .have p:Cg m (ps<|lC (jY m l b i)<|l.getD i []) (ps<|tf (kC m [1] (bD b 0<|M i l)) (l.getD i []) m):=by
    rw[adK _ _ t2.1 n.1];refine(Cg.Ch ?_ _).trans (U1 _ _ _).symm;refine Cg.of λk=>?_
    unfold jY;rw[cG,cG,qV _ G,Ad G]
   exact p.at j
def asz(a i:V)(g:i<=60):((((a:Y).fdiv<|2^min (af<|(i:Y)) IntKind.i64.bits).tmod 2)==1)=mY a i:=by
 have b:min (af<|(i:Y)) IntKind.i64.bits=i:=by show min _ 64=_;omega
 have d:((2:Y)^i)=((2^i:V):Y):=by rw[uL];rfl
 have f:(a:Y).fdiv ((2^i:V):Y)=((a/2^i:V):Y):=by rw[B9 _ (qP _),xN]
 rw[b,d,f,show(2:Y)=((2:V):Y)from J,mI,Nat.testBit_eq_decide_div_mod_eq];generalize a/2^i%2=z;by_cases h:z=1
 .rw[h];rfl
 .rw[s5 h];exact beq_eq_false_iff_ne.2<|λe=>h G
def agt(b:V->Bool):∀(l:E (E Y))(i:V),Z (bD b i l)<=Z l
 |[],_=>aT _
 |f::l,i=>by have:=agt b l<|i+1;rw[bD];split<;>simp<;>omega
def asA(b:V->Bool) l i:dz (bD b 0<|M i l)<=dz l:=by
 have a:=OL b (M i l) 0;have d:dz (M i l)+dz (ay i l)=dz l:=by rw[<-Pp,sI]
 omega
def asB{n T}(h:T<2^n)(a:1<=b8 T.testBit n)(b:2*b8 T.testBit n<=n):T∈mc n:=Ag.2 ⟨h,a,G⟩
def Wr(m:Y):∀(k:V)(a:E Y)(l:E (E Y)),Z (r8 m k a l)<=k+1
 |0,a,l=>aT _
 |k+1,a,l=>by
  rw[r8];cases tj m a l with
  |none=>simp
  |some b=>have:=Wr m k (mQ a<|gS m l b.testBit)<|bD (λi=> !b.testBit i) 0 l;simp;omega
def agu{p:V}{m:Y}{w:V}(w1:1<=w)(w9:w<=100)(L:aG w m):∀(k:V)(a:E Y)(l:E (E Y)),k<=100->Z l<=k->l≠[]->Z l<=8->Z a<=9->g6 p m a l->(∀f∈l,∀i,aG w (I f i 0))->ao c 178 [S .z a,S (.sl .z) l,aZ m] (S (.sl .z)<|r8 m k a l)
 |0,a,l,_,h,u,_,_,_,_=>absurd (gK G) u
 |k+1,a,l,avZ,hk,u,l8,a9,C,hlB=>by
  let ⟨m1,LM⟩:=C.m1;have IH:=λa l=>agu (p:=p) w1 w9 L k a l
  rw[r8];refine aL Tryz.func178 ?_;refine e J<|j<|e J ?_;refine az<|bq (α:=V) (λs=>⟨[(0,S .z a),(1,S (.sl .z) l),(5,.c<|.P 0 0),(7,O s)],[(0,.box 42 0<|av .z m)],2,[]⟩) (λs=>1<=s/\s<=9/\∀T∈mc (Z l),b8 T.testBit (Z l)<s->¬Rx.zx (gS m l T.testBit)∣Rx.zx a) (λs=>20-s) 1 ⟨aT _,D,λT t h=>absurd (Ag.1 t).2.1 G⟩ (wk (bM J) ⟨bE J J,A⟩) ?_;rintro s ⟨s1,s9,hs⟩;refine j<|e J<|F J (λh=>?_)<|λh=>?_
  .have h:2*s<=Z l:=by have h:2*(s:Y)<=(Z l:Y):=aW h;omega
   refine aE<|j<|az<|e J ?_;refine az<|bq (α:=V) (λb=>⟨[(0,S .z a),(1,S (.sl .z) l),(5,.c<|.P 0 0),(7,O s),(8,O b)],[(0,.box 42 0<|av .z m)],5,[]⟩) (λb=>1<=b/\b<=2^Z l/\∀T∈mc (Z l),(b8 T.testBit (Z l)<s\/(b8 T.testBit (Z l)=s/\T<b))->¬Rx.zx (gS m l T.testBit)∣Rx.zx a) (λb=>2^Z l-b) 1 ⟨aT _,Ws,λT t o=>hs T t ?_⟩ aV ?_
   .rcases o with o|⟨o,v⟩
    .exact o
    .have x:T=0:=by omega
     subst x;rw[agn]at o;omega
   rintro b ⟨q1,q2,hq⟩;have hp8:2^Z l<=2^8:=eZ D l8;have B:IntKind.i64.wrap (1*2^min (af<|(Z l:Y)) IntKind.i64.bits)=((2^Z l:V):Y):=by have:∀n:Fin 9,IntKind.i64.wrap (1*2^min (af<|((n:V):Y)) IntKind.i64.bits)=((2^(n:V):V):Y):=D;exact this ⟨Z l,G⟩
   refine j<|e J<|F J (λo=>?_)<|λo=>?_
   .have o:b<2^Z l:=by have o:(b:Y)<IntKind.i64.wrap (1*2^min (af<|(Z l:Y)) IntKind.i64.bits):=aW o;rw[B]at o;omega
    clear B;have hon:=ash b (Z l) o G;refine aE<|j<|az<|j<|bH J J hon J<|F J (λv=>?_)<|λv=>dc<|aK ?_
    .have v:b8 b.testBit (Z l)≠s:=λx=>by have v:((b8 b.testBit (Z l):V):Y)≠(s:Y):=bne_iff_ne.1 v;omega
     refine nL<|rk<|nM<|aK<|rt J<|a4 (b+1) ⟨G,G,λT t d=>hq T t ?_⟩ (G:2^Z l-(b+1)<2^Z l-b) aV;rcases d with d|⟨d,g⟩
     .exact .inl d
     .by_cases x:T=b
      .exact absurd (x▸d) v
      .exact .inr ⟨d,G⟩
    have v:b8 b.testBit (Z l)=s:=by
     have v:¬((b8 b.testBit (Z l):V):Y)≠(s:Y):=λx=>by have v:(((b8 b.testBit (Z l):V):Y) !=(s:Y))=ah:=v;rw[bne_iff_ne.2 x]at v;cases v
     omega
    have hg0:jY m l b.testBit 0=[1]:=by show([1]:E Y).map (dB · m)=[1];rw[gJ,adO m1,C5]
    refine R<|rc J J (jn 1 D D)<|rl .z [(1:Y)] J J (z J<|R<|gP (.sl .z) [] J J (z J<|j<|e J ?_));refine az<|bq (α:=V) (λi=>⟨[(0,S .z a),(1,S (.sl .z) l),(5,.c<|.P 0 0),(7,O s),(8,O b),(9,S .z<|jY m l b.testBit i),(10,.c<|.X 8000000),(11,O i)],[(0,.box 42 0<|av .z m),(8000000,.vec 161 (.sl .z)<|tq l b.testBit i)],10,[]⟩) (λi=>i<=Z l) (λi=>Z l-i) 0 (bf _) (by rw[hg0];exact aV) ?_;intro i hi;refine j<|e J<|F J (λd=>?_)<|λd=>?_
    .have d:i<Z l:=by have d:(i:Y)<(Z l:Y):=aW d;omega
     have hbq:=asz b i G;have ei:af ((i:Y))=i:=cr i;have Bi:(I l (af<|(i:Y))<|ET.dG<|.sl .z)=l.getD i []:=bh (λfw=>l.getD fw []) ei;have H:l.getD i []∈l:=by rw[aN,cO d];exact tR d
     let ⟨t1,t2,t3⟩:=ags m1 C.lm b.testBit i;let ⟨u1,u2⟩:=asy m1 C.lm d b.testBit;have K:=asx d b.testBit;have hxm:=C.lm _ H;have hxB:=hlB _ H;have Q:∀W,aG w (I (jY m l b.testBit i) W 0):=λW=>by unfold jY;rw[qV _ G];exact UX G L
     have zm:Z (jY m l b.testBit i)<=9:=by have:=asA b.testBit l i;have:=C.len;omega
     have BQ:Z (l.getD i [])<=9:=by have:=agj H;have:=C.len;omega
     have R9:Z (tq l b.testBit i)<=8:=by have:=agt (λi=> !b.testBit i) (M i l) 0;have r:(M i l).length<=Z l:=bX;show Z (bD _ 0<|M i l)<=8;omega
     have U:=acA (jY m l b.testBit i) (l.getD i []) w w G G G Q hxB;rw[(t2.adM hxm).trim]at U;have u:=UY (lC (jY m l b.testBit i)<|l.getD i []) m (w+w+1) G (by rw[Jx];omega) G (adL _ _ w w Q hxB G G)<|L.le G;rw[(CJ m1<|t2.adM hxm).trim]at u;rw[<-Bi]at U u K u2;refine aE<|j<|az<|e J<|F J (λg=>?_)<|λg=>?_
     .have g:mY b i=ae:=hbq▸g;rw[u2 g]at u;refine cK<|rc J J U (rc J J u<|z J<|bL<|rt J<|a4 (i+1) d yn<|wk (bM J) ⟨bR J,bE J ?_,A⟩) (hp:=aF);rw[K,q g]
     .have g:mY b i=ah:=hbq▸g;rw[g]at K;refine cK (rl (.sl .z) [_] J J (ra J J J J J J J J J ?_ ?_<|z J ?_) (hp:=aF))
      .show(Z (tq l b.testBit i)+1+(Z (tq l b.testBit i)+1)/4+192)*24<=_;omega
      .show(Z (tq l b.testBit i)+1)*1<=_;omega
      refine bL<|rt J<|a4 (i+1) d yn<|Wk.trans (wk (st':=⟨[(0,S .z a),(1,S (.sl .z) l),(5,.c<|.P 0 0),(7,O s),(8,O b),(9,S .z<|jY m l b.testBit<|i+1),(10,.c<|.X 12006000),(11,O ((i+1:V):Y))],[(0,.box 42 0<|av .z m),(12006000,.vec 161 (.sl .z)<|tq l b.testBit<|i+1)],24,[]⟩) ⟨sR J,sR J,sR J,sR J,sR J,sE J ?_,sR J,sR J,A⟩ ⟨bR J,bE J ?_,A⟩)<|Wk.trans (gW 8000000 12006000 J J J) aV
      .rw[u1 g]
      .rw[K];rfl
    .have d:i=Z l:=by have d:¬(i:Y)<(Z l:Y):=bc d;omega
     subst d;have hgE:jY m l b.testBit (Z l)=gS m l b.testBit:=by unfold jY gS;rw[gQ]
     have hrE:tq l b.testBit (Z l)=bD (λi=> !b.testBit i) 0 l:=by unfold tq;rw[gQ]
     rw[hgE,hrE];let ⟨gm,gl⟩:=C.CM b.testBit;have zm:Z (gS m l b.testBit)<=9:=by have r:=OL b.testBit l 0;have:=C.len;omega
     have Q:∀W,aG w (I (gS m l b.testBit) W 0):=λW=>by unfold gS;rw[qV _ G];exact UX G L
     have haB:∀W,aG w (I a W 0):=λW=>by have:=C.bd a C.am (Rx.dvd_refl _) W;unfold aG at*;omega
     have hqu:=asq C.am gm haB Q G G G G;have hS:b∈mc (Z l):=asB o G G;refine nL<|rk<|ov<|nM<|aK<|da 8000000 J J J<|R<|rc J J hqu<|z J<|e J<|F J (λg=>?_)<|λg=>?_
     .have N:Rx.zx (gS m l b.testBit)∣Rx.zx a:=fc λhn=>by
       have g:(Z (vk a<|gS m l b.testBit):Y)>0:=aW g;have x:vk a (gS m l b.testBit)=[]:=by unfold vk;rw[y hn]
       rw[x]at g;exact absurd g D
      have hqE:vk a (gS m l b.testBit)=mQ a (gS m l b.testBit):=by unfold vk;rw[q N]
      have asJ:=asv (a:=a) hS N (λT t h=>hq T t<|by rw[v]at h;exact h);let ⟨c1,c2,c3,c4⟩:=C.rest hS N;have c5:Z (mQ a<|gS m l b.testBit)<=9:=by have r:=OL b.testBit l 0;have h7:=c2.len;have:=C.len;omega
      have ih:=IH (mQ a<|gS m l b.testBit) (bD (λi=> !b.testBit i) 0 l) G G c3 G c5 c2<|λf hf=>hlB f<|yf hf;rw[asJ,hqE];have pQ:Z (r8 m k (mQ a<|gS m l b.testBit)<|bD (λi=> !b.testBit i) 0 l)<=1000:=by have:=Wr m k (mQ a<|gS m l b.testBit)<|bD (λi=> !b.testBit i) 0 l;omega
      refine R<|gP (.sl .z) [_] J J (rc J J ih<|ra J J J J J J J J J ?_ ?_<|z J<|da 13006000 J J J<|bV ?_)
      .show(1+Z (r8 m k (mQ a<|gS m l b.testBit)<|bD (λi=> !b.testBit i) 0 l)+(1+Z (r8 m k (mQ a<|gS m l b.testBit)<|bD (λi=> !b.testBit i) 0 l))/4+192)*24<=_;omega
      .show(1+Z (r8 m k (mQ a<|gS m l b.testBit)<|bD (λi=> !b.testBit i) 0 l))*1<=_;omega
      repeat(first|refine cQ ?_|refine lQ ?_|refine mq ?_)
      exact fg J J
     .have N:¬Rx.zx (gS m l b.testBit)∣Rx.zx a:=λN=>by
       have g:¬(Z (vk a<|gS m l b.testBit):Y)>0:=bc g;have x:vk a (gS m l b.testBit)=mQ a (gS m l b.testBit):=by unfold vk;rw[q N]
       let ⟨_,c2,_⟩:=C.rest hS N;have:=cR.2 c2.am.1;rw[x]at g;omega
      refine dc<|bL<|rt J<|a4 (b+1) ⟨G,G,λT t r=>?_⟩ (G:2^Z l-(b+1)<2^Z l-b) aV;rcases r with r|⟨r,h7⟩
      .exact hq T t<|.inl r
      .by_cases x:T=b
       .rw[x];exact N
       .exact hq T t<|.inr ⟨r,G⟩
   .have o:2^Z l<=b:=by have o:¬(b:Y)<IntKind.i64.wrap (1*2^min (af<|(Z l:Y)) IntKind.i64.bits):=bc o;rw[B]at o;omega
    refine bt<|bL<|rt J<|a4 (s+1) ⟨G,G,λT t r=>hq T t ?_⟩ (G:20-(s+1)<20-s) aV;have:=(Ag.1 t).1;omega
  .have h:Z l<2*s:=by have h:¬2*(s:Y)<=(Z l:Y):=bc h;omega
   have BS:=asw (m:=m) (a:=a) (l:=l) (λT t=>hs T t<|by have:=(Ag.1 t).2.2;omega);rw[BS];exact bt<|aK<|R<|rl (.sl .z) [a] J J (z J<|c7 J)
end Go.El
namespace Go.El
open Go Go.Proofs Go.RowKit Rx
def asK{a}{b d:Y}(h:(b:N)*a=(d:N)):(a.den:Y)∣b:=by
 have g:b*a.num=d*(a.den:Y):=by
  have f:(b:N)*(((a.den:V):N)*a)=(d:N)*((a.den:V):N):=by rw[<-h];grind
  rw[Oh]at f;have i:((b*a.num:Y):N)=((d*(a.den:Y):Y):N):=by rw[fT,fT];exact f
  exact x9.1 i
 have k:a.den∣aA b*aA a.num:=⟨aA d,by rw[<-rP,g,rP,o9,hJ]⟩;have l:=Nat.Coprime.dvd_of_dvd_mul_right (Nat.Coprime.symm a.reduced) k;exact UN.2 l
def pI(a:E N)(k:V):Y:=(I a k 0).num*((dR a:V):Y)/((I a k 0).den:Y)
def pJ(a:E N):E Y:=(List.range<|Z a).map<|pI a
def sn(a:E N):V->V
 |0=>0
 |i+1=>nV (sn a i)<|aA<|pI a i
def Wt(a:E N):∀i b,b<i->sn a i∣aA (pI a b)
 |0,b,h=>by omega
 |i+1,b,h=>by
  rw[sn];by_cases d:b=i
  .rw[d];exact Uj _ _
  .exact FO (Nat.gcd_dvd_left _ _)<|Wt a i b G
section
variable{a:E N}
def agz{k}(b:k<Z a):((pI a k:Y):N)=((dR a:V):N)*I a k 0:=by have d:(I a k 0).den∣dR a:=F' a _ k b;have:=Px (I a k 0) (D:=((dR a:V):Y))<|xU.2 d;exact this
def asL{k}(b:k<Z a):(I a k 0).num*((dR a:V):Y)=((I a k 0).den:Y)*pI a k:=by
 have d:(I a k 0).den∣dR a:=F' a _ k b;let ⟨e,he⟩:=d;unfold pI;have f:((I a k 0).den:Y)≠0:=by have:=(I a k 0).den_pos;omega
 rw[he,fC,(fq:(I a k 0).num*(((I a k 0).den:Y)*(e:Y))=((I a k 0).den:Y)*((I a k 0).num*(e:Y))),Wn _ f]
def PL(h:js a):pI a (Z a-1)=((dR a:V):Y):=by unfold pI;rw[h.one];show(1:Y)*_/1=_;rw[kX,uI]
def asM(h:js a):sn a (Z a)=1:=by
 have Q:=h.l2;have m:0<dR a:=Ga a _;obtain⟨e,g⟩:sn a (Z a)∣dR a:=by have:=Wt a (Z a) (Z a-1) G;rwa[PL h,o9]at this
 generalize u:sn a (Z a)=b at*;have v:0<b:=by
  rcases qD b with d|d
  .rw[d,qf]at g;omega
  .exact d
 have f:∀k,(I a k 0).den∣e:=λk=>by
  by_cases n:k<Z a
  .have o:=Wt a (Z a) k n;rw[u]at o;let ⟨z,w⟩:=UN.2 o;have p:=agz n;rw[g,w]at p;have B:((e:Y):N)*I a k 0=(z:N):=by
    have i:((b:V):N)≠0:=x7 G;have C:((b:V):N)*(z:N)=((b:V):N)*(((e:Y):N)*I a k 0):=by
     have H:(((b:Y)*z:Y):N)=((b:V):N)*(z:N):=fT _ _;have K:((b*e:V):N)=((b:V):N)*((e:Y):N):=by rw[<-r6,fC,fT];rfl
     rw[<-H,p,K,l7]
    have s:=bh (λx=>((b:V):N)⁻¹ *x) C;simp only[<-l7,nq _ i,qL]at s;exact s.symm
   exact xU.1<|asK B
  .rw[g5 a G];exact Nat.one_dvd _
 have t:dR a∣e:=VZ a f _;rw[g]at t;let ⟨y,L⟩:=t;have l:0<e:=by
  rcases qD e with d|d
  .rw[d,Nat.mul_zero]at g;omega
  .exact d
 have:1*e=b*y*e:=by
  rw[iG];conv=>lhs;rw[L]
  ac_rfl
 have P:=Nat.eq_of_mul_eq_mul_right l this;exact Nat.dvd_one.1 ⟨y,P⟩
def Ax a:Z (pJ a)=Z a:=by simp[pJ]
def J6 a{k}(h:k<Z a):I (pJ a) k 0=pI a k:=by unfold pJ;rw[aN,iN,jV h];rfl
def asN(h:js a):PJ (pJ a)=dS a:=by
 have g:=h.l2;unfold PJ dS;rw[Ax];refine List.map_congr_left λk b=>?_
 have b:=pO.1 b;unfold sk;rw[Ax];split
 .rename_i e;rw[e,h.one,kg,o8];rfl
 .rename_i e;rw[J6 a b,J6 a G,PL h,(G:Z a-1-k=(Z a-2-k)+1),fH];have d:((I a k 0).den:Y)≠0:=by have:=(I a k 0).den_pos;omega
  have f:=asL (a:=a) b;rw[show(I a k 0).num*(((dR a:V):Y)^(Z a-2-k)*((dR a:V):Y))=((I a k 0).den:Y)*(pI a k*((dR a:V):Y)^(Z a-2-k))by rw[<-jo ((I a k 0).den:Y),<-f];ac_rfl,Wn _ d]
def asO{k}(b:k<Z a):(I a k 0*(((dR a:V):Y):N)).num=pI a k:=by have d:=agz b;rw[zS,show((((dR a:V):Y):Y):N)=((dR a:V):N)from J,<-d];rfl
def agA(b:∀k,k<Z a->aG 201 (pI a k)):∀i,i<=Z a->aG 201 ((sn a i:V):Y)
 |0,_=>aG.zero _
 |i+1,g=>by
  have d:=agA b i G;have f:=b i G;unfold aG at*;rw[o9]at*;rw[sn];rcases qD (sn a i)with e|e
  .rw[e,Nat.gcd_zero_left];exact f
  .exact wg (Nat.gcd_le_left _ e) d
def agB(h:js a)(b:∀i,QS 20 (I a i 0)){k:V}(_:k<Z a):aG 201 (pI a k):=by have d:=(b k).n.mul ((V2 a b<|Z a).le<|show 20*Z a+1<=181 by have:=h.l9;omega);have f:=Wp ((I a k 0).num*((iD a (Z a):V):Y)) ((I a k 0).den:Y);have g:pI a k=(I a k 0).num*((iD a (Z a):V):Y)/((I a k 0).den:Y):=rfl;unfold aG at*;rw[g];exact wg f d
def asP(h:js a)(t:∀i,QS 20 (I a i 0)):ao c 169 [S .q a] (S .z<|pJ a):=by
 have l2:=h.l2;have l9:=h.l9;have l:=λi(g:i<=9)=>(V2 a t i).le (G:20*i+1<=181)
 have u:=λi(g:i<=9)=>(l i g).sm D
 have v:QS 181 (((dR a:V):Y):N):=⟨l _ l9,(aG.one (a:=1) D).le D⟩;have m:=λk w=>agB h t (k:=k) w
 have x:=λk w=>(m k w).sm (by decide:201<=1099511627776)
 have W:=asM h;have r:=λi g=>(agA m i g).sm (by decide:201<=1099511627776)
 have y:=Ax a;have n:=λk(w:k<Z a)=>J6 a w
 have B:=PL h;have HV:0<dR a:=Ga a _;have C:=λk=>(t k).d.sm (by decide:20<=1099511627776)
 have o:∀i,((iD a i:V):Y)*(((I a i 0).den:Y)/((nV (iD a i) (I a i 0).den:V):Y))=((iD a (i+1):V):Y):=λi=>by rw[iD,fC,xN]
 have E:∀i,i<=9->Sm (((I a i 0).den:Y)/((nV (iD a i) (I a i 0).den:V):Y)):=λi g=>by have b:=(t i).d;have h2:=Wp ((I a i 0).den:Y) ((nV (iD a i) (I a i 0).den:V):Y);exact(show aG 20 _ by unfold aG at*;omega:aG 20 (((I a i 0).den:Y)/((nV (iD a i) (I a i 0).den:V):Y))).sm D
 have U:=λi=>CQ (k:=181) (I a i 0) (((dR a:V):Y):N) ((t i).le D) v D
 clear l m v;refine aL Tryz.func169 ?_;refine e J<|bH J J (jn 1 D D) J<|j<|e J ?_;refine az<|bq (α:=V) (λi=>⟨[(0,S .q a),(3,.c<|.P 1001000 0),(4,O i)],[(1001000,.box 42 0<|av .z ((iD a i:V):Y))],3,[]⟩) (λi=>i<=Z a) (λi=>Z a-i) 0 (bf _) (wk (bM J) ⟨bE J J,A⟩) ?_;intro i g;refine j<|e J<|F J (λb=>?_)<|λb=>?_
 .have b:i<Z a:=by have b:(i:Y)<(Z a:Y):=aW b;omega
  have ei:af ((i:Y))=i:=cr i;have hg:=Ny ((iD a i:V):Y) ((I a i 0).den:Y) (u i G)<|C i;have hgp:0<nV (iD a i) (I a i 0).den:=Nat.gcd_pos_of_pos_right _ (I a i 0).den_pos;have av1:nV (iD a i) (I a i 0).den<=(I a i 0).den:=Nat.gcd_le_right _ (I a i 0).den_pos;have p:=Fh ((I a i 0).den:Y) ((nV (iD a i) (I a i 0).den:V):Y) G (C i)<|(show aG 20 ((nV (iD a i) (I a i 0).den:V):Y)by have:=(t i).d;unfold aG at*;omega).sm D;have H:=kV ((iD a i:V):Y) (((I a i 0).den:Y)/((nV (iD a i) (I a i 0).den:V):Y)) (u i G)<|E i G;rw[o]at H;refine aE<|j<|az ?_;refine R<|rc J J hg (z J<|R<|rc J J p (z J ?_) (hp:=aF)) (hp:=aF);exact cK<|rc J J H<|z J<|bL<|rt J (hp:=aF)<|a4 (i+1) b qy<|wk (bM J) ⟨bE J J,A⟩
 have b:i=Z a:=by have b:¬(i:Y)<(Z a:Y):=bc b;omega
 subst b;have df:iD a (Z a)=dR a:=rfl;refine bt<|aK ?_;rw[df];refine R<|gP .z [] J J (z J<|bH J J (jn 0 D D) J<|j<|e J ?_);generalize hL:pJ a=L at*;refine az<|bq (α:=V) (λi=>⟨[(0,S .q a),(3,.c<|.P 1001000 0),(9,.c<|.X 4000000),(10,.c<|.P 5001000 0),(11,O i)],[(1001000,.box 42 0<|av .z ((dR a:V):Y)),(4000000,.vec 42 .z<|M i L),(5001000,.box 42 0<|av .z ((sn a i:V):Y))],8,[]⟩) (λi=>i<=Z a) (λi=>Z a-i) 0 (bf _) (wk (bM J) ⟨bR J,bR J,bE J J,A⟩) ?_;intro i g;have hl:(M i L).length=i:=bX;refine j<|e J<|F J (λb=>?_)<|λb=>?_
 .have b:i<Z a:=by have b:(i:Y)<(Z a:Y):=aW b;omega
  have hm:=U i;have f:=asO (a:=a) b;have K:=Ny ((sn a i:V):Y) (pI a i) (r i G)<|x i b;refine aE<|j<|az ?_;refine R<|rc J J (jn 1 D D) (rc J J hm<|z J ?_) (hp:=aF);rw[<-f]at K;refine R<|rl .z [(I a i 0*(((dR a:V):Y):N)).num] J J (ra J J J J J J J J J ?_ ?_<|z J ?_)
  .exact agp (M i L) G
  .exact agq (M i L) G
  refine cK<|rc J J K<|z J<|bL<|rt J<|a4 (i+1) b qy<|Wk.trans (wk (st':=⟨[(0,S .q a),(3,.c<|.P 1001000 0),(9,.c<|.X 10004000),(10,.c<|.P 5001000 0),(11,O ((i+1:V):Y))],[(1001000,.box 42 0<|av .z ((dR a:V):Y)),(10004000,.vec 42 .z<|M (i+1) L),(5001000,.box 42 0<|av .z ((sn a (i+1):V):Y))],16,[]⟩) (bM J) ⟨bR J,bE J ?_,bE J ?_,A⟩)<|Wk.trans (gW 4000000 10004000 J J J) aV
  .refine bh (aD.vec 42 .z) ?_;rw[rR L i G,n i b,f]
  .rw[sn,<-f];rfl
 have b:i=Z a:=by have b:¬(i:Y)<(Z a:Y):=bc b;omega
 subst b;rw[iY G,W];refine bt<|aK<|j ?_;have s:I L (af<|(Z L:Y)-1) 0=((dR a:V):Y):=by rw[y,(G:af ((Z a:Y)-1)=Z a-1),n _ G,B]
 have hsg:=B5<|I L (af<|(Z L:Y)-1) 0;have Q:¬eV (I L (af<|(Z L:Y)-1) 0)<0:=by rw[s,OR];omega
 refine R<|rg 73 J J (λ_=>?_)<|λb=>?_;rotate_left
 .exfalso;have b:¬(Z a:Y)>0:=bc b;omega
 refine gO J J J J J hsg (z J<|F J (λb=>?_)<|λ_=>aE ?_) (hp:=aF)
 .exfalso;exact Q<|aW b
 refine j<|e J<|az<|bq (α:=V) (λi=>⟨[(9,.c<|.X 4000000),(10,.c<|.P 5001000 0),(13,O i)],[(4000000,.vec 42 .z L),(5001000,.box 42 0<|av .z ((1:V):Y))],16,[]⟩) (λi=>i<=Z L) (λi=>Z L-i) 0 (bf _) aV ?_;intro i g;refine j<|e J<|F J (λb=>?_)<|λb=>?_
 .have b:i<Z L:=by have b:(i:Y)<(Z L:Y):=aW b;omega
  have ei:af ((i:Y))=i:=cr i;have p:=Fh (I L (af<|(i:Y)) 0) ((1:V):Y) D (by rw[ei,n i G];exact x i G)<|(aG.one (a:=((1:V):Y)) D).sm D;refine aE<|j<|az ?_;refine R<|rc J J p (z J ?_) (hp:=aF);refine cK<|ux (T:= .z) (I L (af<|(i:Y)) 0/((1:V):Y)) J J J J J ?_ (z J<|bL<|rt J (hp:=aF)<|a4 (i+1) b (G:Z L-(i+1)<Z L-i)<|wk (bM J) ⟨bE J ?_,bR J,A⟩) (hp:=aF)
  .show af ((i:Y))<_;omega
  .refine bh (aD.vec 42 .z)<|OC (by rw[nG]) λix hj=>?_;rw[uH _ _ _ _ G,ei];split
   .rename_i cz;rw[cz];exact uI _
   .rfl
 .have b:i=Z L:=by have b:¬(i:Y)<(Z L:Y):=bc b;omega
  subst b;exact bt<|aK<|da 4000000 J J J<|e J<|c7 J
end
end Go.El
namespace Go.El
open Go Go.Proofs Go.RowKit Fx
def tdB(n:V):Bool:=[2,3,5,7,11,13,17,19,23,29,31,37,41,43,47].all λk=>Nat.ble n k|| !(il (n%k) 0)
def Gf:E V:=((List.range' 3 2300).filter tdB)
def PM{p}(h:p∈Gf):3<=p/\p<2304:=by have a:=(oM.1 h).1;rw[asR]at a;omega
def agD{p}(h:p∈Gf):dE p:=by
 let ⟨v,h2⟩:=PM h;have l:tdB p=ae:=(oM.1 h).2;have b:∀k∈[2,3,5,7,11,13,17,19,23,29,31,37,41,43,47],p<=k\/p%k≠0:=λk b=>by
  have:=mn.1 l k b;rcases yL _ _▸this with e|e
  .exact .inl<|cP e
  .right;intro m;rw[m]at e;exact absurd e D
 refine⟨G,λd n w o=>?_⟩;have s:d<48:=fc λh=>by have:48*48<=d*d:=l0 G G;omega
 have t:d<p:=by have:2*d<=d*d:=et d n;omega
 obtain⟨q,f,a⟩:∃q∈[2,3,5,7,11,13,17,19,23,29,31,37,41,43,47],q∣d:=by have g:(List.range' 2 46).all (λd=>[2,3,5,7,11,13,17,19,23,29,31,37,41,43,47].any λq=>il (d%q) 0)=ae:=eL;have u:=mn.1 g d (by rw[asR];omega);let ⟨q,f,i⟩:=List.any_eq_true.1 u;exact⟨q,f,Jm<|kO i⟩
 have i:=FO a<|Jm o;have x:=wi G a;rcases b q f with e|e
 .omega
 .exact e<|Nat.mod_eq_zero_of_dvd i
def asS:Gf.Nodup:=(List.nodup_range' (s:=3) (n:=2300) (step:=1)).filter _
def asT:Nat.ble (ya+1) (qQ Gf)=ae:=eL
def asU:ya<qQ Gf:=adf asT
def agE{p}(h:p∈Gf):br p:=⟨agD h,by have:=(PM h).2;omega⟩
def js.agF{a}(h:js a):∃p,dE p/\3<=p/\p<2304/\F8 p (dS a)=ae:=by let ⟨p,b,hc⟩:=h.afa asS (λ_ b=>agE b) asU;exact⟨p,agD b,(PM b).1,(PM b).2,(aeY (agE b) _).2 hc⟩
def agG{p:V}:∀{L:E (E Y×Y)},(∀x∈L,bu (fx x.1:Fx p)/\1<=x.2)->qR (iS p L)->iS p L=fU (L.map (·.1))
 |[],_,_=>rfl
 |x::l,h,a=>by
  let ⟨b,h2⟩:=h x ax;have d:=agG (L:=l) (λy hy=>h y uv)<|a.of_dvd ⟨pk (fx x.1)<|af x.2,by rw[iS,mul_comm]⟩;rw[iS,gJ,fU,d];by_cases e:af x.2=1
  .rw[e,rW]
  .exfalso;obtain⟨n,f⟩:∃n,af x.2=n+1+1:=⟨af x.2-2,G⟩;refine a _ b ⟨pk (fx x.1) n*iS p l,?_⟩;rw[iS,f];show pk (fx x.1) n*fx x.1*fx x.1*iS p l=_;ac_rfl
section
variable{p:V}{a:E Y}
def px.oe(h:px p a){L}(i:CW p (fx a:Fx p) L):wN p a (L.map (·.1))/\∀g∈L.map (·.1),bu (fx g:Fx p):=by
 have d:∀g∈L.map (·.1),Mon p g/\2<=Z g/\bu (fx g:Fx p):=λg b=>by obtain⟨x,k,rfl⟩:=kF.1 b;let ⟨o,s,t,_⟩:=i.parts x k;exact⟨o,s,t⟩
 have m:(fx a:Fx p)=fU (L.map (·.1)):=by rw[<-i.prod];exact agG (λx k=>⟨(i.parts x k).2.2.1,(i.parts x k).2.2.2⟩) (by rw[i.prod];exact h.lG)
 have u:Z a=1+dz (L.map (·.1)):=by
  let ⟨t1,t2⟩:=Ae h.p1 CL (l:=L.map (·.1)) λf n=>⟨(d f n).1.ne,(d f n).1.one⟩
  rw[<-u5 h.H h.am,m,<-Af (L.map (·.1)) p (JC _),u5 h.H t1,t2];rfl
 refine⟨⟨h.am,λg b=>⟨(d g b).1,(d g b).2.1⟩,by rw[aeU,m],aeV h.H (λg b=>(d g b).2.2) (by rw[<-m];exact h.lG),u,?_⟩,λg b=>(d g b).2.2⟩;have:=h.l9;omega
def Gd.mem{k}{l X}(d:Gd p k a l X){f}(o:f∈X):∃g∈l,aH f/\Z f=Z g/\(fx f:Fx p)=fx g/\∀h,dB (I f h 0) ((p:Y)^k)=I f h 0:=by
 obtain⟨i,m,rfl⟩:=Lh o;have b:i<Z l:=by rw[<-d.len];exact m
 have n:=d.ok i b;rw[aN,aN,cO m,cO b]at n;exact⟨l[i],tR b,n⟩
def Gd.PN{k}{l X}(f:Gd p k a l X):X.map (fx (p:=p))=l.map fx/\dz X=dz l:=by
 have g:∀(X l:E (E Y)),X.length=Z l->(∀i,i<Z l->Z (X.getD i [])=Z (l.getD i [])/\(fx (X.getD i []):Fx p)=fx (l.getD i []))->X.map (fx (p:=p))=l.map fx/\dz X=dz l:=by
  intro X;induction X with
  |nil=>
   intro l b _
   rw[gK b.symm];exact⟨J,J⟩
  |cons x X n=>
   intro l b h
   cases l with
   |nil=>cases b
   |cons y l=>
    let ⟨i1,i2⟩:=n l (Nat.succ.inj b) λi d=>h (i+1)<|Nat.succ_lt_succ d
    have m:Z x=Z y/\(fx x:Fx p)=fx y:=h 0<|Nat.succ_pos _
    exact⟨by rw[gJ,gJ,i1,m.2],by rw[dz,dz,i2,m.1]⟩
 exact g X l f.len λi d=>⟨(f.ok i d).2.1,(f.ok i d).2.2.1⟩
def px.cbX(h:px p a){L}(m:CW p (fx a:Fx p) L){k}(n:1<=k)(v:2*gR a<p^k){X}(b:Gd p k a (L.map (·.1)) X):g6 p ((p:Y)^k) a X:=by
 let ⟨A,o⟩:=h.oe m;refine⟨h.H,⟨k,n,J⟩,h.am,λf l=>?_,λf l=>?_,?_,b.pr,h.lG,?_,λg s t i=>?_⟩
 .let ⟨_,_,d,_⟩:=b.mem l;exact d
 .let ⟨g,hg,_,_,u,_⟩:=b.mem l;rw[u];exact o g hg
 .have d:((L.map (·.1)).map<|fx (p:=p)).Pairwise Co:=FQ.2 A.co;rw[<-b.PN.1]at d;exact FQ.1 d
 .rw[b.PN.2];exact A.fl
 .have:=aeX h.am s t i;have e:((p^k:V):Y)=(p:Y)^k:=uL p k;rw[<-e];omega
end
end Go.El
namespace Go.El
open Go Go.Proofs Go.RowKit Rx
def J7{a b}:oa a b<=0↔a<=b:=by
 unfold oa;by_cases d:a<b
 .rw[q d];exact⟨λ_=>Rat.le_of_lt d,λ_=>G⟩
 .rw[y d];by_cases h2:b<a
  .rw[q h2];exact⟨λh=>G,λh=>absurd h2<|Rat.not_lt.2 h⟩
  .rw[y h2];exact⟨λ_=>Rat.not_lt.1 h2,λ_=>hY _⟩
def Wu{a b}:oa a b=0↔a=b:=by
 constructor
 .intro h;refine Rat.le_antisymm (J7.1 G)<|J7.1 ?_;rw[V5];omega
 .rintro rfl;have:=V5 a a;omega
def agH(a b d:E N):∀i,qX a b i<=0->qX b d i<=0->qX a d i<=0
 |0,_,_=>hY _
 |i+1,k,h2=>by
  rw[qX]at*;have p:=agH a b d i;have q1:=@J7 (I a i 0)<|I b i 0;have s:=@J7 (I b i 0)<|I d i 0;have t:=@J7 (I a i 0)<|I d i 0;have o:=@Wu (I a i 0)<|I b i 0;have u:=@Wu (I b i 0)<|I d i 0;have v:=@Wu (I a i 0)<|I d i 0;generalize I a i 0=x at*;generalize I b i 0=m at*;generalize I d i 0=z at*;by_cases l:oa x m=0
  .rw[y (λe=>e l)]at k;have:=o.1 l;subst this;by_cases f:oa x z=0
   .rw[y (λe=>e f)]at*;exact p k h2
   .rw[q f]at*;exact h2
  .rw[q l]at k;have g:=q1.1 k;have h:m<=z:=by
    by_cases f:oa m z=0
    .rw[u.1 f];exact Rat.le_refl
    .rw[q f]at h2;exact s.1 h2
   have n:=Rat.le_trans g h;have w:oa x z≠0:=λe=>by have:=v.1 e;subst this;exact l<|o.2<|Rat.le_antisymm g h
   rw[q w];exact t.2 n
def asW{a b f}(i:jt a b<=0)(g:jt b f<=0):jt a f<=0:=by
 have n:∀x d:Y,py x d<=0->x<=d:=λx d h=>by unfold py at h;split at h<;>(try split at h)<;>omega
 have k:∀x d:Y,x<d->py x d<=0:=λx d h=>by unfold py;rw[q h];omega
 have l:∀{a b:E N},jt a b<=0->Z a<=Z b:=λ{a b} h=>by
  by_cases e:Z a=Z b
  .omega
  .rw[jt,q e]at h;have:=n _ _ h;omega
 have p:=l i;have s:=l g;by_cases e:Z a=Z f
 .have m:Z a=Z b:=by omega
  have o:Z b=Z f:=G;rw[jt,y<|λh=>h m]at i;rw[jt,y<|λh=>h o]at g;rw[jt,y<|λh=>h e];rw[<-m]at g;exact agH a b f _ i g
 .rw[jt,q e];exact k _ _ G
abbrev vn(x a:E N×Y):Prop:=Gb x a<=0
def asX{x a b}(d:vn x a)(f:vn a b):vn x b:=asW d f
def asY{l}(h:l.Pairwise vn):gAd yr Gb l (Z l-1):=λt b=>by
 have g:∀k(a:k<Z l),I l k yr=l[k]:=λk a=>by rw[aN,cO a];rfl
 have:=List.pairwise_iff_getElem.1 h t (t+1) G G G;rw[g t G,g (t+1) G];have e:=afx l[t+1] l[t];omega
section
variable{α:Type}(d:α)(lt:α->Bool)(x:α)(l:E α)
def agI:∀i,i<=Z l->((je d lt x l i).1=ah/\(je d lt x l i).2=M i l/\∀a,a<i->lt (I l a d)=ah)\/((je d lt x l i).1=ae/\∃k,k<i/\(∀a,a<k->lt (I l a d)=ah)/\lt (I l k d)=ae/\(je d lt x l i).2=M k l++x::(M i l).drop k)
 |0,_=> .inl ⟨J,J,λa h=>G⟩
 |i+1,n=>by
  have b:M (i+1) l=M i l++[I l i d]:=by rw[sW,aN,cO n];rfl
  have o:(M i l).length=i:=IF;rw[Wg];rcases agI i G with⟨g,p,m⟩|⟨g,k,v,s,t,u⟩
  .rw[g,p];cases f:lt (I l i d)with
   |false=>
    left
    refine⟨J,b.symm,λa w=>?_⟩
    by_cases e:a=i
    .rw[e];exact f
    .exact m a G
   |true=>
    right
    refine⟨J,i,G,m,f,?_⟩
    show M i l++[x]++[I l i d]=_
    rw[b,AX G,tK G,lP];rfl
  .rw[g];right;refine⟨J,k,G,s,t,?_⟩;show(je d lt x l i).2++[I l i d]=_;rw[u,b,AX G,lP];rfl
def asZ:∃k,k<=Z l/\(∀b,b<k->lt (I l b d)=ah)/\(k<Z l->lt (I l k d)=ae)/\si d lt x l=M k l++x::ay k l:=by
 unfold si;rcases agI d lt x l (Z l) (aT _)with⟨a,f,g⟩|⟨a,k,o,i,m,n⟩
 .refine⟨Z l,aT _,g,λh=>G,?_⟩;rw[a,f,y D,List.drop_length]
 .refine⟨k,G,i,λ_=>m,?_⟩;rw[a,q J,n,gQ]
end
def J8(x:E N×Y)(l:E (E N×Y)):E (E N×Y):=si ([],0) (λy=>decide<|jt x.1 y.1<0) x l
def as0 x l:(J8 x l).Perm (x::l):=af4 _ _ _ _
def as1{x}{l}(h:l.Pairwise vn):(J8 x l).Pairwise vn:=by
 let ⟨k,C,t,u,v⟩:=asZ ([],0) (λy:E N×Y=>decide<|jt x.1 y.1<0) x l;rw[J8,v];have w:(M k l++ay k l).Pairwise vn:=by rw[sI];exact h
 let ⟨p1,f,B⟩:=yg.1 w;have g:∀j(b:j<Z l),I l j ([],0)=l[j]:=λj b=>by rw[aN,cO b];rfl
 have i:∀y∈M k l,vn y x:=λy a=>by
  obtain⟨j,b,rfl⟩:=Lh a;have m:j<k:=by rw[gL]at b;omega
  have d:=bc<|t j m;rw[g j G]at d;rw[rf];show Gb _ _<=0;rw[afx];show-(jt x.1 _)<=0;omega
 have n:∀y∈ay k l,vn x y:=λy a=>by
  have o:k<Z l:=fc λh=>by rw[tK G]at a;cases a
  have d:=aW<|u o;rw[g k o]at d;have s:vn x l[k]:=Int.le_of_lt d;rw[rJ o]at a f;rcases bZ.1 a with rfl|a
  .exact s
  .exact asX s<|(jP.1 f).1 y a
 refine yg.2 ⟨p1,jP.2 ⟨n,f⟩,λy a z p=>?_⟩;rcases bZ.1 p with rfl|p
 .exact i y a
 .exact B y a z p
def qZ(l:E (E N×Y)):E (E N×Y):=l.foldl (λo x=>J8 x o) []
def agJ l x:qZ (l++[x])=J8 x (qZ l):=by rw[qZ,List.foldl_append];rfl
def Wv:∀(n:V)(l:E (E N×Y)),Z l=n->(qZ l).Perm l/\(qZ l).Pairwise vn
 |0,l,h=>by rw[gK h];exact⟨List.Perm.refl _,List.Pairwise.nil⟩
 |n+1,l,h=>by
  have a:l≠[]:=λe=>by rw[e]at h;cases h
  have e:l=l.dropLast++[l.getLast a]:=(Wa a).symm;let ⟨i1,i2⟩:=Wv n l.dropLast (by rw[List.length_dropLast];omega);rw[e,agJ];exact⟨(as0 _ _).trans<|((List.Perm.cons _ i1)).trans (List.perm_append_singleton _ _).symm,as1 i2⟩
def as2{a}(h:js a)(hq:∀i,QS 20 (I a i 0)):∃n:E (E Y),(∀a7∈n,aH a7/\Rx.bu (Rx.zx a7))/\Rx.po n=Rx.zx (dS a)/\ao c 141 [S .q a] (S (.sl .q)<|n.map<|kE<|dR a):=by
 have l2:=h.l2;have l9:=h.l9;let ⟨p,⟨hp,p3,Q⟩,K⟩:=V' (P:=λp=>dE p/\3<=p/\F8 p (dS a)=ae) (by let ⟨p,m,b,_,U⟩:=h.agF;exact⟨p,m,b,U⟩);have hp9:p<2304:=by let ⟨q,m,b,v,U⟩:=h.agF;exact wg (fc λhc=>K q G ⟨m,b,U⟩) v
 have s:=h.mf;have H:br p:=⟨hp,G⟩;have uD:px p (dS a):=⟨H,s.am,s.l2,s.l9,(aeY H _).1 Q⟩;have v5:Z (dS a)=Z a:=Ar a;have x:aM (md p<|dS a)=md p (dS a):=uD.trim;let ⟨f1,f2,f3⟩:=uD.f;have fe:md p (dS a)≠[]:=f1.ne;let ⟨L,hL,as3⟩:=arK H G (a:=md p<|dS a) G (λi=>(Ck H.pos (dS a) i).1) (by rw[NY,x];exact fe) (λd hd=>by rw[NY,x,f2,v5]at hd;have m:d<=4:=G;have b:p^d<=2304^4:=b6 (z7 G d)<|eZ D m;omega);rw[NY,x]at hL;have Q':(Fx.fx (lD p<|md p<|dS a):Fx p)=Fx.fx (dS a):=by have e:=(Fx.Ow H f1.c fe).2.2.2.2;rw[f1.one,Fx.qM,Fx.one_mul,f3]at e;exact e.symm
 rw[Q']at hL;let ⟨qY,hi⟩:=uD.oe hL;have hL8:Z L<=8:=by have:=(VQ λf hf=>(qY.ok f hf).2).1;have:=qY.fl;rw[cT]at*;omega
 let ⟨k1,k2,k3⟩:=aeZ (p:=p) G<|2*gR (dS a);let ⟨m1,m2⟩:=s.mBp (p:=p) G G;have hlX:=ar6 H qY (u:=9) (w:=9) k1 G (λi=>(s.aB i).le G) m1 G G G;have O:=agk H k1 _ _ qY;have C:=uD.cbX hL k1 k2 O;let ⟨G1,G2⟩:=g6.all (p:=p) 8 Ww (λe=>by have m:=qY.fl;rw[<-O.PN.2,e]at m;have b:Z (dS a)=1:=m;omega) C;have RF:=agu (w:=9) D D m1 8 (dS a) _ D Ww (λe=>by
  have m:=qY.fl;rw[<-O.PN.2,e]at m;have b:Z (dS a)=1:=m;omega) Ww G C (λf hf i=>by
  let ⟨_,_,_,_,_,f4⟩:=O.mem hf;rw[<-f4 i];exact UX (nT H.pos) m1)
 refine⟨_,G1,G2,?_⟩;have zm:=Wr ((p:Y)^nv p (2*gR (dS a))) 8 (dS a)<|sj p (nv p<|2*gR (dS a)) (dS a)<|L.map (·.1);generalize r8 ((p:Y)^nv p (2*gR (dS a))) 8 (dS a) (sj p (nv p<|2*gR (dS a)) (dS a)<|L.map (·.1))=n at*;have hGB:∀g∈n,Z g<=12/\∀i,aG 210 (I g i 0):=λg hgm=>by
  let ⟨g1,g2⟩:=G1 g hgm;have hd:Rx.zx g∣Rx.zx (dS a):=by rw[<-G2];exact afg hgm
  have hb:=λi=>aeX s.am g1 hd i
  refine⟨?_,λi=>?_⟩
  .have m:=Rx.jK hd (by rw[<-G2];exact(afh λg Q=>(G1 g Q).2).1);rw[Rx.k5 g1.can,Rx.k5 s.am.can]at m;omega
  .have m:=s.bB;have b:=hb i;have:aG 8 (I g i 0):=by unfold aG at*;omega
   exact this.le G
 generalize hX:sj p (nv p<|2*gR (dS a)) (dS a) (L.map (·.1))=X at*;have hfB:∀i,aG 201 (I (pJ a) i 0):=λi=>by
  by_cases hi:i<Z a
  .rw[J6 a hi];exact agB h hq hi
  .rw[fh _ (by rw[Ax];omega)];exact aG.zero _
 have Pk:=asc (pJ a) (by rw[Ax];omega) (by rw[Ax];omega)<|λi=>(hfB i).le G;rw[asN h]at Pk;have Qm:∀g∈n,ao c 180 [S .z g,.a<|av .z<|I (pJ a) (af<|(Z (pJ a):Y)-1) 0] (S .q<|kE (dR a) g):=λg Q=>by
  have e:I (pJ a) (af<|(Z (pJ a):Y)-1) 0=((dR a:V):Y):=by rw[Ax,(G:af ((Z a:Y)-1)=Z a-1),J6 a G,PL h]
  have m:=hfB<|af<|(Z (pJ a):Y)-1;rw[e]at m⊢;exact ase g (dR a) (Ga a _) (hGB g Q).1 (hGB g Q).2<|m.le G
 have EJ:=asb (dS a) 6 D G s.aB;have hBS:Sm ((gR (dS a):V):Y):=by have m:=s.bB;exact(show aG 8 _ by unfold aG at*;omega:aG 8 ((gR (dS a):V):Y)).sm G
 have had:=xK ((gR (dS a):V):Y) ((gR (dS a):V):Y) hBS hBS;have hil:=asP h hq;have jE:=Ax a;generalize pJ a=f0 at*;have t:=acC<|dS a;have hsS:∀i,Sm (I (dS a) i 0):=λi=>(s.aB i).sm D
 refine aL Tryz.func141 ?_;refine rr J<|bH J J hil J<|R<|rc J J Pk<|z J<|rr J ?_;generalize dS a=l at*;refine j<|az<|bq (α:=V) (λq=>⟨[(3,S .z f0),(4,S .z l),(5,cU q)],[],4,[]⟩) (λq=>dE q/\3<=q/\q<=p) (λq=>p-q) 3 ⟨⟨D,λd m b=>absurd (l0 m m) G⟩,aT _,p3⟩ (wk ⟨sR J,sR J,sE J J,A⟩ A) ?_;rintro q ⟨q1,q2,q3⟩;have T:(0:Y)<(q:Y):=G;have t:=acC l q G G G hsS;have HY:bx q (aM<|md q l):=kZ T<|Ck T l;have BM:bx q (aM<|jM q<|aM<|md q l):=kZ T<|JX G _;have Pj:Z (aM<|md q l)<=9:=by have:=pa<|md q l;rw[xV]at this;omega
 have VI:Z (aM<|jM q<|aM<|md q l)<=9:=by have:=pa<|jM q<|aM<|md q l;have:=JW q<|aM<|md q l;omega
 have hde:=afT (aM<|md q l) q G G G HY.1;have hgc:=FE q q1 G _ _ G G HY BM;refine j<|R<|rc J J t<|rc J J t<|rc J J hde<|rc J J hgc<|z J<|F J (λm=>?_)<|λm=>?_
 .have m:(Z (gk q (aM<|md q l)<|aM<|jM q<|aM<|md q l):Y)≠1:=bne_iff_ne.1 m;have B:F8 q l=ah:=s5 λe=>m tu
  have W:q<p:=Nat.lt_of_le_of_ne q3 λe=>by rw[e,Q]at B;cases B
  let ⟨a7,r1,r2,r3,r4,r5⟩:=an' q G;refine aE<|az<|bH J J r5 J<|rt J<|fB<|a4 a7 ⟨r1,G,BY λe=>r4 p W e hp⟩ (G:p-a7<p-q) aV
 .have m:((Z (gk q (aM<|md q l)<|aM<|jM q<|aM<|md q l):Y) !=1)=ah:=m;have B:F8 q l=ae:=qB (by have b:=bne_eq_false_iff_eq.1 m;omega);have W:q=p:=Nat.le_antisymm q3<|BY λe=>K q e ⟨q1,q2,B⟩;subst W;refine bt<|aK ?_;rw[x]at t;refine R<|rc J J t<|rc J J as3<|z J<|R<|gP (.sl ar) [] J J (z J<|j<|rr J ?_);refine az<|bq (α:=V×E (E Y)) (λy=>⟨[(3,S .z f0),(4,S .z l),(5,cU q),(8,.c<|.S MT L),(10,.c<|.X 6000000),(11,cI y.1)],[(6000000,.vec 167 (.sl ar) y.2)],8,[]⟩) (λy=>y.1<=Z L/\y.2=(M y.1 L).map (·.1)) (λy=>Z L-y.1) (0,[]) ⟨bf _,J⟩ aV ?_;rintro⟨i,o⟩ ⟨i1,i2⟩;simp only at i1 i2;have ho:Z o<=9:=by rw[i2,cT,gL];omega
  refine j<|rr J<|F J (λb=>?_)<|λb=>?_
  .have b:i<Z L:=by have b:(i:Y)<(Z L:Y):=aW b;omega
   have ei:af ((i:Y))=i:=cr i;refine aE<|j<|az ?_;refine cK<|rl (.sl ar) [_] J J (ra J J J J J J J J J ?_ ?_<|z J ?_) (hp:=aF)
   .show(Z o+1+(Z o+1)/4+192)*24<=_;omega
   .show(Z o+1)*1<=_;omega
   refine bL<|rt J (hp:=aF)<|a4 (i+1,o++[(I L (af<|(i:Y)) d0M).1]) ⟨b,?_⟩ (G:Z L-(i+1)<Z L-i)<|Wk.trans (wk (st':=⟨[(3,S .z f0),(4,S .z l),(5,cU q),(8,.c<|.S MT L),(10,.c<|.X 9007000),(11,cI ((i+1:V):Y))],[(9007000,.vec 167 (.sl ar)<|o++[(I L (af<|(i:Y)) d0M).1])],20,[]⟩) (bM J) ⟨bR J,A⟩)<|Wk.trans (gW 6000000 9007000 J J J) aV;show o++[_]=(M (i+1) L).map (·.1);rw[ei,i2,sW,fF,aN,cO b];rfl
  .have b:i=Z L:=by have b:¬(i:Y)<(Z L:Y):=bc b;omega
   rw[b,gQ]at i2;subst i2;refine bt<|aK ?_;refine da 6000000 J J J ?_;refine R<|rc J J EJ<|rc J J EJ<|rc J J had<|z J<|rr J ?_;have hpw:∀ix:V,((q:Y)^ix<=((gR l:V):Y)+((gR l:V):Y)↔q^ix<=2*gR l):=λix=>by rw[<-uL];omega
   refine j<|az<|bq (α:=V) (λk=>⟨[(3,S .z f0),(4,S .z l),(5,cU q),(10,S (.sl ar)<|L.map (·.1)),(12,.c<|.P 9005000 0),(13,cI k)],[(9005000,.box 42 0<|av .z<|((gR l:V):Y)+((gR l:V):Y))],11,[]⟩) (λk=>1<=k/\k<=nv q (2*gR l)) (λk=>nv q (2*gR l)-k) 1 ⟨aT _,k1⟩ aV ?_;rintro k ⟨e1,e2⟩;refine j<|R<|rc J J (UW q k G G)<|rc J J (M4 _ _)<|z J<|F J (λv=>?_)<|λv=>?_
   .have v:=(hpw k).1<|afe.1<|aW v;have U:k≠nv q (2*gR l):=λe=>by rw[e]at v;omega
    refine aE<|az<|rt J (hp:=aF)<|fB<|a4 (k+1) ⟨G,G⟩ (G:nv q (2*gR l)-(k+1)<nv q (2*gR l)-k) aV
   .have v:¬q^k<=2*gR l:=λe=>bc v (afe.2<|(hpw k).2 e)
    have U:k=nv q (2*gR l):=Nat.le_antisymm e2<|BY λe=>v<|k3 k e1 e;subst U;refine bt<|aK ?_;refine R<|rc J J hlX<|rc J J (UW q _ G G)<|rc J J RF<|z J<|R<|gP (.sl .q) [] J J (z J<|j<|rr J ?_);refine az<|bq (α:=V×E (E N)) (λy=>⟨[(3,S .z f0),(14,S (.sl .z) n),(15,.c<|.X 13000000),(16,cI y.1)],[(13000000,.vec 29 (.sl .q) y.2)],15,[]⟩) (λy=>y.1<=Z n/\y.2=(M y.1 n).map (kE<|dR a)) (λy=>Z n-y.1) (0,[]) ⟨bf _,J⟩ aV ?_;rintro⟨i,o⟩ ⟨i1,i2⟩;simp only at i1 i2;have ho:Z o<=9:=by rw[i2,cT,gL];omega
    refine j<|rr J<|F J (λb=>?_)<|λb=>?_
    .have b:i<Z n:=by have b:(i:Y)<(Z n:Y):=aW b;omega
     have hm:I n (af<|(i:Y)) (ET.dG<|.sl .z)=n[i]:=by rw[cr,aN,cO b];rfl
     have hb:=Qm _<|tR b;rw[<-hm]at hb;refine aE<|j<|az ?_;refine cK<|rc J J hb (rl (.sl .q) [_] J J (ra J J J J J J J J J ?_ ?_<|z J ?_)) (hp:=aF)
     .show(Z o+1+(Z o+1)/4+192)*24<=_;omega
     .show(Z o+1)*1<=_;omega
     refine bL<|rt J (hp:=aF)<|a4 (i+1,o++[kE (dR a) (I n (af<|(i:Y))<|ET.dG<|.sl .z)]) ⟨b,?_⟩ (G:Z n-(i+1)<Z n-i)<|Wk.trans (wk (st':=⟨[(3,S .z f0),(14,S (.sl .z) n),(15,.c<|.X 16013000),(16,cI ((i+1:V):Y))],[(16013000,.vec 29 (.sl .q)<|o++[kE (dR a) (I n (af<|(i:Y))<|ET.dG<|.sl .z)])],30,[]⟩) (bM J) ⟨bR J,A⟩)<|Wk.trans (gW 13000000 16013000 J J J) aV;show o++[_]=(M (i+1) n).map (kE<|dR a);rw[hm,i2,sW,fF,cO b];rfl
    .have b:i=Z n:=by have b:¬(i:Y)<(Z n:Y):=bc b;omega
     rw[b,gQ]at i2;subst i2;refine bt<|aK ?_;refine da 13000000 J J J ?_;exact rr J<|c7 J
def agP{s t u}{a b}(l:bU a)(f:bU b)(d:b≠[])(m:Z a<=500)(n:Z b<=500)(g:Ht (2^t) (lx a))(k:Ht (2^u) (lx b))(h:t+(u+1)*(Z a+1-Z b)<32*s)(o:u<32*s):CR s a b:=by
 let ⟨q1,p,v⟩:=JQ f d g k;refine⟨m,n,f.ne d,λi=>k.qs (nt o) i,λj w i=>?_,λh=>(yk l).ne h,λi=>p.qs (nt h) i⟩;by_cases hl:Z b<=Z a
 .exact(v hl j w).qs (nt h) i
 .have:j=0:=by omega
  subst this;exact g.qs (nt G) i
def Wx{t u}(k:t<=2000)(l:u<=2000){a b}(f:bU a)(g:bU b)(d:b≠[])(m:Z a<=9)(n:Z b<=9)(h:Ht (2^t) (lx a))(i:Ht (2^u) (lx b)):ao c 116 [S .q a,S .q b] (S .q<|jr a b):=by have o:=cR.2 d;have p:(u+1)*(Z a+1-Z b)<=(u+1)*9:=jk _ G;exact aqx (s:=100000000) G G f d<|agP f g d G G h i G G
def agQ{t}(w:t<=2000){a b}(l:bU a)(d:bU b)(p:a≠[])(x:Z a<=9)(B:Z b<=9)(m:Ht (2^t) (lx a))(n:Ht (2^t) (lx b)):∃g,ao c 131 [S .q a,S .q b] (S .q g)/\bU g/\Jh (lx g) (lx a) (lx b):=by
 let ⟨C,g2,u⟩:=aqi (k:=Z b+1) l d G p;obtain⟨s,H⟩:∃s,s=100000000:=⟨_,J⟩;have f:Aj s (Z b+1) a b/\(∀i,QS s (I (jL (Z b+1) a b) i 0))/\Z (jL (Z b+1) a b)<=500:=by
  rw[Aj,jL];split
  .rename_i e;exact⟨.inl e,λi=>m.qs (nt G) i,G⟩
  .rename_i e;have K:=cR.2 e;let ⟨q1,v,L⟩:=JQ d e m n;have P:(t+1)*(Z a+1-Z b)<=(t+1)*9:=jk _ G;have o:3^Z b<=19683:=b6 (eZ D (G:Z b<=9)) D;let ⟨i1,i2,i3⟩:=aeC (s:=s) (Z b) (t+(t+1)*(Z a+1-Z b)) b (eO<|fK a b) d (ve _) (by rcases Pc (a:=a) e with h|h;omega;rw[h,sH];omega) ((Pc (a:=a) e).symm) G
    (n.le<|eZ D<|Nat.le_add_right _ _) (aeB (yk l) v) (by refine b6 (jk _ o) ?_;omega)
   exact⟨.inr ⟨agP l d e G G m n G G,i1⟩,i2,i3⟩
 exact⟨_,aqz G G (Z b+1) a b l d f.1 G f.2.1,g2,u⟩
def kR(n:V):V->V:=λm=>m-n
def agR n L:pF (kR n) L=pF (kW<|n+1) L*pF (kR<|n+1) L:=by rw[<-Cw];exact x6 λx _=>by unfold kW kR;split<;>omega
def as'{L}(h:FL L){n}{a}(g:Jh a (pF (kW n) L) (pF (kR n) L)):a=pF (kW<|n+1) L:=by
 let ⟨d1,d2,d3,U,V,d4⟩:=g;refine d1.eq (wD h.mo) ?_ ?_
 .have b:Co a (pF (kP n) L):=FK d1.ne λQ d q1 i=>by
   let ⟨x,hx,s,k⟩:=z0 d i;let ⟨z,f,l,m⟩:=z0 d<|dvd_trans q1 d3;have o:x.2=n:=UE.1 (by have:=Ji n x.2;omega);have t:n<z.2:=by unfold kR at l;omega
   have p:x.1=z.1:=(h.gH x hx).eq (h.gH z f) (h.mo x hx) (h.mo z f)<|dvd_trans (d.assoc (h.gH x hx) k) m;exact FL.UD h.Cv hx f (λe=>by rw[e]at o;omega) p
  rw[UF]at d2;exact b.dvd d2
 .rw[d4];exact dvd_add (dQ (by rw[UF n L];exact dvd_mul_left _ _) _)<|dQ (by rw[agR n L];exact dvd_mul_right _ _) _
def ata{a}(d:bU a)(b:2<=Z a):bU (tk a):=by
 right;rw[Vn,ad' G,(G:Z a-1-1+1=Z a-1)];have f:=d.ne (λe=>by rw[e]at b;simp at b);intro e;rcases zX.1 e with e|e
 .have:((Z a-1:V):Y)=0:=by exact_mod_cast e
  omega
 .exact f e
def atb{a:V->V}(b:∀m,a m<=m) L:pF a L∣pF id L:=by refine⟨pF (λm=>m-a m) L,?_⟩;rw[<-Cw];exact x6 λx _=>by have:=b x.2;show x.2=_;omega
def C6:V->V->E N->E N->E (E N×Y)->E (E N×Y)->Prop
 |0,_,_,_,_,_=>False
 |k+1,n,w,a,acc,out=>if 1<Z w then∃p g b,
   ao c 131 [S .q w,S .q a] (S .q p)/\ao c 116 [S .q w,S .q p] (S .q g)/\ao c 116 [S .q a,S .q p] (S .q b)/\
   C6 k (n+1) p b (if 1<Z g then acc++[(g,(n:Y))]else acc) out
  else out=acc
def atc(a w s:E N) out(Q:Z a<=9)(t:¬Z a<2){d g u:E N}(v:ao c 132 [S .q a] (S .q d))(B:ao c 131 [S .q a,S .q d] (S .q g))(H:ao c 29 [S .q a] (S .q u))(L:ao c 116 [S .q u,S .q g] (S .q w))
  (P:C6 (Z a) 1 w g [] out):ao c 140 [S .q a] (S UT out):=by
 refine aL Tryz.func140 ?_
 refine e J<|R<|gP UT [] J J (z J<|j<|e J<|F J (λh=>?_)<|λ_=>aE ?_)
 .have h:(Z a:Y)<2:=aW h;exact absurd h G
 refine R<|rc J J v<|rc J J B<|z J<|R<|rc J J H<|rc J J L<|z J<|j<|e J ?_
 refine az<|bq (α:=V×V×E N×E N×E (E N×Y)) (λx=>⟨[(3,.c<|.X 1000000),(4,S .q x.2.2.2.1),(5,S .q x.2.2.1),(6,O x.2.1)],[(1000000,.vec 114 UT x.2.2.2.2)],7,[]⟩) (λx=>C6 x.1 x.2.1 x.2.2.1 x.2.2.2.1 x.2.2.2.2 out/\Z x.2.2.2.2<x.2.1/\x.2.1+x.1<=20) (λx=>x.1) (Z a,1,w,g,[]) ⟨P,Nat.zero_lt_one,(G:1+Z a<=20)⟩ aV ?_
 rintro⟨k,n,w,s,b⟩ ⟨i,t,C⟩
 simp only at i t C
 cases k with
 |zero=>exact absurd i<|λh=>h
 |succ k=>
  rw[C6]at i
  refine j<|e J<|F J (λl=>?_)<|λl=>?_
  .have l:1<Z w:=by have l:(Z w:Y)>1:=aW l;omega
   rw[q l]at i;let ⟨p,f,K,d1,d2,d3,i⟩:=i;refine dc<|aK<|j<|az<|R<|rc J J d1<|z J<|R<|rc J J d2<|z J<|nX ⟨[(3,.c<|.X 1000000),(4,S .q s),(6,O n),(7,S .q p)],[(1000000,.vec 114 UT (if 1<Z f then b++[(f,(n:Y))]else b))],30,[]⟩ ?_<|λm=>e J<|F J (λo=>?_)<|λo=>dc ?_
   .refine e J<|cK<|rc J J d3<|z J<|bL<|rt J (hp:=aF)<|a4 (k,n+1,p,K,if 1<Z f then b++[(f,(n:Y))]else b) ⟨i,?_,by show n+1+k<=_;omega⟩ (dJ k) aV;show Z (if 1<Z f then b++[(f,(n:Y))]else b)<n+1;split
    .rw[iX];show Z b+1<_;omega
    .omega
   .have o:1<Z f:=by have o:(Z f:Y)>1:=aW o;omega
    rw[q o]at m;refine cK<|rl UT [(f,(n:Y))] J J (ra J J J J J J J J J ?_ ?_<|z J ?_)
    .show(Z b+1+(Z b+1)/4+192)*32<=_;omega
    .show(Z b+1)*2<=_;omega
    .exact fJ m<|Wk.trans (wk (st':=⟨[(3,.c<|.X 11005000),(4,S .q s),(6,O n),(7,S .q p)],[(11005000,.vec 114 UT<|b++[(f,(n:Y))])],12,[]⟩) (bM J) ⟨bR J,A⟩)<|Wk.trans (gW 1000000 11005000 J J J) aV
   .have o:¬1<Z f:=by have o:¬(Z f:Y)>1:=bc o;omega
    rw[y o]at m;exact fJ m aV
  .have l:¬1<Z w:=by have l:¬(Z w:Y)>1:=bc l;omega
   rw[y l]at i;rw[i];exact nL<|rk<|ov<|nM<|aK<|da 1000000 J J J<|e J<|bV<|atR J
def atd{t}(ht:t<=1500){a}(ha:bU a)(h0:a≠[])(la:Z a<=9)(hA:Ht (2^t) (lx a)){L}(P:FL L)(hF:pF id L=lx (eO a))(hD:∀uu,Mo uu->uu∣pF id L->Ht (2^t) uu):
  ∃B,ao c 140 [S .q a] (S UT B)/\B.map (λp=>(lx p.1,p.2))=oc L (Z a) 1/\∀p∈B,bU p.1:=by
 have hl:=cR.2 h0
 have lm:=Vx ha
 have gw:sz (pF id L)=Z a:=by rw[hF,fS<|ve a,lm]
 have Q:∀{o:V->V}{w:E N},(∀m,1<=m->o m<=m)->bU w->lx w=pF o L->Z w<=9/\w≠[]/\Ht (2^t) (lx w)/\Mo (lx w):=λ{o w} hc W cz=>by
  have e2:pF o L=pF (λm=>min (o m) m) L:=x6 λx H=>by have:=hc x.2<|P.pos x H;show _=min _ _;omega
  have hm:Mo (lx w):=by rw[cz];exact wD P.mo
  have hd:lx w∣pF id L:=by rw[cz,e2];exact atb (λm=>Nat.min_le_right _ _) L
  have v:=jK hd (wD P.mo).ne;rw[fS W,gw]at v;exact⟨G,λcz=>by rw[cz,pj]at hm;exact hm.ne J,hD _ hm hd,hm⟩
 by_cases h2:Z a<2
 .have H:∀x∈L,x.2<1:=λx H=>by have:=VD P H;omega
  refine⟨[],?_,by rw[VB _ H];rfl,λp hp=>by cases hp⟩;refine aL Tryz.func140 ?_;refine e J<|R<|rl UT [] J J (z J<|j<|e J<|F J (λ_=>?_)<|λh=>?_)
  .exact e J<|bV<|cQ<|atR J
  .have h:¬(Z a:Y)<2:=bc h;exact absurd h G
 have qd:=ata ha G
 have ed:lx (tk a)=bA (lx a):=aqf a
 have ld:=Vn a
 have td:Ht (2^(t+4)) (lx<|tk a):=by rw[ed];exact(hA.bA (n:=9) (by rw[fS ha];omega) G).le (by rw[ku,hJ];exact jk _ D)
 have c1:=aqr (k:=100000000) a G (λi=>hA.qs (nt G) i) G G
 generalize tk a=d at*
 have lift:∀{a b:V}{A:Rx},Ht (2^a) A->a<=b->Ht (2^b) A:=λh Qs=>h.le<|eZ D Qs
 let ⟨g,c2,qg,gg⟩:=agQ (t:=t+4) (a:=a) (b:=d) G ha qd h0 G G (lift hA G) td
 obtain⟨o,ec⟩:∃o,o=(I a (Z a-1) 0)⁻¹ :=⟨_,J⟩
 have hc0:o≠0:=by rw[ec];exact sa<|ha.ne h0
 have eM:lx (eO a)=K o*lx a:=by rw[Al h0,ec]
 have gF:Jh (lx g) (pF id L) (bA<|pF id L):=by let ⟨g1,g2,g3,U,C3,g4⟩:=gg;rw[hF,eM,Jb];rw[ed]at g3 g4;refine⟨g1,dQ g2 _,dQ g3 _,U*K o⁻¹,C3*K o⁻¹,?_⟩;have e1:U*K o⁻¹ *(K o*lx a)+C3*K o⁻¹ *(K o*bA (lx a))=(K o⁻¹ *K o)*(U*lx a)+(K o⁻¹ *K o)*(C3*bA (lx a)):=fq;rw[e1,ph hc0,one_mul,one_mul];exact g4
 let ⟨eg,_⟩:=aoy P gF
 have eg:lx g=pF (kR 1) L:=eg
 have hkW:∀n m,1<=m->kW n m<=m:=λn m h=>b6 (acR n m) h
 have hkR:∀n m,1<=m->kR n m<=m:=λn m _=>Nat.sub_le _ _
 let ⟨g9,g0,tg,mg⟩:=Q (hkR 1) qg eg
 have c3:=VF (k:=100000000) a G (λi=>hA.qs (nt G) i) (λ_=>ha.ne h0) G
 have c4:=Wx (t:=t) (u:=t) (a:=eO a) (b:=g) G G (ve a) qg g0 G g9 (by rw[<-hF];exact hD _ (wD P.mo)<|dvd_refl _) tg
 have ewq:lx (jr (eO a) g)=pF (kW 1) L:=zY mg.ne ((CG (ve a) qg g0<|hF▸gF.l).symm.trans<|by rw[<-hF,UG P,eg];rfl)
 have qw:=O6 (eO a) g
 generalize jr (eO a) g=w1 at*
 have run:∀(k n:V)(w T:E N)(C:E (E N×Y)),n+k=Z a+1->1<=k->1<=n->bU w->bU T->lx w=pF (kW n) L->lx T=pF (kR n) L->∃s,C6 k n w T C (C++s)/\s.map (λp=>(lx p.1,p.2))=oc L k n/\∀p∈s,bU p.1:=by
  intro k;induction k with
  |zero=>intro n w T C _ h;omega
  |succ k ih=>
   intro n w T C hnk _ hn W hy M ey
   let ⟨w9,w0,tw,mw⟩:=Q (hkW n) W M
   let ⟨y9,y0,ty,my⟩:=Q (hkR n) hy ey
   by_cases hc:1<Z w
   .obtain⟨x,H,hxn⟩:∃x∈L,n<=x.2:=fc λO=>by
     have e1:pF (kW n) L=1:=N9 λx H=>y λh=>O ⟨x,H,h⟩
     rw[e1]at M;have:=fS W;rw[M,rZ]at this;omega
    have BQ:=VD P H;let ⟨p,d1,qp,gp⟩:=agQ (t:=t) (a:=w) (b:=T) G W hy w0 w9 y9 tw ty;rw[M,ey]at gp;have ep:=as' P gp;let ⟨p9,p0,tp,mp⟩:=Q (hkW<|n+1) qp ep;have d2:=Wx (t:=t) (u:=t) G G W qp p0 w9 p9 tw tp;have d3:=Wx (t:=t) (u:=t) G G hy qp p0 y9 p9 ty tp;have eg2:lx (jr w p)=pF (kP n) L:=zY mp.ne ((CG W qp p0<|by rw[M];exact gp.l).symm.trans<|by rw[M,ep];exact UF n L);have ez:lx (jr T p)=pF (kR<|n+1) L:=zY mp.ne ((CG hy qp p0<|by rw[ey];exact gp.r).symm.trans<|by rw[ey,ep,mul_comm<|pF (kR<|n+1) L];exact agR n L);have qg2:=O6 w p;have qz:=O6 T p;generalize jr w p=f at*;generalize jr T p=fw at*;let ⟨s,o1,o2,o3⟩:=ih (n+1) p fw (if 1<Z f then C++[(f,(n:Y))]else C) G G G qp qz ep ez;have Sp:sz (pF (kP n) L)=Z f:=by rw[<-eg2,fS qg2]
    refine⟨(if 1<Z f then[(f,(n:Y))]else[])++s,?_,?_,?_⟩
    .rw[C6,q hc];refine⟨p,f,fw,d1,d2,d3,?_⟩;by_cases v:1<Z f
     .rw[q v]at o1⊢;rw[q v,<-lP];exact o1
     .rw[y v]at o1⊢;rw[y v];exact o1
    .rw[oc,fF,o2,Sp];by_cases v:1<Z f
     .rw[q v,q v,gJ,C5,eg2]
     .rw[y v,y v];rfl
    .intro lz X;rcases be.1 X with X|X
     .by_cases v:1<Z f
      .rw[q v,iw]at X;rw[X];exact qg2
      .rw[y v]at X;cases X
     .exact o3 lz X
   .have O:∀x∈L,x.2<n:=λx H=>Nat.lt_of_not_le λh=>by have v:=jK (Jg (c:=kW n) H<|by rw[N'.2 h];omega) (wD P.mo).ne;have h2:=(P.gH x H).1;rw[<-M,fS W]at v;omega
    refine⟨[],?_,by rw[VB _ O];rfl,λp hp=>by cases hp⟩;rw[C6,y hc,ik]
 let ⟨B,o1,o2,o3⟩:=run (Z a) 1 w1 g [] G G G qw qg ewq eg
 exact⟨B,atc a w1 g B la h2 c1 c2 c3 c4 o1,o2,o3⟩
open Classical in
noncomputable def lJ(b:E N):E (E N):=if e:∃a,((∀u∈a,I u (Z u-1) 0=1/\bU u/\Mo (lx u)/\bu (lx u))/\oe a=lx b)/\ao c 141 [S .q b] (S (.sl .q) a)then yb e else[]
def agW{a}(h:js a)(d:∀i,QS 20 (I a i 0)):((∀u∈lJ a,I u (Z u-1) 0=1/\bU u/\Mo (lx u)/\bu (lx u))/\oe (lJ a)=lx a)/\ao c 141 [S .q a] (S (.sl .q)<|lJ a):=by let ⟨G,f,g2,g⟩:=as2 h d;have e:∃b,((∀u∈b,I u (Z u-1) 0=1/\bU u/\Mo (lx u)/\bu (lx u))/\oe b=lx a)/\ao c 141 [S .q a] (S (.sl .q) b):=⟨_,h.unG f g2,g⟩;unfold lJ;rw[dif_pos e];exact wu e
def atg{ir:E N->E (E N)}{a}{i}(h:i<Z a):fV ir (M (i+1) a)=fV ir (M i a)++(ir (I a i yr).1).map (λu=>(u,(I a i yr).2))/\∃C,fV ir a=fV ir (M (i+1) a)++C:=by
 have b:M (i+1) a=M i a++[I a i yr]:=by rw[sW,aN,cO h];rfl
 refine⟨?_,fV ir<|ay (i+1) a,?_⟩
 .rw[b,fV,fV,D5];simp
 .rw[fV,fV,fV,<-D5,sI]
def ath{a:E N}(h:og a):∃w,afm a w/\Z w<=8/\(∀x∈w,Gc 20 x)/\ao c 87 [S .q a] (.t [(ae,av .q<|I a (Z a-1) 0),(ah,[.S UT w]),(ah,[.I .i64 0])]):=by
 let ⟨L,hL,H⟩:=Rx.acQ _ (Rx.lx<|eO a) (dJ _) h.mo;let ⟨out,o1,o2,o3⟩:=atd (t:=1500) G h.can h.ne h.l9 h.hA hL H<|λuu hD hd=>(h.ht hD<|H▸hd).le<|Rx.Pb 1500 (k:=600) D;let ⟨p1,K,p3,p4,p5,p6⟩:=h.aq' (ir:=lJ) (λq h hq=>(agW h hq).1) hL H o2 o3;let ⟨a1,a2⟩:=Wv _ (fV lJ out) J;refine⟨qZ<|fV lJ out,⟨λx Q=>p4 x<|a1.mem_iff.1 Q,by rw[aq3 a1,p5],a1.symm.pairwise p6 (λh T=>h T.symm),asY a2⟩,by rw[a1.length_eq];exact K,λx Q=>p3 x<|a1.mem_iff.1 Q,?_⟩;refine aL Tryz.func87 ?_;have la:=cR.2 h.ne;have l9:=h.l9;have G':Z out<=9:=by have h1:=afz (L:=L) (Z a) 1;rw[<-o2,cT]at h1;omega
 refine e J<|j<|e J<|F J (λh1=>?_)<|λ_=>aE ?_
 .exfalso;have h1:((Z a:Y)==0)=ae:=h1;have:=eq_of_beq h1;omega
 refine j<|e J<|F J (λh1=>?_)<|λ_=>aE ?_
 .exfalso;have h1:(Z a:Y)>13:=aW h1;omega
 refine R<|rl UT [] J J (z J<|bH J J o1 J<|j<|e J ?_);refine az<|bq (α:=V) (λi=>⟨[(0,S .q a),(2,.c<|.P 0 0),(5,S UT<|qZ<|fV lJ<|M i out),(6,S UT out),(7,O i)],[(0,.box 44 0 [.B ah,.V<|.slice none 0 0,.B ah,.V<|.slice none 0 0])],20,[]⟩) (λi=>i<=Z out) (λi=>Z out-i) 0 (bf _) (wk ⟨sR J,sR J,sE J J,sR J,sR J,A⟩ ⟨bE J J,A⟩) ?_;intro i hi;refine j<|e J<|F J (λh1=>?_)<|λh1=>?_
 .have h1:i<Z out:=by have h1:(i:Y)<(Z out:Y):=aW h1;omega
  have W:i+1<=Z out:=h1;have X:(I out (af<|(i:Y))<|ET.dG UT)=I out i yr:=bh (λr=>I out r yr)<|cr i;let ⟨g1,g2,g3⟩:=p1 (I out i yr) PH;have p:=(agW g1 g2).2;let ⟨l,C,U⟩:=atg (ir:=lJ) h1;rw[<-X]at p l;generalize Lu:lJ (I out (af<|(i:Y))<|ET.dG UT).1=us at*;generalize hm:(I out (af<|(i:Y))<|ET.dG UT).2=m at*;have m6:Z us<=8:=by have h3:=K;rw[U,l,iX,iX,cT]at h3;omega
  refine aE<|j<|az<|R<|rc J J p (z J<|e J ?_) (hp:=aF);refine az<|bq (α:=V) (λb=>⟨[(0,S .q a),(2,.c<|.P 0 0),(5,S UT<|qZ<|fV lJ (M i out)++(M b us).map λu=>(u,m)),(6,S UT out),(7,O i),(8,S (.sl .q) us),(9,O b)],[(0,.box 44 0 [.B ah,.V<|.slice none 0 0,.B ah,.V<|.slice none 0 0])],30,[]⟩) (λb=>b<=Z us) (λb=>Z us-b) 0 (bf _) (wk ⟨sR J,sR J,sE J ?_,sR J,sR J,sR J,sR J,A⟩ ⟨bR J,A⟩) ?_
  .rw[Fl,C5,ik]
  intro b hj;refine j<|e J<|F J (λg=>?_)<|λg=>?_
  .have g:b<Z us:=by have g:(b:Y)<(Z us:Y):=aW g;omega
   have s:(I us (af<|(b:Y))<|ET.dG<|.sl .q)=us.getD b []:=bh (λr=>us.getD r [])<|cr b;have htk:M (b+1) us=M b us++[us.getD b []]:=by rw[sW,aN,cO g];rfl
   have o:∀y∈fV lJ (M i out)++us.map (λu=>(u,m)),Gc 20 y:=λy n=>p3 y (by rw[U,l];exact eH _ n)
   have v:∀y∈fV lJ (M i out)++(M b us).map (λu=>(u,m)),Gc 20 y:=λy n=>o y (by
    rcases be.1 n with n|n
    .exact eH _ n
    .obtain⟨u,hu,rfl⟩:=kF.1 n;exact gI _<|PB (f:=λu=>(u,m))<|EX hu)
   have hlen:Z (fV lJ (M i out)++(M b us).map (λu=>(u,m)))<=8:=by have h3:=K;rw[U,l,iX,iX,cT]at h3;rw[iX,cT,gL];omega
   let ⟨b1,_⟩:=Wv _ (fV lJ (M i out)++(M b us).map (λu=>(u,m))) J;have d:=asa (qZ<|fV lJ (M i out)++(M b us).map (λu=>(u,m))) (us.getD b [],m) (by rw[b1.length_eq];omega) (o _<|gI _<|PB (f:=λu=>(u,m))<|by rw[aN,cO g];exact tR g)<|λy n=>v y<|b1.mem_iff.1 n;have d:ao c 142 [S UT (qZ<|fV lJ (M i out)++(M b us).map (λu=>(u,m))),.a<|av UT (us.getD b [],m)] (S UT<|qZ<|fV lJ (M i out)++(M (b+1) us).map (λu=>(u,m))):=by rw[htk,fF,<-lP,gJ,C5,agJ];exact d
   have d:ao c 142 [S UT (qZ<|fV lJ (M i out)++(M b us).map (λu=>(u,m))),.a<|av UT (I us (af<|(b:Y))<|ET.dG<|.sl .q,(I out (af<|(i:Y))<|ET.dG UT).2)] (S UT<|qZ<|fV lJ (M i out)++(M (b+1) us).map (λu=>(u,m))):=by rw[s,hm];exact d
   refine aE<|j<|az<|cK<|rc J J d (z J<|bL<|rt J (hp:=aF)<|a4 (b+1) g (G:Z us-(b+1)<Z us-b) aV) (hp:=aF)
  .have g:b=Z us:=by have g:¬(b:Y)<(Z us:Y):=bc g;omega
   subst g;rw[gQ,<-l];exact bt<|bL<|rt J (hp:=aF)<|a4 (i+1) W (G:Z out-(i+1)<Z out-i) aV
 .have h1:i=Z out:=by have h1:¬(i:Y)<(Z out:Y):=bc h1;omega
  subst h1;rw[gQ];refine bt<|aK ?_;refine e J (hp:=aF)<|bY J ?_;have T:af ((Z a:Y)-1)=Z a-1:=G;show AV.t [(ae,av .q<|I a (af<|(Z a:Y)-1) 0),(ah,[C.S UT (qZ<|fV lJ out)]),(ah,[.I .i64 0])]=_;rw[T]
def PO:E (E N×Y)->Bool
 |[x]=>x.2==1
 |_=>ah
def atj{a}(h:Z a≠1):PO a=ah:=by
 match a with
 |[]=>rfl
 |[x]=>exact absurd J h
 |x::y::l=>rfl
def atk{a:E N}{b:E (E N×Y)}{d:N}(f:ao c 87 [S .q a] (.t [(ae,av .q d),(ah,[.S UT b]),(ah,[.I .i64 0])])):ao c 33 [S .q a] (cB<|PO b):=by
 refine aL Tryz.func33 ?_;refine e J<|bH J J f J<|R<|rg 14 J J (λ_=>rg 19 J J (λh=>?_)<|λh=>?_)<|λh=>fR
 .have h:(Z b:Y)=1:=eq_of_beq h;obtain⟨x,rfl⟩:=List.length_eq_one_iff.1 (G:Z b=1);exact z J<|bY J J
 .have h:(Z b:Y)≠1:=nY h;exact z J<|bY J<|bh cB (atj G).symm
def atl{a}(h:bU a):fI a=a:=rY (k6 a) h<|r9 a
structure C7(l:E Y):Prop where
 l4:l.length<=4
 sm:∀x∈l,-128<=x/\x<=127
def Wy(l:E Y):I (l++[1]) (Z l) 0=1:=by simp[aN]
def Wz l:bU ((l++[1]).map iQ):=afA (n:=Z l) ax<|Wy l
def agX{l}(h:C7 l) i:∃b:Y,aA b<=128/\I ((l++[1]).map iQ) i 0=(b:N):=by
 have:=CZ (l++[1]) i;rw[fj]at this;refine⟨_,?_,this⟩;rw[aN];cases hx:(l++[1])[i]? with
 |none=>decide
 |some x=>
  have a:=LK hx
  rcases be.1 a with a|a
  .have:=h.sm x a;show aA x<=128;omega
  .have:x=1:=by simpa using a
   subst this;decide
def agY{l}(h:C7 l):Ht (2^7) (lx<|(l++[1]).map iQ):=⟨1,D,D,λi=>by let ⟨z,a,h2⟩:=agX h i;exact⟨z,a,by rw[fj,h2];exact qL _⟩⟩
def atm{l}(h:C7 l) i:QS 1 (I ((l++[1]).map iQ) i 0):=(agY h).qs (nt D) i
def agZ l(h:C7 l):wJ (l++[1]) 4=(l++[1]).map iQ:=by rw[wJ,iY (by rw[iX,rA];have:=h.l4;omega),atl<|Wz l]
structure e9(m:E N):Prop where
 can:bU m
 top:m.getD (m.length-1) 0=1
 l2:2<=m.length
 l5:m.length<=5
 gH:bu (lx m)
 ht:Ht (2^7) (lx m)
def e9.of{l}(h:C7 l)(a:l≠[])(b:bu (lx<|(l++[1]).map iQ)):e9 ((l++[1]).map iQ):=by have d:=cR.2 a;have f:=h.l4;refine⟨Wz l,?_,bX,bX,b,agY h⟩;have:=CZ (l++[1])<|Z l;rw[fj,Wy]at this;rw[cT,iX,rA,eE,this];rfl
def atn{a}{b}(h:afm a b)(f:I a (Z a-1) 0=1)(l:bU a)(g:a≠[])(d:PO b=ae):bu (lx a):=by
 match b,d with
 |[x],d=>
  have i:x.2=1:=eq_of_beq d
  have e:=h.prod
  let ⟨_,i2,_⟩:=h.ok x ax
  rw[g7,g7,i,Rx.mul_one]at e
  have k:lx (eO a)=lx a:=by rw[Al g,f,show(1:N)⁻¹ =1 by decide+kernel,qM,Rx.one_mul]
  rw[k,show af (1:Y)=1 from J,rW]at e
  rw[<-e];exact i2
def ato{l}(h:C7 l):∃v:Bool,ao c 32 [S .q ((l++[1]).map iQ)] (cB v)/\(v=ae->l≠[]/\bu (lx<|(l++[1]).map iQ)):=by
 have B:=h.l4;have b:Z ((l++[1]).map iQ)=Z l+1:=ax;have a:I ((l++[1]).map iQ) (Z ((l++[1]).map iQ)-1) 0=1:=by have:=CZ (l++[1])<|Z l;rw[fj,Wy]at this;rw[b,eE,this];rfl
 have n:=Wz l;have o:=atm h;have p:=agX h;generalize hm:(l++[1]).map iQ=m at*;have u:m≠[]:=λe=>by subst e;cases b
 have s:=ar9 (k:=1) D m G (by rw[a];decide) o u;by_cases x:l=[]
 .refine⟨ah,?_,λe=>vY⟩;subst x;refine aL Tryz.func32 ?_;refine rr J<|j<|R<|rc J J s<|rg 6 J J (λh=>fR)<|λ_=>?_;refine rg 11 J J (λ_=>z J<|F J (λ_=>rr J<|bV<|cQ<|atR J)<|λh=>fR)<|λg=>?_;have g:¬(Z m:Y)<2:=bc g;rw[sH]at b;exact absurd g G
 have C:=cR.2 x;have H:og m:=arq n u G (D:=1) D D λi=>by let ⟨K,L,g⟩:=p i;exact⟨K,b6 L D,by rw[g];exact qL _⟩
 let ⟨fs,f1,_,_,f4⟩:=ath H;have t:=atk f4;refine⟨PO fs,?_,λP=>⟨x,atn f1 a n u P⟩⟩;have d:=Pe m u G;rw[a]at d;have f:=FZ (k:=1) (1:N) 1 (by have:=o<|Z m-1;rwa[a]at this) D;rw[qB J]at f;have Q:=zC 1 D D;refine aL Tryz.func32 ?_;refine rr J<|j<|R<|rc J J s<|rg 6 J J (λh=>fR)<|λ_=>?_;refine rg 11 J J (λg=>?_)<|λg=>?_
 .have g:(Z m:Y)<2:=aW g;exact absurd g G
 refine z J<|F J (λw=>?_)<|λw=>aE ?_
 .have w:(Z m:Y)>9:=aW w;exact absurd w G
 exact R<|rc J J d<|rc J J Q<|rc J J f<|rg 20 J J (λ_=>gO J J J J J t<|z J<|c7 J)<|λh=>fR
def aY.get_at{g:Gh}:∀{a:E C}{vs:E Value}{j:V}{b:C},aY g a vs->a[j]? =ad b->∃v,cN g b v
 |[],_,_,_,_,h=>by cases h
 |_::_,_,0,_,⟨v,_,_,d,_⟩,h=>by cases h;exact⟨v,d⟩
 |_::_,_,j+1,_,⟨_,_,_,_,h2⟩,h=>aY.get_at (j:=j) h2 h
def atp{P}{n}{Q}(t o:V){T}{xs}{b}{i}{d}{mem}{k}{l}(hl:U t d=ad (.a b))(p:b[o]? =ad (.S T xs))(h:Z xs*T.n<=140737488355328->TR P n i ⟨d,mem,k,l⟩ Q):TR P n i ⟨d,mem,k,l⟩ Q:=by intro F s g W a m;have u:a8 g (.a b) (a.tmps.getD t undef):=m.dv t (.a b) A';let ⟨_,_,h2⟩:=u;let ⟨v,f⟩:=aY.get_at h2 p;have f:cN g (.S T xs) v:=f;let ⟨_,_,_,_,w,_⟩:=f;exact h w F s g W a m
def t8(x:Y):Y:=x.tmod 8
def atq x: -7<=t8 x/\t8 x<=7:=by unfold t8;rw[Int.tmod_eq_emod];split<;>omega
def J9:E (E Y):=[[-2,0,1],[1,0,1],[-2,0,0,1],[1,1,1],[-1,-1,0,1],[1,0,0,0,1],[1,0,-10,0,1],[-3,1]]
def Ay{l b}(d:Z l<=4)(h:∀x∈l,-128<=x/\x<=127)(f:l≠[])(g:b=l++[1])(i:bu (lx<|b.map iQ)):e9 (wJ b 4)/\∀x∈b,-128<=x/\x<=127:=by
 subst g;rw[agZ l ⟨d,h⟩];refine⟨e9.of ⟨d,h⟩ f i,λx a=>?_⟩;rcases be.1 a with a|a
 .exact h x a
 .have:x=1:=by simpa using a
  subst this;decide
def atr{i}(a:i<8):e9 (wJ (J9.getD i []) 4)/\∀x∈J9.getD i [],-128<=x/\x<=127:=by
 have:i=0\/i=1\/i=2\/i=3\/i=4\/i=5\/i=6\/i=7:=G;rcases this with rfl|rfl|rfl|rfl|rfl|rfl|rfl|rfl
 .exact Ay (l:=[-2,0]) D D D J arc
 .exact Ay (l:=[1,0]) D D D J ard
 .exact Ay (l:=[-2,0,0]) D D D J are
 .exact Ay (l:=[1,1]) D D D J arf
 .exact Ay (l:=[-1,-1,0]) D D D J arh
 .exact Ay (l:=[1,0,0,0]) D D D J ari
 .exact Ay (l:=[1,0,-10,0]) D D D J arj
 .exact Ay (l:=[-3]) D D D J ark
def ats k(b:E Y)(s:0<=k/\k<=255)(hc:∀x∈b,-128<=x/\x<=127):∃m,e9 m/\ao c 11 [.a [.I .u8 k,.S I8 b]] (S .q m):=by
 have p:C7 ((M 4 b).map t8):=⟨F6,λx g=>by obtain⟨C,_,rfl⟩:=kF.1 g;have:=atq C;omega⟩;let ⟨v,oB,xH⟩:=ato p;have n:=aeT ((M 4 b).map t8++[1]) 4 D (λx g=>by
  rcases be.1 g with g|g
  .exact p.sm x g
  .have:x=1:=by simpa using g
   subst this;decide)
 rw[agZ _ p]at n;have t:af ((k.tdiv 2).tmod 8)<8:=by rw[uG s.1,lX G];omega
 let ⟨u,H⟩:=atr t;have l:=aeT (J9.getD (af<|(k.tdiv 2).tmod 8) []) 4 D H;obtain⟨m,o⟩:∃m,m=if k.tmod 2=0/\v=ae then((M 4 b).map t8++[1]).map iQ else wJ (J9.getD (af<|(k.tdiv 2).tmod 8) []) 4:=⟨_,J⟩
 refine⟨m,?_,?_⟩
 .rw[o];split
  .rename_i h;let ⟨K,h2⟩:=xH h.2;exact e9.of p K h2
  .exact u
 clear xH u;generalize ((M 4 b).map t8++[1]).map iQ=r at*;refine aL Tryz.func11<|atp 0 1 J J λw=>?_;have w:Z b*1<=140737488355328:=w;refine e J<|R<|gP I8 [] J J (z J ?_);refine nX ⟨[(1,.c<|.P 0 0),(3,.c<|.X 1000000)],[(1000000,.vec 53 I8<|(M 4 b).map t8),(0,.box 24 0 [.I .u8 k,.S I8 b])],10,[]⟩ ?_<|λd=>e J ?_;rotate_left
 .refine az<|bq (α:=V) (λi=>⟨[(1,.c<|.P 0 0),(3,.c<|.X 1000000),(4,O i)],[(1000000,.vec 53 I8<|(M i b).map t8),(0,.box 24 0 [.I .u8 k,.S I8 b])],3,[]⟩) (λi=>i<=Z b/\i<=4) (λi=>Z b-i) 0 ⟨bf _,D⟩ aV ?_;rintro i ⟨N,L⟩;refine j (R<|rg 13 J J (λh=>?_)<|λh=>?_)
  .have h:i<Z b:=by have h:(i:Y)<(Z b:Y):=aW h;omega
   refine z J<|F J (λh2=>?_)<|λh2=>?_
   .have h2:i<4:=by have h2:(i:Y)<4:=aW h2;omega
    have f:=Pm t8 0 b i h;rw[show I b i 0=I b (af (i:Y)) I8.dG by rw[cr]]at f;refine aE<|j<|az<|cK<|rl I8 [t8 (I b (af (i:Y)) I8.dG)] J J (ra J J J J J J J J J ?_ ?_<|z J ?_) (hp:=aF)
    .show(_+1+(_+1)/4+192)*1<=_;simp only[cT,gL];omega
    .show(_+1)*1<=_;simp only[cT,gL];omega
    .refine bL (rt J (hp:=aF)<|a4 (i+1) ⟨h,h2⟩ (G:Z b-(i+1)<Z b-i)<|Wk.trans (wk (st':=⟨[(1,.c<|.P 0 0),(3,.c<|.X 4008000),(4,O ((i+1:V):Y))],[(4008000,.vec 53 I8<|(M (i+1) b).map t8),(0,.box 24 0 [.I .u8 k,.S I8 b])],6,[]⟩) ⟨sR J,sR J,sE J ?_,A⟩ ⟨bE J ?_,bR J,A⟩)<|Wk.trans (gW 1000000 4008000 J J J) aV)
     .rfl
     .rw[f]
   .have h2:i=4:=by have h2:¬(i:Y)<4:=bc h2;omega
    subst h2;exact bt<|fJ d aV
  .have h:i=Z b:=by have h:¬(i:Y)<(Z b:Y):=bc h;omega
   refine z J<|F J (λh2=>qJ)<|λ_=>?_;have Q:M i b=M 4 b:=by rw[iY G,iY G]
   exact bt<|fJ d<|wk (bM J) ⟨⟨_,J,kK.of_eq<|by rw[Q]⟩,bR J,A⟩
 refine R<|rl I8 [1] J J (ra J J J J J J J J J ?_ ?_<|z J ?_)
 .show(_+1+(_+1)/4+192)*1<=_;simp only[cT,gL];omega
 .show(_+1)*1<=_;simp only[cT,gL];omega
 refine da 10002000 J J J ?_;refine R<|rc J J n<|z J ?_;refine anq (λ_:Unit=>⟨[(1,.c<|.P 0 0)],[(0,.box 24 0 [.I .u8 k,.S I8 b])],20,[]⟩) (λ_=>¬(k.tmod 2=0/\v=ae)) (λ_ T=>?_)<|λd=>R<|rg 37 J J (λh=>?_)<|λh=>?_;rotate_left
 .have h:k.tmod 2=0:=eq_of_beq h;refine gO J J J J J oB<|z J ?_;cases v with
  |true=>
   rw[q ⟨h,J⟩]at o
   exact F J (λ_=>e J<|bV<|cQ<|fg J<|by rw[o])<|λh=>fR
  |false=>exact F J (λh=>fR)<|λ_=>dc<|fJ (d ()<|λh=>by cases h.2) aV
 .have h:k.tmod 2≠0:=ne_of_beq_false h;exact z J<|F J (λh=>fR)<|λ_=>dc<|fJ (d ()<|λW=>h W.1) aV
 refine R<|rl I8 [-2,0,1] J J (rl I8 [1,0,1] J J (rl I8 [-2,0,0,1] J J (rl I8 [1,1,1] J J (rl I8 [-1,-1,0,1] J J (rl I8 [1,0,0,0,1] J J (rl I8 [1,0,-10,0,1] J J (rl I8 [-3,1] J J (rl (.sl I8) J9 J J<|z J ?_))))))));rw[y T]at o;rw[<-o]at l;have B:IntKind.u8.wrap (k.tdiv 2)=k.tdiv 2:=by rw[uG s.1];simp only[IntKind.wrap,IntKind.bits,IntKind.signed];simp;omega
 rw[<-B]at l;refine R<|rc J J l (z J<|c7 J) (hp:=?_);have U:0<=(k.tdiv 2).tmod 8:=by rw[uG s.1,lX G];omega
 simp only[Pr.an,Pr.h,num,fX,true_and,and_true];rw[B];show(2≠0/\8≠0)/\0<=(k.tdiv 2).tmod 8/\(k.tdiv 2).tmod 8<8;omega
def ag0{m:E N}(g:2<=Z m)(i:Z m<=5)(x:E (Y×Y×Y))(a:∀b∈x,mR b):ao c 12 [S RW x,S .q m] (S .q<|wK x<|Z m-2):=by
 refine aL Tryz.func12 ?_;have h:=aro x (Z m-2) G a;have d:((Z m:Y)-2)=((Z m-2:V):Y):=G;have f:ao c 28 [S RW x,O<|(Z m:Y)-2] (S .q<|wK x<|Z m-2):=by rw[d];exact h
 exact e J<|R<|rc J J f (z J<|c7 J) (hp:=aF)
end Go.El
namespace Go.El
open Go Go.Proofs Go.RowKit
noncomputable def PR{a:Type}(n:V)(f:V->a):a:=Nat.rec (motive:=λ_=>a) (f 0) (λk _=>f<|Nat.add k 1) n
def WA{a:Type} n(f:V->a):PR n f=f n:=by cases n<;>rfl
noncomputable def WB{a:Type}(x:Y)(f:Y->a):a:=Int.rec (motive:=λ_=>a) (λn=>PR n<|λm=>f<|WC m) (λn=>f<|Int.negSucc n) x
def att{a:Type} x(f:Y->a):WB x f=f x:=by
 cases x with
 |ofNat n=>exact WA n<|λm=>f<|WC m
 |negSucc n=>rfl
noncomputable def J'{a:Type}(l:E Y):(E Y->a)->a:=List.rec (motive:=λ_=>(E Y->a)->a) (λf=>f []) (λx _ b f=>WB x<|λy=>b<|λt=>f<|y::t) l
def PT{a:Type}:∀(l:E Y)(f:E Y->a),J' l f=f l
 |[],_=>rfl
 |x::l,f=>by show WB x (λb=>J' l<|λt=>f<|b::t)=_;rw[att,PT l]
def WD:E C->au (E Y)
 |[]=>ad []
 | .I .u64 n::a=>(match WD a with
  |some l=>ad<|n::l
  |none=>none)
 |_=>none
noncomputable def PU(a:Ms):C->au (E Y)
 | .S (.int .u64) xs=>ad xs
 | .V (.slice none 0 0)=>ad []
 | .L id off len _=>(match bw id a with
  |some (.box _ _ cs)=>WD<|(ay off cs).take len
  |some (.fz _ cs)=>WD<|(ay off cs).take len
  |_=>none)
 |_=>none
def C8(p x:Y):Bool:=decide (0<=x)&&decide (x<p)
def WE(p:Y)(l:E Y):Bool:=l.all<|C8 p
def ag1{p}(a:0<p){l}(h:WE p l=ae):rp p l:=by
 intro i;rw[aN];cases hl:l[i]? with
 |none=>exact⟨hY _,a⟩
 |some x=>
  have:=mn.1 h x<|LK hl
  simp only[C8,cD,decide_eq_true_eq]at this
  exact this
noncomputable def ag2:E AV->au (E AV×AV)
 |[.c (.I .u64 a),.c<|.I .u64 n,.c<|.I .u64 p]=>(match C8 18446744073709551616 a&&C8 18446744073709551616 n&&decide (0<p)&&decide (p<=4294967296)with
  |true=>PR (uM (af a) (af n)<|af p)<|λb=>ad ([cU a,cU n,cU p],cU<|WC b)
  |false=>none)
 |_=>none
noncomputable def ag3:E AV->au (E AV×AV)
 |[.c (.I .u64 a),.c<|.I .u64 p]=>(match C8 p a&&decide (a≠0)&&decide (2<=p)&&decide (p<=2147483648)with
  |true=>PR (jc (af a)<|af p)<|λb=>ad ([cU a,cU p],.t [(ah,[.I .u64 (WC b)]),(ah,[.I .i64 0])])
  |false=>none)
 |_=>none
def PV(a b:E Y)(p:Y):Bool:=Nat.ble (Z a) 1000&&Nat.ble (Z b) 1000&&decide (2<=p)&&decide (p<=2147483648)&&WE p a&&WE p b
noncomputable def ag4(d:Ms):E AV->au (E AV×AV)
 |[.a [x,.I .u64 p],.a [f,.I .u64 g]]=>(match PU d x,PU d f with
  |some a,ad b=>(match decide (p=g)&&PV a b p with
   |true=>J' (cL a b p)<|λl=>ad ([aP a p,aP b p],aP l p)
   |false=>none)
  |_,_=>none)
 |_=>none
noncomputable def ag5(d:Ms):E AV->au (E AV×AV)
 |[.a [x,.I .u64 p],.a [f,.I .u64 g]]=>(match PU d x,PU d f with
  |some a,ad b=>(match decide (p=g)&&PV a b p&& !a.isEmpty&& !b.isEmpty&&decide (List.getD b (Z b-1) 0≠0)with
   |true=>J' (aO a b p).1<|λl=>J' (aO a b p).2<|λh=>ad ([aP a p,aP b p],.t [(ae,[.S ar l,.I .u64 p]),(ae,[.S ar h,.I .u64 p])])
   |false=>none)
  |_,_=>none)
 |_=>none
noncomputable def WG(f:FuncId)(vs:E AV)(a:Ms):au (E AV×AV):=
 match il f 301 with
 |true=>ag2 vs
 |false=>(match il f 291 with
  |true=>ag3 vs
  |false=>(match il f 292 with
   |true=>ag4 a vs
   |false=>(match il f 264 with
    |true=>ag5 a vs
    |false=>none)))
def ag6{a b}{p}(h:PV a b p=ae):Z a<=1000/\Z b<=1000/\2<=p/\p<=2147483648/\rp p a/\rp p b:=by simp only[PV,cD,decide_eq_true_eq]at h;let ⟨⟨⟨⟨⟨d,h2⟩,f⟩,g⟩,i⟩,k⟩:=h;exact⟨cP d,cP h2,f,g,ag1 G i,ag1 G k⟩
def atu:∀f vs t g k,WG f vs t=ad (g,k)->ao c f g k:=by
 intro f vs t g k h;unfold WG at h;split at h
 .rename_i i;rw[kO i];unfold ag2 at h;split at h
  .rename_i a n p;split at h
   .rename_i d;simp only[cD,C8,decide_eq_true_eq]at d;rw[WA]at h;cases h;have:=ab0 (af a) (af n) (af p) G G G G;rwa[vP (by omega:0<=a),vP (by omega:0<=n),vP (by omega:0<=p)]at this
   .cases h
  .cases h
 .split at h
  .rename_i i;rw[kO i];unfold ag3 at h;split at h
   .rename_i a p;split at h
    .rename_i d;simp only[cD,C8,decide_eq_true_eq]at d;rw[WA]at h;cases h;exact ab5 a p G G G G
    .cases h
   .cases h
  .split at h
   .rename_i i;rw[kO i];unfold ag4 at h;split at h
    .rename_i x p y q;split at h
     .rename_i a b _ _;split at h
      .rename_i d;simp only[cD]at d;let ⟨l,h2,u,m,o,s⟩:=ag6 d.2;rw[PT]at h;cases h;exact anV a b p l h2 G m o s
      .cases h
     .cases h
    .cases h
   .split at h
    .rename_i i;rw[kO i];unfold ag5 at h;split at h
     .rename_i x p y q;split at h
      .rename_i a b _ _;split at h
       .rename_i d;simp only[cD,decide_eq_true_eq]at d;let ⟨⟨⟨⟨_,d⟩,w⟩,v⟩,hl⟩:=d;let ⟨l,h2,u,m,o,s⟩:=ag6 d;rw[PT,PT]at h;cases h;cases a with
        |nil=>simp at w
        |cons x B=>exact anZ x B b p J l h2 u m o s (by intro e;rw[e]at v;simp at v) hl
       .cases h
      .cases h
     .cases h
    .cases h
end Go.El
