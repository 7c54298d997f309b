/- Own work; no condition. -/
import Derived.Test.YtceihkmakfdcnaaGreatI13
import Derived.Test.YtceihkmakfdcnaaGreatI9
import Derived.Test.YtceihkmakfdcnaaGreatI10
import Derived.Test.YtceihkmakfdcnaaGreatI11
import Derived.Test.YtceihkmakfdcnaaGreatI12
set_option linter.all false
set_option maxHeartbeats 16000000
set_option maxRecDepth 100000
open Bool renaming true->af,false->ak
open Classical renaming choose->zC
open Go.El renaming rr->e,cS->S,xe->F,iA->L,re->O,bA->h,cI->y,rb->w
open Go.Proofs.Tryz renaming prog->r
open Int renaming toNat->ah,natAbs->aD
open List renaming length->Z,getD->I,drop->az,replicate->bt,take->c,mem_range'_1->avr
open Nat renaming testBit->oa,gcd->o8
open _root_ renaming Int->V,Nat->G,List->E,Rat->U
namespace Go.El
open Go Go.Proofs Go.RowKit
def auL a b:eE (a.num*(b.den:V)) (b.num*(a.den:V))=px a b:=by
 have g:=Rat.lt_iff a b;have f:=Rat.lt_iff b a;unfold eE px;by_cases c1:a<b
 .rw[q c1,q<|g.1 c1]
 .rw[j c1,j<|λh=>c1<|g.2 h];by_cases d:b<a
  .rw[q d];first|rw[q (f.1 d)]|rw[j (by have:=f.1 d;omega)]
  .rw[j d];first|rw[j (λh=>d<|f.2 h)]|rw[q (by have:=mt f.2 d;have:=mt g.2 c1;omega)]
def aiw{k}(u:k<=1000000000) a(v:Z a<=1000)(g:I a (Z a-1) 0≠0)(l:∀i,QS k (I a i 0))(m:a≠[]):aq r 35 [S .q a] (cB af):=by
 refine aS Tryz.func35 ?_;have x:=cR.2 m;refine e J<|h<|e J ?_;refine aA<|bx (α:=G) (λi=>⟨[(0,S .q a),(3,y i)],[],4,[]⟩) (λi=>i<=Z a) (λi=>Z a-i) 0 (bm _) aY ?_;intro i z;refine h<|e J<|F J (λb=>?_)<|λb=>?_
 .have b:i<Z a:=by have b:(i:V)<(Z a:V):=aX b;omega
  have n:=asH (k:=k) (I a (ah<|(i:V)) 0) (l _) Y;refine aG<|h<|aA<|w<|rc J J n (O J<|F J (λf=>by cases f)<|λf=>dk<|bU ?_) (hp:=aH);exact rt J<|a6 (i+1) b r6 aY
 .refine bD<|aR ?_;have p:ah ((Z a:V)-1)=Z a-1:=Y;have s:=VC<|I a (ah<|(Z a:V)-1) 0;refine w (rg 19 J J (λd=>?_)<|λ_=>mD J J J J J s (O J<|cd J<|bl cB ?_) (hp:=aH))
  .exfalso;have d:((Z a:V)==0)=af:=d;have:=eS d;omega
  .show(fU (I a (ah<|(Z a:V)-1) 0).num !=0)=af;rw[p];exact bne_iff_ne.2 λt=>g<|BD<|xY.1 t
def auM{k}(t:k<=1000000000) a b(u:Z a<=1000)(v:Z b<=1000)(n:∀i,QS k (I a i 0))(p:∀i,QS k (I b i 0)):aq r 181 [S .q a,S .q b] (cB<|decide<|jX a b<0):=by
 refine aS Tryz.func181 ?_;refine e J<|h<|e J<|F J (λl=>?_)<|λl=>aG ?_
 .have l:=Bh l;refine e J<|bX<|da<|fO J<|bl cB ?_;rw[jX,q Y,q6];refine decide_eq_decide.2 ⟨λf=>by rw[q f];decide,λf=>?_⟩;split at f
  .assumption
  .split at f<;>omega
 .have l:(Z a:V)=(Z b:V):=zd l;rw[show jX a b=sr a b (Z a)by rw[jX,ma Y]];refine h<|e J ?_;refine aA<|bx (α:=G) (λk=>⟨[(0,S .q a),(1,S .q b),(5,y<|(k:V)-1)],[],4,[]⟩) (λk=>k<=Z a/\sr a b (Z a)=sr a b k) (λk=>k) (Z a) ⟨aN _,J⟩ aY ?_;rintro i ⟨x,hc⟩;refine h (e J<|F J (λg=>?_)<|λg=>?_)
  .have g:0<i:=by have g:(i:V)-1>=0:=aX g;omega
   obtain⟨j,rfl⟩:∃j,i=j+1:=⟨i-1,Y⟩;have s:ah (((j+1:G):V)-1)=j:=Y;have m:aq r 216 [aQ (I a (ah<|((j+1:G):V)-1) 0),aQ<|I b (ah<|((j+1:G):V)-1) 0] (y<|px (I a j 0)<|I b j 0):=by rw[s,<-auL];exact asF (k:=k) _ _ (n _) (p _) Y
   rw[sr]at hc;rw[hc];generalize px (I a j 0) (I b j 0)=z at*;refine aG<|h<|aA<|w<|rc J J m (O J<|F J (λd=>?_)<|λd=>dk<|bU ?_) (hp:=aH)
   .have d:z≠0:=bne_iff_ne.1 d;refine w<|rc J J m (O J<|bX ?_) (hp:=aH);repeat(first|refine da ?_|refine mz ?_|refine m0 ?_)
    refine fO J ?_;rw[q d]
   .have d:z=0:=by
     have d:(z !=0)=ak:=d;by_cases f:z=0
     .exact f
     .rw[bne_iff_ne.2 f]at d;cases d
    refine rt J (hp:=aH)<|a6 j ⟨Y,?_⟩ uD<|wk ⟨sR J,sR J,sE J ?_,M⟩ M
    .exact ma<|λf=>f d
    .exact jC (Y:((j+1:G):V)-1-1=(j:V)-1)
  .have g:i=0:=by have g:¬(i:V)-1>=0:=bh g;omega
   subst g;rw[hc];exact bD<|aR<|e J<|di J
def auN l x(hl:Z l<=1000)(H:HJ 20 x)(N:∀m∈l,HJ 20 m):aq r 142 [S UT l,.a<|av UT x] (S UT<|tO ([],0) (λm=>decide<|jX x.1 m.1<0) x l):=by
 refine aS Tryz.func142 ?_;have t:=Yq ([],0) (λm=>decide<|jX x.1 m.1<0) x l;have Q:=Yo ([],0) (λm=>decide<|jX x.1 m.1<0) x l;generalize B:jG ([],0) (λm=>decide<|jX x.1 m.1<0) x l=T at*;refine e J<|w<|ij UT [] J J (O J<|e J<|h<|e J ?_);refine aA<|bx (α:=G) (λi=>⟨[(0,S UT l),(3,.c<|.P 0 0),(5,.c<|.X 1000000),(6,cB (T i).1),(7,y i)],[(0,.box 114 0<|av UT x),(1000000,.vec 114 UT (T i).2)],4,[]⟩) (λi=>i<=Z l) (λi=>Z l-i) 0 (bm _) (by rw[<-B];exact(wk (bP J) ⟨bE J J,bR J,M⟩)) ?_;intro i L;have u:=t i;have W:(T i).2.length<=1001:=by split at u<;>omega
 refine h<|e J<|F J (λh1=>?_)<|λh1=>?_
 .have h1:i<Z l:=by have h1:(i:V)<(Z l:V):=aX h1;omega
  have j:ah ((i:V))=i:=cx i;have C:(I l (ah<|(i:V))<|ET.et UT)=I l i ([],0):=bl (λz=>I l z ([],0)) j;have K:=N (I l i ([],0)) Rq;have D:=auM (k:=20) o x.1 (I l i ([],0)).1 H.l K.l H.q K.q;have d:=Q i;have v:=t<|i+1;rw[<-C]at*;obtain⟨n,f⟩:∃n,n=if(!(T i).1&&decide (jX x.1 (I l (ah<|(i:V))<|ET.et UT).1<0))=af then(T i).2++[x]else(T i).2:=⟨_,J⟩
  have A:(T<|i+1).2=n++[I l (ah<|(i:V)) (ET.et UT)]:=by rw[d,f];split<;>rfl
  have E:Z n<=1001:=by rw[A,iL,oV]at v;split at v<;>omega
  refine aG<|h<|aA ?_;refine nP ⟨[(0,S UT l),(3,.c<|.P 0 0),(5,.c<|.X 1000000),(6,cB (T<|i+1).1),(7,y i)],[(0,.box 114 0<|av UT x),(1000000,.vec 114 UT n)],8,[]⟩ ?_<|λp=>w<|rg 17 J J (λb=>?_)<|λb=>?_
  .refine cL (rl UT [_] J J (ra J J J J J J J J J ?_ ?_<|O J ?_) (hp:=aH))
   .show(_+1+(_+1)/4+192)*32<=_;omega
   .show(_+1)*2<=_;omega
   refine bU<|rt J<|a6 (i+1) h1 zO<|Wk.trans (wk (st':=⟨[(0,S UT l),(3,.c<|.P 0 0),(5,.c<|.X 8006000),(6,cB (T<|i+1).1),(7,y ((i+1:G):V))],[(0,.box 114 0<|av UT x),(8006000,.vec 114 UT (T<|i+1).2)],16,[]⟩) (bP J) ⟨bR J,bE J ?_,M⟩)<|Wk.trans (iw 1000000 8006000 J J J) aY;rw[A]
  .have b:(T i).1=ak:=by
    cases s:(T i).1
    .rfl
    .rw[s]at b;cases b
   refine mD J J J J J D (O J<|F J (λg=>?_)<|λg=>?_) (hp:=aH)
   .have g:decide (jX x.1 (I l (ah<|(i:V))<|ET.et UT).1<0)=af:=g;rw[b,g]at f;rw[b,g]at d;have f:n=(T i).2++[x]:=f;refine w (rl UT [x] J J (ra J J J J J J J J J ?_ ?_<|O J ?_))
    .show(_+1+(_+1)/4+192)*32<=_;omega
    .show(_+1)*2<=_;omega
    refine rt J<|fp p<|Wk.trans (wk (st':=⟨[(0,S UT l),(3,.c<|.P 0 0),(5,.c<|.X 6003000),(6,cB (T<|i+1).1),(7,y i)],[(0,.box 114 0<|av UT x),(6003000,.vec 114 UT n)],8,[]⟩) ⟨sR J,sR J,sR J,sE J ?_,sR J,M⟩ ⟨bR J,bE J ?_,M⟩)<|Wk.trans (iw 1000000 6003000 J J J) aY
    .rw[d];rfl
    .rw[f]
   .have g:decide (jX x.1 (I l (ah<|(i:V))<|ET.et UT).1<0)=ak:=g;rw[b,g]at f;rw[b,g]at d;have f:n=(T i).2:=f;refine dk (fp p<|wk ⟨sR J,sR J,sR J,sE J ?_,sR J,M⟩ ⟨bR J,bE J ?_,M⟩)
    .rw[d,b];rfl
    .rw[f]
  .have b:(T i).1=af:=by
    cases s:(T i).1
    .rw[s]at b;cases b
    .rfl
   rw[b]at f;rw[b]at d;have f:n=(T i).2:=f;refine O J<|F J (λg=>by cases g)<|λg=>dk<|fp p<|wk ⟨sR J,sR J,sR J,sE J ?_,sR J,M⟩ ⟨bR J,bE J ?_,M⟩
   .rw[d,b];rfl
   .rw[f]
 .have h1:i=Z l:=by have h1:¬(i:V)<(Z l:V):=bh h1;omega
  subst h1;refine bD<|aR<|h<|e J<|F J (λb=>?_)<|λb=>?_
  .have b:(T<|Z l).1=ak:=by
    cases s:(T<|Z l).1
    .rfl
    .rw[s]at b;cases b
   refine cL<|rl UT [x] J J (ra J J J J J J J J J ?_ ?_<|O J ?_)
   .show(_+1+(_+1)/4+192)*32<=_;omega
   .show(_+1)*2<=_;omega
   refine aR<|dm 6003000 J J J<|e J<|cd J ?_;unfold tO;rw[B,b];rfl
  .have b:(T<|Z l).1=af:=by
    cases s:(T<|Z l).1
    .rw[s]at b;cases b
    .rfl
   refine aG<|dm 1000000 J J J<|e J<|cd J ?_;unfold tO;rw[B,b];rfl
def auO a n(D:n<=1000)(H:Z a<=13)(t:∀i,aK n (I a i 0)):aq r 176 [S .z a] (aZ ((il a:G):V)):=by
 refine aS Tryz.func176 ?_;have u:∀i,i<=Z a->aK (n+1) ((nf a i:G):V):=λi v=>aeY a t Y
 have s:∀j,j<=12->aK (n+2) ((nf a (Z a)*2^j:G):V):=λj x=>by have f:=u (Z a)<|aN _;have m:2^j<=2^12:=eU o x;unfold aK at*;rw[pe]at*;have d:nf a (Z a)*2^j<=nf a (Z a)*2^12:=ja _ m;rw[gK];generalize (4294967296:G)^(n+1)=K at*;omega
 refine e J<|bL J J (jO 0 o o) J<|h<|e J ?_;refine aA<|bx (α:=G) (λi=>⟨[(0,S .z a),(2,.c<|.P 0 0),(3,.c<|.P 1001000 0),(4,y i)],[(0,.box 42 0 [.B ak,.V<|.slice none 0 0]),(1001000,.box 42 0<|av .z ((nf a i:G):V))],3,[]⟩) (λi=>i<=Z a) (λi=>Z a-i) 0 (bm _) (wk (bP J) ⟨bE J J,bE J J,M⟩) ?_;intro i v;refine h<|e J<|F J (λb=>?_)<|λb=>?_
 .have b:i<Z a:=by have b:(i:V)<(Z a:V):=aX b;omega
  have p:ah ((i:V))=i:=cx i;have A:=Dr<|I a (ah<|(i:V)) 0;have f:=((u i v).sm Y);have m:=(t<|ah<|(i:V)).sm (by omega:n<=1099511627776);have g:=V0 _ _ f m;have k:=yZ _ _ f m;have l:((nf a (i+1):G):V)=((nf a i:G):V)+(aD (I a i 0):V):=by rw[nf,y5]
  refine aG<|h<|aA ?_;refine w<|rc J J A (O J<|F J (λd=>?_)<|λd=>?_) (hp:=aH)
  .have d:fU (I a (ah<|(i:V)) 0)<0:=aX d;rw[Qx,p]at d;refine cL<|rc J J g (O J<|bU<|rt J (hp:=aH)<|a6 (i+1) b r6<|wk (bP J) ⟨bE J J,bE J ?_,M⟩) (hp:=aH);rw[l,(Y:(aD (I a i 0):V)= -(I a i 0)),p];rfl
  .have d:¬fU (I a (ah<|(i:V)) 0)<0:=bh d;rw[Qx,p]at d;refine cL<|rc J J k (O J<|bU<|rt J (hp:=aH)<|a6 (i+1) b r6<|wk (bP J) ⟨bE J J,bE J ?_,M⟩) (hp:=aH);rw[l,(Y:(aD (I a i 0):V)=I a i 0),p];rfl
 .have b:i=Z a:=by have b:¬(i:V)<(Z a:V):=bh b;omega
  subst b;refine bD<|aR<|h<|e J ?_;refine aA<|bx (α:=G) (λj=>⟨[(0,S .z a),(2,.c<|.P 0 0),(3,.c<|.P 1001000 0),(5,y ((j+1:G):V))],[(0,.box 42 0 [.B ak,.V<|.slice none 0 0]),(1001000,.box 42 0<|av .z ((nf a (Z a)*2^j:G):V))],8,[]⟩) (λj=>j<=Z a-1) (λj=>Z a-j) 0 (bm _) (wk (bP J) ⟨bE J J,bE J ?_,M⟩) ?_
  .rw[pW,qG]
  intro j x;refine h<|e J<|F J (λb=>?_)<|λb=>?_
  .have b:j+1<Z a:=by have b:((j+1:G):V)<(Z a:V):=aX b;omega
   have f:=((s j Y).sm Y);refine aG<|h<|aA<|cL<|rc J J (yZ _ _ f f)<|O J<|bU<|rt J (hp:=aH)<|a6 (j+1) Y (Y:Z a-(j+1)<Z a-j)<|wk (bP J) ⟨bE J J,bE J ?_,M⟩;rw[gK,<-y5,<-Nat.two_mul,ic 2,tn];rfl
  .have b:¬((j+1:G):V)<(Z a:V):=bh b;have C:j=Z a-1:=Y;subst C;exact bD<|aR<|e J<|cd J J
def tQ(f:E V)(k:G):V:=if k=Z f-1 then 1 else I f k 0*I f (Z f-1) 0^(Z f-2-k)
def Ru(f:E V):E V:=(List.range<|Z f).map<|tQ f
def auP f(B:1<=Z f)(D:Z f<=12)(t:∀i,aK 210 (I f i 0)):aq r 170 [S .z f] (S .z<|Ru f):=by
 refine aS Tryz.func170 ?_;obtain⟨n,x⟩:∃n,Z f=n+1:=⟨Z f-1,Y⟩;have g:q7 (tQ f) 0 (Z f) (Z f)=Ru f:=atx _ _ _;have l:∀k,k<=12->aK 2600 (I f n 0^k):=λk A=>((t n).pow k).le (by have:=ja 210 A;omega)
 refine e J<|e J<|w<|rm .z (Z f) J J J J J J OD ?_ ?_ ?_<|O J ?_
 .show(Z f:V)-1+1=(Z f:V);omega
 .show Z f*32<=_;omega
 .show Z f*2<=_;omega
 refine w<|rc J J (jO 1 o o)<|vW (T:= .z) (1:V) J J J J J ?_ (O J ?_) (hp:=?_)
 .rw[gQ];omega
 .refine bL J J (jO 1 o o) J<|h<|e J ?_;refine aA (bx (α:=G) (λa=>⟨[(0,S .z f),(3,y n),(4,.c<|.X 2002000),(5,.c<|.P 4001000 0),(6,y<|(n:V)-1-a)],[(2002000,.vec 42 .z<|q7 (tQ f) 0 (Z f)<|a+1),(4001000,.box 42 0<|av .z<|I f n 0^a)],8,[]⟩) (λa=>a<=n) (λa=>n-a) 0 (bm _) (wk ⟨sR J,sE J ?_,sR J,sR J,sE J ?_,M⟩ ⟨bE J ?_,bE J ?_,M⟩) ?_)
  .exact bl y (Y:(Z f:V)-1=n)
  .exact bl y (Y:(Z f:V)-1-1=(n:V)-1-(0:G))
  .refine bl (aC.vec 42 .z) ?_;rw[atw (tQ f) 0 (Z f),(Y:ah ((Z f:V)-1)=Z f-1-0),<-ahm (tQ f) 0 (Y:0<Z f)];congr 1;show(1:V)=tQ f (Z f-1-0);rw[tQ,q Y]
  .rw[qN];rfl
  intro a C;refine h<|e J<|F J (λb=>?_)<|λb=>?_
  .have b:a<n:=by have b:(n:V)-1-(a:V)>=0:=aX b;omega
   have v:ah ((n:V)-1-(a:V))=Z f-1-(a+1):=Y;have d:=l a Y;have m:=mb (I f (ah<|(n:V)-1-(a:V)) 0) (I f n 0^a) ((t _).sm Y)<|d.sm Y;have u:I f (ah<|(n:V)-1-(a:V)) 0*I f n 0^a=tQ f (Z f-1-(a+1)):=by rw[v,tQ,j Y,(Y:Z f-1=n),(Y:Z f-2-(n-(a+1))=a)]
   rw[u]at m;have p:=mb (I f n 0^a) (I f n 0) (d.sm Y)<|(t n).sm Y;rw[<-gG]at p;have H:ah ((n:V))=n:=cx n;have s:=atv (tQ f) 0 (Z f)<|a+1;refine aG<|h<|aA<|w ?_;refine rc J J m ?_ (hp:=aH);refine vW (T:= .z) (tQ f<|Z f-1-(a+1)) J J J J J ?_ (O J ?_) (hp:=?_)
   .rw[s];omega
   .clear d l t;refine cL (rc J J p (O J<|bU<|rt J<|a6 (a+1) b (Y:n-(a+1)<n-a)<|wk ⟨sR J,sR J,sR J,sR J,sE J ?_,M⟩ ⟨bE J ?_,bE J J,M⟩) (hp:=aH))
    .exact bl y Y
    .rw[v,ahm (tQ f) 0 (Y:a+1<Z f)]
   .simp only[Pr.an,Pr.h,num,gy,true_and,and_true];rw[s];omega
  .have b:a=n:=by have b:¬(n:V)-1-(a:V)>=0:=bh b;omega
   subst b;rw[<-x,g];exact bD<|aR<|dm 2002000 J J J<|e J<|di J
 .simp only[Pr.an,Pr.h,num,gy,true_and,and_true];rw[gQ];omega
def auQ a g{i}(b:i<Z g):az i (lK a g)=Rat.divInt (I g i 0) ((a:V)^(Z g-1-i))::az (i+1) (lK a g):=by have d:=Rh a g;rw[rZ Y];have:=X9 a g b;rw[aO,cT Y]at this;rw[<-this];rfl
def auR g(a:G)(B:0<a)(D:Z g<=12)(u:∀i,aK 210 (I g i 0))(l:aK 210 (a:V)):aq r 180 [S .z g,aZ a] (S .q<|lK a g):=by
 refine aS Tryz.func180 ?_;have d:∀k,k<=12->Sm ((a:V)^k):=λk v=>(l.pow k).sm (by have:=ja 210 v;omega)
 have m:∀k,(a:V)^k≠0:=λk=>Int.ne_of_gt<|ow Y
 have n:∀i,Sm (I g i 0):=λi=>(u i).sm Y
 have p:Sm (a:V):=l.sm Y;clear u l;have x:=Rh a g;refine e J<|w<|rl .q [] J J (O J<|bL J J (jO 1 o o) J<|h<|e J ?_);refine aA<|bx (α:=G) (λj=>⟨[(0,S .z g),(3,.c<|.P 0 0),(5,S .q<|az (Z g-j)<|lK a g),(6,.c<|.P 2001000 0),(7,y<|(Z g:V)-1-j)],[(0,.box 42 0<|av .z (a:V)),(2001000,.box 42 0<|av .z<|(a:V)^j)],4,[]⟩) (λj=>j<=Z g) (λj=>Z g-j) 0 (bm _) (wk ⟨sR J,sR J,sE J ?_,sR J,sE J ?_,M⟩ ⟨bE J J,bE J ?_,M⟩) ?_
 .rw[A4,vo Y]
 .exact bl y (Y:(Z g:V)-1=(Z g:V)-1-(0:G))
 .rw[qN];rfl
 intro j C;refine h<|e J<|F J (λb=>?_)<|λb=>?_
 .have b:j<Z g:=by have b:(Z g:V)-1-(j:V)>=0:=aX b;omega
  have A:ah ((Z g:V)-1-(j:V))=Z g-1-j:=Y;have s:=Xz (I g (ah<|(Z g:V)-1-(j:V)) 0) ((a:V)^j) (m j) (n _)<|d j Y;have t:=mb ((a:V)^j) a (d j Y) p;have f:=auQ a g (i:=Z g-(j+1)) Y;rw[(Y:Z g-1-(Z g-(j+1))=j),(Y:Z g-(j+1)+1=Z g-j)]at f;refine aG<|h<|aA ?_;refine w<|rc J J s (O J ?_) (hp:=aH);refine w<|ij .q [_] J J (ra J J J J J J J J J ?_ ?_<|O J<|dm 6003000 J J J ?_)
  .show(1+Z (az (Z g-j)<|lK a g)+(1+Z (az (Z g-j)<|lK a g))/4+192)*64<=_;rw[yx];omega
  .show(1+Z (az (Z g-j)<|lK a g))*4<=_;rw[yx];omega
  refine cL<|rc J J t<|O J<|bU<|rt J (hp:=aH)<|a6 (j+1) b (Y:Z g-(j+1)<Z g-j)<|wk ⟨sR J,sR J,sE J ?_,sR J,sE J ?_,M⟩ ⟨bR J,bE J ?_,M⟩
  .rw[f,A,(Y:Z g-1-j=Z g-(j+1))];rfl
  .exact bl y (Y:(Z g:V)-1-j-1=(Z g:V)-1-(j+1:G))
  .rw[gG];rfl
 .have b:j=Z g:=by have b:¬(Z g:V)-1-(j:V)>=0:=bh b;omega
  subst b;rw[jA,qx];exact bD<|aR<|e J<|di J
def aix(b:G->Bool):∀n,cj b (n+1)=(if b 0 then 1 else 0)+cj (λi=>b<|i+1) n
 |0=>by rw[cj,cj,cj];omega
 |n+1=>by rw[cj,aix b n,cj];omega
def auS k n:cj k.testBit (n+1)=k%2+cj (k/2).testBit n:=by
 rw[aix];congr 1
 .rw[Nat.testBit_zero];rcases Nat.mod_two_eq_zero_or_one k with e|e<;>rw[e]<;>rfl
 .exact Lg λi _=>by rw[Nat.testBit_succ]
def aiy(b:G->Bool):∀n,cj b n<=n
 |0=>aN _
 |n+1=>by have:=aiy b n;rw[cj];split<;>omega
def aiz n:cj (0:G).testBit n=0:=by
 induction n with
 |zero=>rfl
 |succ n a=>rw[cj,a,Nat.zero_testBit];rfl
def auT(k n:G)(g:k<2^n)(p:n<=60):aq r 210 [y k] (y<|cj k.testBit n):=by
 refine aS Tryz.func210 ?_;have s:k<2^60:=fY g<|eU o p;refine e J<|e J<|h<|e J ?_;refine aA<|bx (α:=G×G×G) (λx=>⟨[(3,y x.1),(4,y x.2.1)],[],4,[]⟩) (λx=>x.2.1<2^x.2.2/\x.1+cj x.2.1.testBit x.2.2=cj k.testBit n/\x.2.1<=k) (λx=>x.2.1) (0,k,n) ⟨g,fc _,aN _⟩ aY ?_;rintro⟨d,m,j⟩ ⟨f,b,t⟩;simp only at f b t;have u:=aiy k.testBit n;refine h<|e J<|F J (λa=>?_)<|λa=>?_
 .have a:0<m:=by have a:(m:V)>0:=aX a;omega
  obtain⟨i,rfl⟩:∃i,j=i+1:=by
   cases j with
   |zero=>rw[pW]at f;omega
   |succ i=>exact⟨i,J⟩
  rw[auS]at b;rw[gK]at f;have l:(m:V).tmod 2=((m%2:G):V):=nQ m 2;have v:(m:V).tdiv 2=((m/2:G):V):=(Int.ofNat_tdiv m 2).symm;refine aG<|h<|aA<|rt J (bU<|rt J<|a6 (d+m%2,m/2,i) ⟨?_,?_,?_⟩ ?_<|wk ⟨sE J ?_,sE J ?_,M⟩ M) (hp:=?_)
  .show m/2<2^i;omega
  .show d+m%2+cj (m/2).testBit i=_;omega
  .show m/2<=k;omega
  .show m/2<m;omega
  .show AV.c (C.I .i64<|(d:V)+(m:V).tmod 2)=_;rw[l];rfl
  .show AV.c (C.I .i64<|(m:V).tdiv 2)=_;rw[v]
  .show(_:Pr).h;simp only[Pr.an,Pr.h,num,gy,true_and,and_true];rw[l];omega
 .have a:m=0:=by have a:¬(m:V)>0:=bh a;omega
  subst a;rw[aiz,jZ]at b;subst b;exact bD<|aR<|e J<|di J
def mn(a g:E V):E V:=bt (Z a-Z g) 0++g.map (I a (Z a-1) 0*·)
def Em(g:E V)(x:E V×E V):E V×E V:=(aU<|mm x.1<|mn x.1 g,x.2.set (Z x.1-Z g)<|I x.1 (Z x.1-1) 0)
def ya(g:E V):G->E V×E V->E V×E V
 |0,x=>x
 |n+1,x=>if Z x.1<Z g then x else ya g n (Em g x)
structure yb(f g:E V)(u v:G)(x:E V×E V):Prop where
 can:can x.1
 eq:Rx.zx f=Rx.zx x.2*Rx.zx g+Rx.zx x.1
 ql:x.2.length=f.length+1-g.length
 fl:x.1.length<=f.length
 z:∀i,i+g.length<=x.1.length->x.2.getD i 0=0
 B:∀i,aK (u+(f.length-x.1.length)*(v+1)) (x.1.getD i 0)
def Rv{a g}(b:Z g<=Z a) i:I (mn a g) i 0=if Z a-Z g<=i then I a (Z a-1) 0*I g (i-(Z a-Z g)) 0 else 0:=by
 unfold mn;by_cases c:Z a-Z g<=i
 .rw[q c,aO,E4 (by simpa using c),gQ,<-aO];exact getD_map (f:=(I a (Z a-1) 0*·)) (iy _) g _
 .rw[j c,aO,E3 b6,nc,q Y];rfl
def auU{a g}(b:Z g<=Z a):Z (mn a g)=Z a:=by simp[mn];omega
def auV{a g}(b:Z g<=Z a):Rx.zx (mn a g)=Rx.K ((I a (Z a-1) 0:V):U)*(Rx.X (Z a-Z g)*Rx.zx g):=Rx.ext λi=>by
 rw[Rx.lI,Rv b,Rx.eF,Rx.kU];split
 .rw[Rx.lI,fW]
 .rw[dU];rfl
def auW a:Rx.zx (aU a)=Rx.zx a:=Rx.ext λi=>by rw[Rx.lI,Rx.lI];congr 1;rw[<-cM,sd,cM]
def auX a b:Rx.zx (mm a b)=Rx.zx a-Rx.zx b:=Rx.ext λi=>by rw[Rx.nS,Rx.lI,Rx.lI,Rx.lI,HL,K0]
section
variable{f g:E V}{u v:G}
def yb.next(l:aL g)(p:∀i,aK v (I g i 0)){x}(a:yb f g u v x)(A:¬Z x.1<Z g):yb f g u v (Em g x)/\(Em g x).1.length<Z x.1/\∀i,aK (u+(Z f-Z x.1)*(v+1)+v+1) (I (mm x.1<|mn x.1 g) i 0):=by
 have C:=cR.2 l.1;have b:Z g<=Z x.1:=Y;have m:∀i,aK (u+(Z f-Z x.1)*(v+1)+v+1) (I (mm x.1<|mn x.1 g) i 0):=λi=>by
  rw[HL,Rv b];split
  .exact((a.B i).le Y).sub<|(a.B _).mul<|p _
  .rw[Dp];exact(a.B i).le Y
 have d:∀i,Z x.1-1<=i->I (mm x.1<|mn x.1 g) i 0=0:=λi n=>by
  rw[HL,Rv b,q Y];rcases Nat.lt_or_eq_of_le n with e|e
  .rw[fQ x.1 Y,fQ g Y,iy];rfl
  .rw[<-e,(Y:Z x.1-1-(Z x.1-Z g)=Z g-1),l.2,oy,Int.sub_self]
 have k:(Em g x).1.length<Z x.1:=by
  show Z (aU<|mm x.1<|mn x.1 g)<_;rcases JZ (mm x.1<|mn x.1 g)with e|e
  .rw[e];simp;omega
  .refine PU λD=>e ?_
   rw[<-cM,sd,cM];exact d _ Y
 have s:=a.ql;have t:=a.fl;refine⟨⟨JZ _,?_,by show(x.2.set _ _).length=_;rw[oQ];exact a.ql,Y,λi n=>?_,λi=>?_⟩,k,m⟩
 .show Rx.zx f=Rx.zx (x.2.set (Z x.1-Z g)<|I x.1 (Z x.1-1) 0)*Rx.zx g+Rx.zx (aU<|mm x.1<|mn x.1 g);rw[asn _ Y (a.z _ Y),auW,auX,auV b,a.eq,Rx.gh,Rx.c9 (Rx.K _)<|Rx.X _];generalize Rx.K ((I x.1 (Z x.1-1) 0:V):U)*(Rx.X (Z x.1-Z g)*Rx.zx g)=w;rw[Rx.jR,Rx.js w,Rx.lE]
 .show(x.2.set (Z x.1-Z g) _).getD i 0=0;rw[we _ _ _ _ Y,j Y];exact a.z i Y
 .show aK _ (I (aU<|mm x.1<|mn x.1 g) i 0);rw[<-cM,sd,cM];refine(m i).le ?_;have:(Z f-Z x.1+1)*(v+1)<=(Z f-(Em g x).1.length)*(v+1):=eB _ Y;rw[fZ,hY]at this;omega
def aiA(b:aL g)(d:∀i,aK v (I g i 0)):∀(n:G)(x:E V×E V),yb f g u v x->Z x.1<n->yb f g u v (ya g n x)/\(ya g n x).1.length<Z g
 |0,x,_,l=>by omega
 |n+1,x,k,l=>by
  rw[ya];split
  .rename_i a;exact⟨k,a⟩
  .rename_i a;let ⟨m,p,_⟩:=k.next b d a;exact aiA b d n _ m Y
open Classical in
noncomputable def wV(f g:E V):E V:=if Rx.zx g∣Rx.zx f then nY f g else[]
def yb.start(b:Go.El.can f)(d:∀i,aK u (I f i 0)):yb f g u v (f,bt (Z f+1-Z g) 0):=by
 have a:∀m i,I (bt m (0:V)) i 0=0:=λm i=>by rw[aO,nc];split<;>rfl
 refine⟨b,?_,gQ,aN _,λi _=>a _ i,λi=>(d i).le Y⟩;rw[show Rx.zx (bt (Z f+1-Z g) (0:V))=0 from Rx.ext λi=>by rw[Rx.lI,a];rfl,Rx.dw,Rx.im]
def auY(p:aL f)(n:aL g)(D:∀i,aK u (I f i 0))(H:∀i,aK v (I g i 0)):(if(ya g (Z f+1) (f,bt (Z f+1-Z g) 0)).1=[]then(ya g (Z f+1) (f,bt (Z f+1-Z g) 0)).2 else[])=wV f g:=by
 let ⟨l,hl⟩:=aiA (f:=f) (u:=u) n H (Z f+1) _ (yb.start p.can D)<|dO _;generalize ya g (Z f+1) (f,bt (Z f+1-Z g) 0)=x at*;have b:=Rx.p7 n;unfold wV;by_cases e:x.1=[]
 .rw[q e];have K:Rx.zx x.1=0:=by rw[e];exact Rx.mI
  have a:=l.eq;rw[K,Rx.fq]at a;rw[q ⟨_,a⟩];have d:Rx.Mo (Rx.zx x.2):=by have:=Rx.p7 p;rw[a]at this;exact this.zu b
  have N:=l.ql;have s:=Rx.dV d.ne b.ne;rw[<-a,Rx.mi p.can,Rx.mi n.can]at s;have m:aL x.2:=by have P:Z x.2=Rx.sz (Rx.zx x.2):=Y;have t:Rx.zx x.2 (Rx.sz (Rx.zx x.2)-1)=1:=d;have X:=Rx.fe d.ne;rw[<-P,Rx.lI]at t;exact⟨λe=>by have c:Z x.2=0:=bl Z e;omega,xV.1 (t.trans Rat.intCast_one.symm)⟩
  have k:∃z,aL z/\Rx.zx f=Rx.zx g*Rx.zx z:=⟨_,m,by rw[Rx.c8];exact a⟩;have Q:nY f g=zC k:=by unfold nY;rw[dif_pos k]
  let ⟨c1,A⟩:=xN k;rw[<-Q]at c1 A;exact(Rx.arK c1.can m.can<|Rx.zq b.ne<|by rw[<-a,A,Rx.c8]).symm
 .rw[j e,j λB=>e ?_];have a:=l.eq;rw[a]at B;have T:=Rx.zn B<|Rx.jd _ _;have W:=Rx.uJ T (by rw[Rx.mi n.can,Rx.mi l.can];exact hl);have C:=Rx.mi l.can;rw[W,Rx.je]at C;exact gA C.symm
def auZ t(a:t<=1000):(Z (bt t (0:V))+1+(Z (bt t (0:V))+1)/4+192)*32<=281474976710656:=by rw[gQ];omega
def au0 t(a:t<=1000):(Z (bt t (0:V))+1)*2<=140737488355328:=by rw[gQ];omega
def aiB(a:E V)(b:Z a<=200):(Z a+1+(Z a+1)/4+192)*32<=281474976710656:=Y
def aiC(a:E V)(b:Z a<=200):(Z a+1)*2<=140737488355328:=Y
def au1(hf:aL f)(hg:aL g)(hu:∀i,aK u (I f i 0))(hv:∀i,aK v (I g i 0))(lf:Z f<=100)(lg:Z g<=100)(u9:u<=1000)(v9:v<=100):aq r 213 [S .z f,S .z g] (S .z<|wV f g):=by
 rw[<-auY hf hg hu hv];have I0:=yb.start (u:=u) (v:=v) (g:=g) hf.can hu;have pg:=cR.2 hg.1;have pf:=cR.2 hf.1;generalize hm:Z f+1-Z g=m at*;have hv9:(v+1)*100<=10100:=Y;generalize hX:ya g (Z f+1) (f,bt m 0)=X;refine Fl Tryz.func213 J J J J J o ?_;refine e J<|w<|rm .z m J J J J J J OD ?_ ?_ ?_<|O J<|h<|e J ?_
 .rw[q J];split<;>omega
 .show m*32<=_;omega
 .show m*2<=_;omega
 refine aA<|bx (α:=G) (λi=>⟨[(0,S .z f),(1,S .z g),(5,.c<|.X 1007000),(6,y i)],[(1007000,.vec 42 .z<|bt m 0)],3,[]⟩) (λi=>i<=m) (λi=>m-i) 0 (bm _) aY ?_;intro i hi;refine h<|e J<|F J (λd=>?_)<|λd=>?_
 .have d:i<m:=by have d:(i:V)<(Z (bt m (0:V)):V):=aX d;rw[gQ]at d;omega
  refine dk<|aR<|h<|aA<|cL<|rc J J (jO 0 o o)<|vW (T:= .z) (0:V) J J J J J ?_ (O J<|fT<|aR<|rt J (hp:=aH)<|a6 (i+1) d (Y:m-(i+1)<m-i)<|wk (bP J) ⟨bE J ?_,M⟩) (hp:=?_)
  .show ah ((i:V))<_;rw[gQ];omega
  .refine bl (aC.vec 42 .z)<|vz ax λk l p=>?_;rw[List.getElem_set];split<;>simp
  .simp only[Pr.an,Pr.h,num,gy,true_and,and_true];rw[gQ];omega
 have d:i=m:=by have d:¬(i:V)<(Z (bt m (0:V)):V):=bh d;rw[gQ]at d;omega
 subst d;refine oc<|rH<|oS<|oe<|aR ?_;refine h<|aA<|bx (α:=G×E V×E V) (λs=>⟨[(0,S .z s.2.1),(1,S .z g),(5,.c<|.X 1007000)],[(1007000,.vec 42 .z s.2.2)],8,[]⟩) (λs=>yb f g u v s.2/\Z s.2.1<s.1/\ya g s.1 s.2=X) (λs=>s.1) (Z f+1,f,bt i 0) ⟨I0,dO _,hX⟩ aY ?_;rintro⟨n,a,Q⟩ ⟨C,hn,hr⟩;simp only at C hn hr;have hFl:Z a<=Z f:=C.fl;obtain⟨n,rfl⟩:∃n',n=n'+1:=⟨n-1,Y⟩;rw[ya]at hr;refine h<|e J<|F J (λd=>?_)<|λd=>?_
 .have d:Z g<=Z a:=by have d:(Z a:V)>=(Z g:V):=aX d;omega
  rw[j (Y:¬Z a<Z g)]at hr;obtain⟨n1,L,n3⟩:=C.next hg hv (Y:¬Z a<Z g);have D:=C.B;have Ph:Z Q=Z f+1-Z g:=C.ql;obtain⟨k,hk⟩:∃k,Z a=Z g+k:=⟨Z a-Z g,Y⟩;have x:∀b,aK 12000 (I a b 0):=λb=>(D b).le (by have:=eB (v+1) (Y:Z f-Z a<=100);show u+(Z f-Z a)*(v+1)<=_;omega)
  have R:∀b,aK 13000 (I (mm a<|mn a g) b 0):=λb=>(n3 b).le (by have:=eB (v+1) (Y:Z f-Z a<=100);show u+(Z f-Z a)*(v+1)+v+1<=_;omega)
  have H:∀b,aK 12200 (I (mn a g) b 0):=λb=>by
   rw[Rv d];split
   .exact((x _).mul<|hv _).le Y
   .exact aK.zero _
  have hTl:=auU d;have U:=aii a (mn a g) 13000 o Y Y (λb=>(x b).le o)<|λb=>(H b).le o;have hc:I a (ah<|(Z a:V)-1) 0=I a (Z a-1) 0:=by rw[(Y:ah ((Z a:V)-1)=Z a-1)]
  have hT:mn a g=bt k 0++g.map (I a (Z a-1) 0*·):=by unfold mn;rw[(Y:Z a-Z g=k)]
  have hN:Em g (a,Q)=(aU<|mm a<|mn a g,Q.set k<|I a (Z a-1) 0):=by unfold Em;show(aU<|mm a<|mn a g,Q.set (Z a-Z g)<|I a (Z a-1) 0)=_;rw[(Y:Z a-Z g=k)]
  have hcS:=(x<|Z a-1).sm o;have hgS:∀b,Sm (I g b 0):=λb=>(hv b).sm Y
  rw[hN]at n1 L hr;clear x R H D n3;generalize hW:aU (mm a<|mn a g)=W at*;generalize hTq:mn a g=T at*;generalize Yy:I a (Z a-1) 0=c at*;refine dk<|aR<|aA<|e J<|e J ?_ (hp:=aH);rw[hc];clear hc Yy hX I0 hi hTq hW;refine w<|vW (T:= .z) c J J J J J ?_ (O J ?_) (hp:=?_)
  .show ah ((Z a:V)-(Z g:V))<Z Q;omega
  .refine w<|ij .z [] J J (O J<|h<|e J ?_);rw[(Y:ah ((Z a:V)-(Z g:V))=k),(Y:(Z a:V)-(Z g:V)=(k:V))];refine aA<|bx (α:=G) (λt=>⟨[(0,S .z a),(1,S .z g),(5,.c<|.X 1007000),(7,y k),(8,.c<|.P 10006000 0),(9,.c<|.X 12000000),(10,y t)],[(10006000,.box 42 0<|av .z c),(12000000,.vec 42 .z<|bt t 0),(1007000,.vec 42 .z<|Q.set k c)],14,[]⟩) (λt=>t<=k) (λt=>k-t) 0 (bm _) (wk (bP J) ⟨bE J J,bR J,bR J,M⟩) ?_;intro t ht;have A:t<=1000:=Y;refine h (e J<|F J (λl=>?_)<|λl=>?_)
   .have l:t<k:=by have l:(t:V)<(k:V):=aX l;omega
    refine dk<|aR<|h<|aA<|cL<|rc J J (jO 0 o o)<|rl .z [(0:V)] J J (ra J J J J J J J J J ?_ ?_<|O J ?_)
    .exact auZ t A
    .exact au0 t A
    refine fT<|aR<|rt J<|a6 (t+1) l (Y:k-(t+1)<k-t)<|Wk.trans (wk (st':=⟨[(0,S .z a),(1,S .z g),(5,.c<|.X 1007000),(7,y k),(8,.c<|.P 10006000 0),(9,.c<|.X 15003000),(10,y ((t+1:G):V))],[(10006000,.box 42 0<|av .z c),(15003000,.vec 42 .z<|bt (t+1) 0),(1007000,.vec 42 .z<|Q.set k c)],24,[]⟩) (bP J) ⟨bR J,bE J ?_,bR J,M⟩)<|Wk.trans (iw 12000000 15003000 J J J) aY;rw[List.replicate_succ']
   have l:t=k:=by have l:¬(t:V)<(k:V):=bh l;omega
   subst l;refine oc<|rH<|oS<|oe<|aR<|h<|e J ?_;have K:(g.map (c*·)).length=Z g:=c7 _;refine aA<|bx (α:=G) (λb=>⟨[(0,S .z a),(1,S .z g),(5,.c<|.X 1007000),(8,.c<|.P 10006000 0),(9,.c<|.X 12000000),(11,y b)],[(10006000,.box 42 0<|av .z c),(12000000,.vec 42 .z<|bt t 0++(g.map (c*·)).take b),(1007000,.vec 42 .z<|Q.set t c)],20,[]⟩) (λb=>b<=Z g) (λb=>Z g-b) 0 (bm _) (wk (bP J) ⟨bR J,bE J ?_,bR J,M⟩) ?_
   .rw[GV,iO]
   intro b hj;have N:(bt t (0:V)++(g.map (c*·)).take b).length<=200:=by rw[iL,gQ,hZ,K];omega
   refine h<|e J<|F J (λp=>?_)<|λp=>?_
   .have p:b<Z g:=by have p:(b:V)<(Z g:V):=aX p;omega
    have ej:ah ((b:V))=b:=cx b;have sY:=mb c (I g (ah<|(b:V)) 0) hcS<|hgS _;have hV1:bt t (0:V)++(g.map (c*·)).take (b+1)=bt t (0:V)++(g.map (c*·)).take b++[c*I g (ah<|(b:V)) 0]:=by rw[tv (g.map (c*·)) b Y,getD_map (f:=(c*·))<|iy c,ej,mX]
    clear K A;generalize bt t (0:V)++(g.map (c*·)).take b=Ek at*;refine dk<|aR<|h<|aA<|cL<|rc J J sY (rl .z [_] J J (ra J J J J J J J J J ?_ ?_<|O J ?_)) (hp:=aH)
    .exact aiB Ek N
    .exact aiC Ek N
    refine fT<|aR<|rt J<|a6 (b+1) p (Y:Z g-(b+1)<Z g-b)<|Wk.trans (wk (st':=⟨[(0,S .z a),(1,S .z g),(5,.c<|.X 1007000),(8,.c<|.P 10006000 0),(9,.c<|.X 21008000),(11,y ((b+1:G):V))],[(10006000,.box 42 0<|av .z c),(21008000,.vec 42 .z<|bt t 0++(g.map (c*·)).take (b+1)),(1007000,.vec 42 .z<|Q.set t c)],32,[]⟩) (bP J) ⟨bR J,bE J ?_,bR J,M⟩)<|Wk.trans (iw 12000000 21008000 J J J) aY;rw[hV1]
   .have p:b=Z g:=by have p:¬(b:V)<(Z g:V):=bh p;omega
    subst p;rw[jy Y,<-hT];refine oc<|rH<|oS<|oe<|aR<|dm 12000000 J J J<|cL<|rc J J U<|O J<|fT<|a6 (n,W,Q.set t c) ⟨n1,?_,hr⟩ (dO n) aY;show Z W<n;have L:Z W<Z a:=L;omega
  .simp only[Pr.an,Pr.h,num,gy,true_and,and_true];omega
 .have d:Z a<Z g:=by have d:¬(Z a:V)>=(Z g:V):=bh d;omega
  rw[q d]at hr;subst hr;refine oc<|rH<|oS<|oe<|aR<|h<|e J<|F J (λl=>?_)<|λl=>?_
  .have l:a≠[]:=λcJ=>by have l:(Z a:V)>0:=aX l;rw[cJ]at l;exact aJ l o
   rw[j l];exact e J<|bX<|da<|iZ cp J<|bq.nil .z
  .have l:a=[]:=gA (by have l:¬(Z a:V)>0:=bh l;omega);rw[q l];exact dk<|aR<|dm 1007000 J J J<|e J<|bX<|iZ cp J<|bq.refl _
end
open Fx
def au5{m}{a}{l}{b}(g:b∈nl (Z l))(i:Rx.zx (gS m l b.testBit)∣Rx.zx a)(k:∀T∈nl (Z l),cj T.testBit (Z l)<cj b.testBit (Z l)\/(cj T.testBit (Z l)=cj b.testBit (Z l)/\T<b)->¬Rx.zx (gS m l T.testBit)∣Rx.zx a):uR m a l=some b:=by
 classical
 let ⟨us,ws,e⟩:=Md g;unfold uR;refine List.find?_eq_some_iff_append.2 ⟨tk i,us,ws,e,λT d=>?_⟩;have f:=asw<|Z l;rw[e]at f;have n:=(zI.1 f).2.2 T d b ax;rw[IC,decide_eq_false_iff_not];exact k T (by rw[e];simp[d]) n
def au6{m}{a}{l}(b:∀T∈nl (Z l),¬Rx.zx (gS m l T.testBit)∣Rx.zx a):uR m a l=none:=by
 classical
 unfold uR;refine List.find?_eq_none.2 λT d=>?_
 rw[decide_eq_true_iff];exact b T d
def lu(m:V)(l:E (E V))(b:G->Bool)(i:G):E V:=(lJ m [1] (bN b 0<|c i l)).map (dW · m)
def uZ(l:E (E V))(b:G->Bool)(i:G):E (E V):=bN (λi=> !b i) 0<|c i l
def Yz{l}{i}(d:i<Z l)(b:G->Bool):bN b 0 (c (i+1) l)=bN b 0 (c i l)++(if b i then[l.getD i []]else[]):=by
 have a:c (i+1) l=c i l++[l.getD i []]:=by rw[uC,aO,cT d];rfl
 rw[a,af5];congr 1;rw[bN,bN,(b6:0+(c i l).length=i)]
def au7{l}{i}(a:i<Z l)(b:G->Bool):uZ l b (i+1)=if b i=af then uZ l b i else uZ l b i++[l.getD i []]:=by unfold uZ;rw[Yz a];cases b i<;>simp
def aiE{m}(a:1<m){l}(g:∀f∈l,aL f)(b:G->Bool) i:aL (lJ m [1] (bN b 0<|c i l))/\aL (lu m l b i)/\Z (lu m l b i)=1+dQ (bN b 0<|c i l):=by let ⟨d,h2⟩:=BA a DY (λf k=>g f (Gy<|zH k):∀f∈bN b 0 (c i l),aL f);refine⟨d,DW a d,?_⟩;unfold lu;rw[c7,h2];rfl
def au8{m}(g:1<m){l}(d:∀f∈l,aL f){i}(h:i<Z l)(b:G->Bool):(b i=ak->lu m l b (i+1)=lu m l b i)/\(b i=af->(mE (lu m l b i)<|l.getD i []).map (dW · m)=lu m l b (i+1)):=by
 constructor
 .intro e;unfold lu;rw[Yz h,e];simp
 .intro e;have a:l.getD i []∈l:=XR;have n:=d _ a;let ⟨t1,t2,t3⟩:=aiE g d b i;have p:lu m l b (i+1)=(uO (lJ m [1] (bN b 0<|c i l)) (l.getD i []) m).map (dW · m):=by unfold lu;rw[Yz h,e,q J,af6];rfl
  rw[p];refine arN Y ?_ λj=>?_
  .rw[Lb,W0];have:Z (lu m l b i)=Z (lJ m [1] (bN b 0<|c i l)):=by unfold lu;rw[c7]
   rw[this]
  .have s:Cg m (ps<|mE (lu m l b i)<|l.getD i []) (ps<|uO (lJ m [1] (bN b 0<|c i l)) (l.getD i []) m):=by
    rw[afZ _ _ t2.1 n.1];refine(Cg.DD ?_ _).trans (WZ _ _ _).symm;refine Cg.of λk=>?_
    unfold lu;rw[cM,cM,sn _ Y,Bz Y]
   exact s.at j
def au9(a i:G)(g:i<=60):((((a:V).fdiv<|2^min (ah<|(i:V)) IntKind.i64.bits).tmod 2)==1)=oa a i:=by
 have b:min (ah<|(i:V)) IntKind.i64.bits=i:=by show min _ 64=_;omega
 have d:((2:V)^i)=((2^i:G):V):=by rw[wj];rfl
 have f:(a:V).fdiv ((2^i:G):V)=((a/2^i:G):V):=by rw[Dv _ (sj _),y7]
 rw[b,d,f,show(2:V)=((2:G):V)from J,nQ,Nat.testBit_eq_decide_div_mod_eq];generalize a/2^i%2=z;by_cases h:z=1
 .rw[h];rfl
 .rw[tj h];exact beq_eq_false_iff_ne.2<|λe=>h Y
def aiF(b:G->Bool):∀(l:E (E V))(i:G),Z (bN b i l)<=Z l
 |[],_=>aN _
 |f::l,i=>by have:=aiF b l<|i+1;rw[bN];split<;>simp<;>omega
def au'(b:G->Bool) l i:dQ (bN b 0<|c i l)<=dQ l:=by
 have a:=Qr b (c i l) 0;have d:dQ (c i l)+dQ (az i l)=dQ l:=by rw[<-Q6,uj]
 omega
def ava{n T}(a:T<2^n)(b:1<=cj T.testBit n)(d:2*cj T.testBit n<=n):T∈nl n:=BC.2 ⟨a,b,Y⟩
def YA(m:V):∀(k:G)(a:E V)(l:E (E V)),Z (tH m k a l)<=k+1
 |0,a,l=>aN _
 |k+1,a,l=>by
  rw[tH];cases uR m a l with
  |none=>simp
  |some b=>have:=YA m k (nY a<|gS m l b.testBit)<|bN (λi=> !b.testBit i) 0 l;simp;omega
def aiG{p:G}{m:V}{w:G}(w1:1<=w)(w9:w<=100)(N:aK w m):∀(k:G)(a:E V)(l:E (E V)),k<=100->Z l<=k->l≠[]->Z l<=8->Z a<=9->iz p m a l->(∀f∈l,∀i,aK w (I f i 0))->aq r 178 [S .z a,S (.sl .z) l,aZ m] (S (.sl .z)<|tH m k a l)
 |0,a,l,_,A,v,_,_,_,_=>aJ (gA Y) v
 |k+1,a,l,ay4,hk,v,l8,a9,C,hlB=>by
  let ⟨m1,Nz⟩:=C.m1;have IH:=λa l=>aiG (p:=p) w1 w9 N k a l
  rw[tH];refine aS Tryz.func178 ?_;refine e J<|h<|e J ?_;refine aA<|bx (α:=G) (λs=>⟨[(0,S .z a),(1,S (.sl .z) l),(5,.c<|.P 0 0),(7,y s)],[(0,.box 42 0<|av .z m)],2,[]⟩) (λs=>1<=s/\s<=9/\∀T∈nl (Z l),cj T.testBit (Z l)<s->¬Rx.zx (gS m l T.testBit)∣Rx.zx a) (λs=>20-s) 1 ⟨aN _,o,λT u A=>aJ (BC.1 u).2.1 Y⟩ (wk (bP J) ⟨bE J J,M⟩) ?_;rintro s ⟨s1,s9,hs⟩;refine h<|e J<|F J (λA=>?_)<|λA=>?_
  .have A:2*s<=Z l:=by have A:2*(s:V)<=(Z l:V):=aX A;omega
   refine aG<|h<|aA<|e J ?_;refine aA<|bx (α:=G) (λb=>⟨[(0,S .z a),(1,S (.sl .z) l),(5,.c<|.P 0 0),(7,y s),(8,y b)],[(0,.box 42 0<|av .z m)],5,[]⟩) (λb=>1<=b/\b<=2^Z l/\∀T∈nl (Z l),(cj T.testBit (Z l)<s\/(cj T.testBit (Z l)=s/\T<b))->¬Rx.zx (gS m l T.testBit)∣Rx.zx a) (λb=>2^Z l-b) 1 ⟨aN _,Nat.one_le_two_pow,λT u t=>hs T u ?_⟩ aY ?_
   .rcases t with t|⟨t,x⟩
    .exact t
    .have B:T=0:=by omega
     subst B;rw[aiz]at t;omega
   rintro b ⟨q1,q2,hq⟩;have hp8:2^Z l<=2^8:=eU o l8;have D:IntKind.i64.wrap (1*2^min (ah<|(Z l:V)) IntKind.i64.bits)=((2^Z l:G):V):=by have:∀n:Fin 9,IntKind.i64.wrap (1*2^min (ah<|((n:G):V)) IntKind.i64.bits)=((2^(n:G):G):V):=o;exact this ⟨Z l,Y⟩
   refine h<|e J<|F J (λt=>?_)<|λt=>?_
   .have t:b<2^Z l:=by have t:(b:V)<IntKind.i64.wrap (1*2^min (ah<|(Z l:V)) IntKind.i64.bits):=aX t;rw[D]at t;omega
    clear D;have hon:=auT b (Z l) t Y;refine aG<|h<|aA<|h<|bL J J hon J<|F J (λx=>?_)<|λx=>dk<|aR ?_
    .have x:cj b.testBit (Z l)≠s:=λB=>by have x:((cj b.testBit (Z l):G):V)≠(s:V):=bne_iff_ne.1 x;omega
     refine oc<|rH<|oe<|aR<|rt J<|a6 (b+1) ⟨Y,Y,λT u d=>hq T u ?_⟩ (Y:2^Z l-(b+1)<2^Z l-b) aY;rcases d with d|⟨d,g⟩
     .exact .inl d
     .by_cases B:T=b
      .exact aJ (B▸d) x
      .exact .inr ⟨d,Y⟩
    have x:cj b.testBit (Z l)=s:=by
     have x:¬((cj b.testBit (Z l):G):V)≠(s:V):=λB=>by have x:(((cj b.testBit (Z l):G):V) !=(s:V))=ak:=x;rw[bne_iff_ne.2 B]at x;cases x
     omega
    have hg0:lu m l b.testBit 0=[1]:=by show([1]:E V).map (dW · m)=[1];rw[gM,af2 m1,En]
    refine rb<|rc J J (jO 1 o o)<|rl .z [(1:V)] J J (O J<|rb<|ij (.sl .z) [] J J (O J<|h<|e J ?_));refine aA<|bx (α:=G) (λi=>⟨[(0,S .z a),(1,S (.sl .z) l),(5,.c<|.P 0 0),(7,y s),(8,y b),(9,S .z<|lu m l b.testBit i),(10,.c<|.X 8000000),(11,y i)],[(0,.box 42 0<|av .z m),(8000000,.vec 161 (.sl .z)<|uZ l b.testBit i)],10,[]⟩) (λi=>i<=Z l) (λi=>Z l-i) 0 (bm _) (by rw[hg0];exact aY) ?_;intro i hi;refine h<|e J<|F J (λd=>?_)<|λd=>?_
    .have d:i<Z l:=by have d:(i:V)<(Z l:V):=aX d;omega
     have hbq:=au9 b i Y;have ei:ah ((i:V))=i:=cx i;have CG:(I l (ah<|(i:V))<|ET.et<|.sl .z)=l.getD i []:=bl (λz=>l.getD z []) ei;have H:l.getD i []∈l:=by rw[aO,cT d];exact sW d
     let ⟨t1,t2,t3⟩:=aiE m1 C.lm b.testBit i;let ⟨u1,u2⟩:=au8 m1 C.lm d b.testBit;have K:=au7 d b.testBit;have hxm:=C.lm _ H;have hxB:=hlB _ H;have Q:∀W,aK w (I (lu m l b.testBit i) W 0):=λW=>by unfold lu;rw[sn _ Y];exact WU Y N
     have xF:Z (lu m l b.testBit i)<=9:=by have:=au' b.testBit l i;have:=C.len;omega
     have Dc:Z (l.getD i [])<=9:=by have:=ais H;have:=C.len;omega
     have Ui:Z (uZ l b.testBit i)<=8:=by have:=aiF (λi=> !b.testBit i) (c i l) 0;have L:(c i l).length<=Z l:=b6;show Z (bN _ 0<|c i l)<=8;omega
     have U:=aeU (lu m l b.testBit i) (l.getD i []) w w Y Y Y Q hxB;rw[(t2.af1 hxm).trim]at U;have v:=WV (mE (lu m l b.testBit i)<|l.getD i []) m (w+w+1) Y (by rw[Lb];omega) Y (af0 _ _ w w Q hxB Y Y)<|N.le Y;rw[(DW m1<|t2.af1 hxm).trim]at v;rw[<-CG]at U v K u2;refine aG<|h<|aA<|e J<|F J (λg=>?_)<|λg=>?_
     .have g:oa b i=af:=hbq▸g;rw[u2 g]at v;refine cL<|rc J J U (rc J J v<|O J<|bU<|rt J<|a6 (i+1) d zO<|wk (bP J) ⟨bR J,bE J ?_,M⟩) (hp:=aH);rw[K,q g]
     .have g:oa b i=ak:=hbq▸g;rw[g]at K;refine cL (rl (.sl .z) [_] J J (ra J J J J J J J J J ?_ ?_<|O J ?_) (hp:=aH))
      .show(Z (uZ l b.testBit i)+1+(Z (uZ l b.testBit i)+1)/4+192)*24<=_;omega
      .show(Z (uZ l b.testBit i)+1)*1<=_;omega
      refine bU<|rt J<|a6 (i+1) d zO<|Wk.trans (wk (st':=⟨[(0,S .z a),(1,S (.sl .z) l),(5,.c<|.P 0 0),(7,y s),(8,y b),(9,S .z<|lu m l b.testBit<|i+1),(10,.c<|.X 12006000),(11,y ((i+1:G):V))],[(0,.box 42 0<|av .z m),(12006000,.vec 161 (.sl .z)<|uZ l b.testBit<|i+1)],24,[]⟩) ⟨sR J,sR J,sR J,sR J,sR J,sE J ?_,sR J,sR J,M⟩ ⟨bR J,bE J ?_,M⟩)<|Wk.trans (iw 8000000 12006000 J J J) aY
      .rw[u1 g]
      .rw[K];rfl
    .have d:i=Z l:=by have d:¬(i:V)<(Z l:V):=bh d;omega
     subst d;have hgE:lu m l b.testBit (Z l)=gS m l b.testBit:=by unfold lu gS;rw[ik]
     have hrE:uZ l b.testBit (Z l)=bN (λi=> !b.testBit i) 0 l:=by unfold uZ;rw[ik]
     rw[hgE,hrE];let ⟨gm,gl⟩:=C.DZ b.testBit;have xF:Z (gS m l b.testBit)<=9:=by have L:=Qr b.testBit l 0;have:=C.len;omega
     have Q:∀W,aK w (I (gS m l b.testBit) W 0):=λW=>by unfold gS;rw[sn _ Y];exact WU Y N
     have haB:∀W,aK w (I a W 0):=λW=>by have:=C.bd a C.am (Rx.oD _) W;unfold aK at*;omega
     have hqu:=au1 C.am gm haB Q Y Y Y Y;have hS:b∈nl (Z l):=ava t Y Y;refine oc<|rH<|oS<|oe<|aR<|dm 8000000 J J J<|rb<|rc J J hqu<|O J<|e J<|F J (λg=>?_)<|λg=>?_
     .have R:Rx.zx (gS m l b.testBit)∣Rx.zx a:=eR λhn=>by
       have g:(Z (wV a<|gS m l b.testBit):V)>0:=aX g;have B:wV a (gS m l b.testBit)=[]:=by unfold wV;rw[j hn]
       rw[B]at g;exact aJ g o
      have hqE:wV a (gS m l b.testBit)=nY a (gS m l b.testBit):=by unfold wV;rw[q R]
      have avi:=au5 (a:=a) hS R (λT u A=>hq T u<|by rw[x]at A;exact A);let ⟨c1,c2,c3,c4⟩:=C.rest hS R;have c5:Z (nY a<|gS m l b.testBit)<=9:=by have L:=Qr b.testBit l 0;have h7:=c2.len;have:=C.len;omega
      have ih:=IH (nY a<|gS m l b.testBit) (bN (λi=> !b.testBit i) 0 l) Y Y c3 Y c5 c2<|λf hf=>hlB f<|zH hf;rw[avi,hqE];have qk:Z (tH m k (nY a<|gS m l b.testBit)<|bN (λi=> !b.testBit i) 0 l)<=1000:=by have:=YA m k (nY a<|gS m l b.testBit)<|bN (λi=> !b.testBit i) 0 l;omega
      refine rb<|ij (.sl .z) [_] J J (rc J J ih<|ra J J J J J J J J J ?_ ?_<|O J<|dm 13006000 J J J<|bX ?_)
      .show(1+Z (tH m k (nY a<|gS m l b.testBit)<|bN (λi=> !b.testBit i) 0 l)+(1+Z (tH m k (nY a<|gS m l b.testBit)<|bN (λi=> !b.testBit i) 0 l))/4+192)*24<=_;omega
      .show(1+Z (tH m k (nY a<|gS m l b.testBit)<|bN (λi=> !b.testBit i) 0 l))*1<=_;omega
      repeat(first|refine da ?_|refine mz ?_|refine m0 ?_)
      exact fO J J
     .have R:¬Rx.zx (gS m l b.testBit)∣Rx.zx a:=λR=>by
       have g:¬(Z (wV a<|gS m l b.testBit):V)>0:=bh g;have B:wV a (gS m l b.testBit)=nY a (gS m l b.testBit):=by unfold wV;rw[q R]
       let ⟨_,c2,_⟩:=C.rest hS R;have:=cR.2 c2.am.1;rw[B]at g;omega
      refine dk<|bU<|rt J<|a6 (b+1) ⟨Y,Y,λT u L=>?_⟩ (Y:2^Z l-(b+1)<2^Z l-b) aY;rcases L with L|⟨L,h7⟩
      .exact hq T u<|.inl L
      .by_cases B:T=b
       .rw[B];exact R
       .exact hq T u<|.inr ⟨L,Y⟩
   .have t:2^Z l<=b:=by have t:¬(b:V)<IntKind.i64.wrap (1*2^min (ah<|(Z l:V)) IntKind.i64.bits):=bh t;rw[D]at t;omega
    refine bD<|bU<|rt J<|a6 (s+1) ⟨Y,Y,λT u L=>hq T u ?_⟩ (Y:20-(s+1)<20-s) aY;have:=(BC.1 u).1;omega
  .have A:Z l<2*s:=by have A:¬2*(s:V)<=(Z l:V):=bh A;omega
   have Dd:=au6 (m:=m) (a:=a) (l:=l) (λT u=>hs T u<|by have:=(BC.1 u).2.2;omega);rw[Dd];exact bD<|aR<|rb<|rl (.sl .z) [a] J J (O J<|di J)
end Go.El
namespace Go.El
open Go Go.Proofs Go.RowKit Rx
def avj{a}{b z:V}(f:(b:U)*a=(z:U)):(a.den:V)∣b:=by
 have g:b*a.num=z*(a.den:V):=by
  have d:(b:U)*(((a.den:G):U)*a)=(z:U)*((a.den:G):U):=by rw[<-f];grind
  rw[P4]at d;have i:((b*a.num:V):U)=((z*(a.den:V):V):U):=by rw[fW,fW];exact d
  exact xV.1 i
 have k:a.den∣aD b*aD a.num:=⟨aD z,by rw[<-pX,g,pX,pe,ic]⟩;have l:=Nat.Coprime.dvd_of_dvd_mul_right (Nat.Coprime.symm a.reduced) k;exact WL.2 l
def ri(a:E U)(k:G):V:=(I a k 0).num*((ef a:G):V)/((I a k 0).den:V)
def rj(a:E U):E V:=(List.range<|Z a).map<|ri a
def tR(a:E U):G->G
 |0=>0
 |i+1=>o8 (tR a i)<|aD<|ri a i
def YB(a:E U):∀i b,b<i->tR a i∣aD (ri a b)
 |0,b,d=>by omega
 |i+1,b,d=>by
  rw[tR];by_cases f:b=i
  .rw[f];exact Wf _ _
  .exact Hj (Nat.gcd_dvd_left _ _)<|YB a i b Y
section
variable{a:E U}
def aiL{k}(b:k<Z a):((ri a k:V):U)=((ef a:G):U)*I a k 0:=by have d:(I a k 0).den∣ef a:=HG a _ k b;have:=Re (I a k 0) (D:=((ef a:G):V))<|zf.2 d;exact this
def avk{k}(b:k<Z a):(I a k 0).num*((ef a:G):V)=((I a k 0).den:V)*ri a k:=by
 have d:(I a k 0).den∣ef a:=HG a _ k b;let ⟨e,he⟩:=d;unfold ri;have f:((I a k 0).den:V)≠0:=by have:=(I a k 0).den_pos;omega
 rw[he,fP,(fF:(I a k 0).num*(((I a k 0).den:V)*(e:V))=((I a k 0).den:V)*((I a k 0).num*(e:V))),Yu _ f]
def Rw(b:jW a):ri a (Z a-1)=((ef a:G):V):=by unfold ri;rw[b.one];show(1:V)*_/1=_;rw[mc,wg]
def avl(m:jW a):tR a (Z a)=1:=by
 have T:=m.l2;have n:0<ef a:=Ed a _;obtain⟨e,g⟩:tR a (Z a)∣ef a:=by have:=YB a (Z a) (Z a-1) Y;rwa[Rw m,pe]at this
 generalize A:tR a (Z a)=b at*;have B:0<b:=by
  rcases r8 b with d|d
  .rw[d,pM]at g;omega
  .exact d
 have f:∀k,(I a k 0).den∣e:=λk=>by
  by_cases p:k<Z a
  .have s:=YB a (Z a) k p;rw[A]at s;let ⟨z,C⟩:=WL.2 s;have t:=aiL p;rw[g,C]at t;have D:((e:V):U)*I a k 0=(z:U):=by
    have i:((b:G):U)≠0:=xS Y;have H:((b:G):U)*(z:U)=((b:G):U)*(((e:V):U)*I a k 0):=by
     have K:(((b:V)*z:V):U)=((b:G):U)*(z:U):=fW _ _;have N:((b*e:G):U)=((b:G):U)*((e:V):U):=by rw[<-pq,fP,fW];rfl
     rw[<-K,t,N,mG]
    have u:=bl (λx=>((b:G):U)⁻¹ *x) H;simp only[<-mG,nV _ i,ph]at u;exact u.symm
   exact zf.1<|avj D
  .rw[gk a Y];exact Nat.one_dvd _
 have v:ef a∣e:=X7 a f _;rw[g]at v;let ⟨y,P⟩:=v;have l:0<e:=by
  rcases r8 e with d|d
  .rw[d,Nat.mul_zero]at g;omega
  .exact d
 have:1*e=b*y*e:=by
  rw[hY];conv=>lhs;rw[P]
  ac_rfl
 have Q:=Nat.eq_of_mul_eq_mul_right l this;exact Nat.dvd_one.1 ⟨y,Q⟩
def BU a:Z (rj a)=Z a:=by simp[rj]
def LP a{k}(b:k<Z a):I (rj a) k 0=ri a k:=by unfold rj;rw[aO,jn,lp b];rfl
def avm(d:jW a):Ru (rj a)=dx a:=by
 have i:=d.l2;unfold Ru dx;rw[BU];refine Wr λk b=>?_
 have b:=ru.1 b;unfold tQ;rw[BU];split
 .rename_i e;rw[e,d.one,jA,qN];rfl
 .rename_i e;rw[LP a b,LP a Y,Rw d,(Y:Z a-1-k=(Z a-2-k)+1),gG];have f:((I a k 0).den:V)≠0:=by have:=(I a k 0).den_pos;omega
  have g:=avk (a:=a) b;rw[show(I a k 0).num*(((ef a:G):V)^(Z a-2-k)*((ef a:G):V))=((I a k 0).den:V)*(ri a k*((ef a:G):V)^(Z a-2-k))by rw[<-jP ((I a k 0).den:V),<-g];ac_rfl,Yu _ f]
def avn{k}(b:k<Z a):(I a k 0*(((ef a:G):V):U)).num=ri a k:=by have d:=aiL b;rw[zk,show((((ef a:G):V):V):U)=((ef a:G):U)from J,<-d];rfl
def aiM(hE:∀k,k<Z a->aK 201 (ri a k)):∀i,i<=Z a->aK 201 ((tR a i:G):V)
 |0,_=>aK.zero _
 |i+1,f=>by
  have b:=aiM hE i Y;have d:=hE i Y;unfold aK at*;rw[pe]at*;rw[tR];rcases r8 (tR a i)with e|e
  .rw[e,Nat.gcd_zero_left];exact d
  .exact tm (Nat.gcd_le_left _ e) b
def aiN(d:jW a)(b:∀i,QS 20 (I a i 0)){k:G}(_:k<Z a):aK 201 (ri a k):=by have f:=(b k).n.mul ((X' a b<|Z a).le<|show 20*Z a+1<=181 by have:=d.l9;omega);have g:=Yw ((I a k 0).num*((iU a (Z a):G):V)) ((I a k 0).den:V);have l:ri a k=(I a k 0).num*((iU a (Z a):G):V)/((I a k 0).den:V):=rfl;unfold aK at*;rw[l];exact tm g f
def avo(v:jW a)(u:∀i,QS 20 (I a i 0)):aq r 169 [S .q a] (S .z<|rj a):=by
 have l2:=v.l2;have l9:=v.l9;have l:=λi(g:i<=9)=>(X' a u i).le (Y:20*i+1<=181)
 have x:=λi(g:i<=9)=>(l i g).sm o
 have A:QS 181 (((ef a:G):V):U):=⟨l _ l9,(aK.one (a:=1) o).le o⟩;have m:=λk B=>aiN v u (k:=k) B
 have C:=λk B=>(m k B).sm (by decide:201<=1099511627776)
 have W:=avl v;have E:=λi g=>(aiM m i g).sm (by decide:201<=1099511627776)
 have R:=BU a;have n:=λk(B:k<Z a)=>LP a B
 have D:=Rw v;have Ge:0<ef a:=Ed a _;have H:=λk=>(u k).d.sm (by decide:20<=1099511627776)
 have p:∀i,((iU a i:G):V)*(((I a i 0).den:V)/((o8 (iU a i) (I a i 0).den:G):V))=((iU a (i+1):G):V):=λi=>by rw[iU,fP,y7]
 have hqS:∀i,i<=9->Sm (((I a i 0).den:V)/((o8 (iU a i) (I a i 0).den:G):V)):=λi g=>by have b:=(u i).d;have h2:=Yw ((I a i 0).den:V) ((o8 (iU a i) (I a i 0).den:G):V);exact(show aK 20 _ by unfold aK at*;omega:aK 20 (((I a i 0).den:V)/((o8 (iU a i) (I a i 0).den:G):V))).sm o
 have Yv:=λi=>Lt (k:=181) (I a i 0) (((ef a:G):V):U) ((u i).le o) A o
 clear l m A;refine aS Tryz.func169 ?_;refine e J<|bL J J (jO 1 o o) J<|h<|e J ?_;refine aA<|bx (α:=G) (λi=>⟨[(0,S .q a),(3,.c<|.P 1001000 0),(4,y i)],[(1001000,.box 42 0<|av .z ((iU a i:G):V))],3,[]⟩) (λi=>i<=Z a) (λi=>Z a-i) 0 (bm _) (wk (bP J) ⟨bE J J,M⟩) ?_;intro i g;refine h<|e J<|F J (λb=>?_)<|λb=>?_
 .have b:i<Z a:=by have b:(i:V)<(Z a:V):=aX b;omega
  have ei:ah ((i:V))=i:=cx i;have hg:=Pl ((iU a i:G):V) ((I a i 0).den:V) (x i Y)<|H i;have hgp:0<o8 (iU a i) (I a i 0).den:=Nat.gcd_pos_of_pos_right _ (I a i 0).den_pos;have ay6:o8 (iU a i) (I a i 0).den<=(I a i 0).den:=Nat.gcd_le_right _ (I a i 0).den_pos;have s:=GQ ((I a i 0).den:V) ((o8 (iU a i) (I a i 0).den:G):V) Y (H i)<|(show aK 20 ((o8 (iU a i) (I a i 0).den:G):V)by have:=(u i).d;unfold aK at*;omega).sm o;have K:=mb ((iU a i:G):V) (((I a i 0).den:V)/((o8 (iU a i) (I a i 0).den:G):V)) (x i Y)<|hqS i Y;rw[p]at K;refine aG<|h<|aA ?_;refine w<|rc J J hg (O J<|w<|rc J J s (O J ?_) (hp:=aH)) (hp:=aH);exact cL<|rc J J K<|O J<|bU<|rt J (hp:=aH)<|a6 (i+1) b r6<|wk (bP J) ⟨bE J J,M⟩
 have b:i=Z a:=by have b:¬(i:V)<(Z a:V):=bh b;omega
 subst b;have dn:iU a (Z a)=ef a:=rfl;refine bD<|aR ?_;rw[dn];refine w<|ij .z [] J J (O J<|bL J J (jO 0 o o) J<|h<|e J ?_);generalize hL:rj a=L at*;refine aA<|bx (α:=G) (λi=>⟨[(0,S .q a),(3,.c<|.P 1001000 0),(9,.c<|.X 4000000),(10,.c<|.P 5001000 0),(11,y i)],[(1001000,.box 42 0<|av .z ((ef a:G):V)),(4000000,.vec 42 .z<|c i L),(5001000,.box 42 0<|av .z ((tR a i:G):V))],8,[]⟩) (λi=>i<=Z a) (λi=>Z a-i) 0 (bm _) (wk (bP J) ⟨bR J,bR J,bE J J,M⟩) ?_;intro i g;have hl:(c i L).length=i:=b6;refine h<|e J<|F J (λb=>?_)<|λb=>?_
 .have b:i<Z a:=by have b:(i:V)<(Z a:V):=aX b;omega
  have hm:=Yv i;have f:=avn (a:=a) b;have N:=Pl ((tR a i:G):V) (ri a i) (E i Y)<|C i b;refine aG<|h<|aA ?_;refine w<|rc J J (jO 1 o o) (rc J J hm<|O J ?_) (hp:=aH);rw[<-f]at N;refine w<|rl .z [(I a i 0*(((ef a:G):V):U)).num] J J (ra J J J J J J J J J ?_ ?_<|O J ?_)
  .exact aiB (c i L) Y
  .exact aiC (c i L) Y
  refine cL<|rc J J N<|O J<|bU<|rt J<|a6 (i+1) b r6<|Wk.trans (wk (st':=⟨[(0,S .q a),(3,.c<|.P 1001000 0),(9,.c<|.X 10004000),(10,.c<|.P 5001000 0),(11,y ((i+1:G):V))],[(1001000,.box 42 0<|av .z ((ef a:G):V)),(10004000,.vec 42 .z<|c (i+1) L),(5001000,.box 42 0<|av .z ((tR a (i+1):G):V))],16,[]⟩) (bP J) ⟨bR J,bE J ?_,bE J ?_,M⟩)<|Wk.trans (iw 4000000 10004000 J J J) aY
  .refine bl (aC.vec 42 .z) ?_;rw[tv L i Y,n i b,f]
  .rw[tR,<-f];rfl
 have b:i=Z a:=by have b:¬(i:V)<(Z a:V):=bh b;omega
 subst b;rw[jy Y,W];refine bD<|aR<|h ?_;have t:I L (ah<|(Z L:V)-1) 0=((ef a:G):V):=by rw[R,(Y:ah ((Z a:V)-1)=Z a-1),n _ Y,D]
 have hsg:=Dr<|I L (ah<|(Z L:V)-1) 0;have Q:¬fU (I L (ah<|(Z L:V)-1) 0)<0:=by rw[t,Qx];omega
 refine w<|rg 73 J J (λ_=>?_)<|λb=>?_;rotate_left
 .exfalso;have b:¬(Z a:V)>0:=bh b;omega
 refine mD J J J J J hsg (O J<|F J (λb=>?_)<|λ_=>aG ?_) (hp:=aH)
 .exfalso;exact Q<|aX b
 refine h<|e J<|aA<|bx (α:=G) (λi=>⟨[(9,.c<|.X 4000000),(10,.c<|.P 5001000 0),(13,y i)],[(4000000,.vec 42 .z L),(5001000,.box 42 0<|av .z ((1:G):V))],16,[]⟩) (λi=>i<=Z L) (λi=>Z L-i) 0 (bm _) aY ?_;intro i g;refine h<|e J<|F J (λb=>?_)<|λb=>?_
 .have b:i<Z L:=by have b:(i:V)<(Z L:V):=aX b;omega
  have ei:ah ((i:V))=i:=cx i;have s:=GQ (I L (ah<|(i:V)) 0) ((1:G):V) o (by rw[ei,n i Y];exact C i Y)<|(aK.one (a:=((1:G):V)) o).sm o;refine aG<|h<|aA ?_;refine w<|rc J J s (O J ?_) (hp:=aH);refine cL<|vW (T:= .z) (I L (ah<|(i:V)) 0/((1:G):V)) J J J J J ?_ (O J<|bU<|rt J (hp:=aH)<|a6 (i+1) b (Y:Z L-(i+1)<Z L-i)<|wk (bP J) ⟨bE J ?_,bR J,M⟩) (hp:=aH)
  .show ah ((i:V))<_;omega
  .refine bl (aC.vec 42 .z)<|Qj (by rw[oQ]) λj hj=>?_;rw[we _ _ _ _ Y,ei];split
   .rename_i cJ;rw[cJ];exact wg _
   .rfl
 .have b:i=Z L:=by have b:¬(i:V)<(Z L:V):=bh b;omega
  subst b;exact bD<|aR<|dm 4000000 J J J<|e J<|di J
end
end Go.El
namespace Go.El
open Go Go.Proofs Go.RowKit Fx
def tdB(n:G):Bool:=[2,3,5,7,11,13,17,19,23,29,31,37,41,43,47].all λk=>Nat.ble n k|| !(Nat.beq (n%k) 0)
def HM:E G:=((List.range' 3 2300).filter tdB)
def Ry{p}(a:p∈HM):3<=p/\p<2304:=by have b:=(qj.1 a).1;rw[avr]at b;omega
def aiP{p}(b:p∈HM):eo p:=by
 let ⟨z,h2⟩:=Ry b;have m:tdB p=af:=(qj.1 b).2;have f:∀k∈[2,3,5,7,11,13,17,19,23,29,31,37,41,43,47],p<=k\/p%k≠0:=λk f=>by
  have:=nw.1 m k f;rcases Ap _ _▸this with e|e
  .exact .inl<|cQ e
  .right;intro n;rw[n]at e;exact aJ e o
 refine⟨Y,λd s A t=>?_⟩;have u:d<48:=eR λb=>by have:48*48<=d*d:=jQ Y Y;omega
 have v:d<p:=by have:2*d<=d*d:=eB d s;omega
 obtain⟨q,g,a⟩:∃q∈[2,3,5,7,11,13,17,19,23,29,31,37,41,43,47],q∣d:=by have i:(List.range' 2 46).all (λd=>[2,3,5,7,11,13,17,19,23,29,31,37,41,43,47].any λq=>Nat.beq (d%q) 0)=af:=e9;have x:=nw.1 i d (by rw[avr];omega);let ⟨q,g,l⟩:=List.any_eq_true.1 x;exact⟨q,g,KY<|lX l⟩
 have l:=Hj a<|KY t;have B:=uG Y a;rcases f q g with e|e
 .omega
 .exact e<|Nat.mod_eq_zero_of_dvd l
def avs:HM.Nodup:=(List.nodup_range' (s:=3) (n:=2300) (step:=1)).filter _
def avt:Nat.ble (zB+1) (tG HM)=af:=e9
def avu:zB<tG HM:=afz avt
def aiQ{p}(a:p∈HM):bF p:=⟨aiP a,by have:=(Ry a).2;omega⟩
def jW.aiR{a}(d:jW a):∃p,eo p/\3<=p/\p<2304/\HC p (dx a)=af:=by let ⟨p,b,hc⟩:=d.ahh avs (λ_ b=>aiQ b) avu;exact⟨p,aiP b,(Ry b).1,(Ry b).2,(ag7 (aiQ b) _).2 hc⟩
def aiS{p:G}:∀{L:E (E V×V)},(∀x∈L,bw (fx x.1:Fx p)/\1<=x.2)->sk (jt p L)->jt p L=gN (L.map (·.1))
 |[],_,_=>rfl
 |x::l,a,b=>by
  let ⟨d,h2⟩:=a x ax;have f:=aiS (L:=l) (λy hy=>a y qD)<|b.of_dvd ⟨pk (fx x.1)<|ah x.2,by rw[jt,c8]⟩;rw[jt,gM,gN,f];by_cases e:ah x.2=1
  .rw[e,se]
  .exfalso;obtain⟨n,g⟩:∃n,ah x.2=n+1+1:=⟨ah x.2-2,Y⟩;refine b _ d ⟨pk (fx x.1) n*jt p l,?_⟩;rw[jt,g];show pk (fx x.1) n*fx x.1*fx x.1*jt p l=_;ac_rfl
section
variable{p:G}{a:E V}
def qZ.pC(b:qZ p a){d}(m:Ea p (fx a:Fx p) d):x9 p a (d.map (·.1))/\∀g∈d.map (·.1),bw (fx g:Fx p):=by
 have k:∀g∈d.map (·.1),Mon p g/\2<=Z g/\bw (fx g:Fx p):=λg i=>by obtain⟨x,n,rfl⟩:=kf.1 i;let ⟨u,x2,x3,_⟩:=m.parts x n;exact⟨u,x2,x3⟩
 have s:(fx a:Fx p)=gN (d.map (·.1)):=by rw[<-m.prod];exact aiS (λx n=>⟨(m.parts x n).2.2.1,(m.parts x n).2.2.2⟩) (by rw[m.prod];exact b.mJ)
 have v:Z a=1+dQ (d.map (·.1)):=by
  let ⟨t1,t2⟩:=BA b.p1 DY (l:=d.map (·.1)) λf t=>⟨(k f t).1.ne,(k f t).1.one⟩
  rw[<-wI b.H b.am,s,<-BB (d.map (·.1)) p (Li _),wI b.H t1,t2];rfl
 refine⟨⟨b.am,λg i=>⟨(k g i).1,(k g i).2.1⟩,by rw[ag3,s],ag4 b.H (λg i=>(k g i).2.2) (by rw[<-s];exact b.mJ),v,?_⟩,λg i=>(k g i).2.2⟩;have:=b.l9;omega
def HK.mem{k}{l X}(d:HK p k a l X){f}(t:f∈X):∃g∈l,aL f/\Z f=Z g/\(fx f:Fx p)=fx g/\∀m,dW (I f m 0) ((p:V)^k)=I f m 0:=by
 obtain⟨i,n,rfl⟩:=CB t;have b:i<Z l:=by rw[<-d.len];exact n
 have s:=d.ok i b;rw[aO,aO,cT n,cT b]at s;exact⟨l[i],sW b,s⟩
def HK.Rz{k}{l X}(f:HK p k a l X):X.map (fx (p:=p))=l.map fx/\dQ X=dQ l:=by
 have g:∀(X l:E (E V)),X.length=Z l->(∀i,i<Z l->Z (X.getD i [])=Z (l.getD i [])/\(fx (X.getD i []):Fx p)=fx (l.getD i []))->X.map (fx (p:=p))=l.map fx/\dQ X=dQ l:=by
  intro X;induction X with
  |nil=>
   intro l b _
   rw[gA b.symm];exact⟨J,J⟩
  |cons x X n=>
   intro l b h
   cases l with
   |nil=>cases b
   |cons y l=>
    let ⟨i1,i2⟩:=n l (Nat.succ.inj b) λi d=>h (i+1)<|Nat.succ_lt_succ d
    have m:Z x=Z y/\(fx x:Fx p)=fx y:=h 0<|Nat.succ_pos _
    exact⟨by rw[gM,gM,i1,m.2],by rw[dQ,dQ,i2,m.1]⟩
 exact g X l f.len λi d=>⟨(f.ok i d).2.1,(f.ok i d).2.2.1⟩
def qZ.cbX(b:qZ p a){m}(s:Ea p (fx a:Fx p) m){k}(t:1<=k)(B:2*il a<p^k){X}(d:HK p k a (m.map (·.1)) X):iz p ((p:V)^k) a X:=by
 let ⟨A,u⟩:=b.pC s;refine⟨b.H,⟨k,t,J⟩,b.am,λf n=>?_,λf n=>?_,?_,d.pr,b.mJ,?_,λg v x i=>?_⟩
 .let ⟨_,_,l,_⟩:=d.mem n;exact l
 .let ⟨g,hg,_,_,z,_⟩:=d.mem n;rw[z];exact u g hg
 .have l:((m.map (·.1)).map<|fx (p:=p)).Pairwise Co:=Hl.2 A.co;rw[<-d.Rz.1]at l;exact Hl.1 l
 .rw[d.Rz.2];exact A.fl
 .have:=ag6 b.am v x i;have e:((p^k:G):V)=(p:V)^k:=wj p k;rw[<-e];omega
end
end Go.El
namespace Go.El
open Go Go.Proofs Go.RowKit Rx
def LR{a b}:px a b<=0↔a<=b:=by
 unfold px;by_cases d:a<b
 .rw[q d];exact⟨λ_=>Rat.le_of_lt d,λ_=>Y⟩
 .rw[j d];by_cases h2:b<a
  .rw[q h2];exact⟨λh=>Y,λh=>aJ h2<|Rat.not_lt.2 h⟩
  .rw[j h2];exact⟨λ_=>Rat.not_lt.1 h2,λ_=>iD _⟩
def YC{a b}:px a b=0↔a=b:=by
 constructor
 .intro h;refine Rat.le_antisymm (LR.1 Y)<|LR.1 ?_;rw[Yc];omega
 .rintro rfl;have:=Yc a a;omega
def aiT(a b d:E U):∀i,sr a b i<=0->sr b d i<=0->sr a d i<=0
 |0,_,_=>iD _
 |i+1,l,h2=>by
  rw[sr]at*;have s:=aiT a b d i;have q1:=@LR (I a i 0)<|I b i 0;have t:=@LR (I b i 0)<|I d i 0;have u:=@LR (I a i 0)<|I d i 0;have p:=@YC (I a i 0)<|I b i 0;have v:=@YC (I b i 0)<|I d i 0;have A:=@YC (I a i 0)<|I d i 0;generalize I a i 0=x at*;generalize I b i 0=y at*;generalize I d i 0=z at*;by_cases m:px x y=0
  .rw[j (λe=>e m)]at l;have:=p.1 m;subst this;by_cases f:px x z=0
   .rw[j (λe=>e f)]at*;exact s l h2
   .rw[q f]at*;exact h2
  .rw[q m]at l;have g:=q1.1 l;have k:y<=z:=by
    by_cases f:px y z=0
    .rw[v.1 f];exact Rat.le_refl
    .rw[q f]at h2;exact t.1 h2
   have n:=Rat.le_trans g k;have B:px x z≠0:=λe=>by have:=A.1 e;subst this;exact m<|p.2<|Rat.le_antisymm g k
   rw[q B];exact u.2 n
def avw{a b d}(g:jX a b<=0)(f:jX b d<=0):jX a d<=0:=by
 have m:∀x y:V,q6 x y<=0->x<=y:=λx y h=>by unfold q6 at h;split at h<;>(try split at h)<;>omega
 have i:∀x y:V,x<y->q6 x y<=0:=λx y h=>by unfold q6;rw[q h];omega
 have k:∀{a b:E U},jX a b<=0->Z a<=Z b:=λ{a b} h=>by
  by_cases e:Z a=Z b
  .omega
  .rw[jX,q e]at h;have:=m _ _ h;omega
 have p:=k g;have s:=k f;by_cases e:Z a=Z d
 .have l:Z a=Z b:=by omega
  have n:Z b=Z d:=Y;rw[jX,j<|λh=>h l]at g;rw[jX,j<|λh=>h n]at f;rw[jX,j<|λh=>h e];rw[<-l]at f;exact aiT a b d _ g f
 .rw[jX,q e];exact i _ _ Y
abbrev wW(x a:E U×V):Prop:=HI x a<=0
def avx{x a z}(b:wW x a)(d:wW a z):wW x z:=avw b d
def avy{l}(b:l.Pairwise wW):gAd zS HI l (Z l-1):=λt d=>by
 have g:∀k(a:k<Z l),I l k zS=l[k]:=λk a=>by rw[aO,cT a];rfl
 have:=List.pairwise_iff_getElem.1 b t (t+1) Y Y Y;rw[g t Y,g (t+1) Y];have e:=ahB l[t+1] l[t];omega
section
variable{α:Type}(d:α)(lt:α->Bool)(x:α)(l:E α)
def aiU:∀i,i<=Z l->((jG d lt x l i).1=ak/\(jG d lt x l i).2=c i l/\∀a,a<i->lt (I l a d)=ak)\/((jG d lt x l i).1=af/\∃k,k<i/\(∀a,a<k->lt (I l a d)=ak)/\lt (I l k d)=af/\(jG d lt x l i).2=c k l++x::(c i l).drop k)
 |0,_=> .inl ⟨J,J,λa z=>Y⟩
 |i+1,n=>by
  have b:c (i+1) l=c i l++[I l i d]:=by rw[uC,aO,cT n];rfl
  have p:(c i l).length=i:=Kg;rw[Yo];rcases aiU i Y with⟨g,s,m⟩|⟨g,k,A,t,u,v⟩
  .rw[g,s];cases f:lt (I l i d)with
   |false=>
    left
    refine⟨J,b.symm,λa B=>?_⟩
    by_cases e:a=i
    .rw[e];exact f
    .exact m a Y
   |true=>
    right
    refine⟨J,i,Y,m,f,?_⟩
    show c i l++[x]++[I l i d]=_
    rw[b,Cj Y,vo Y,mX];rfl
  .rw[g];right;refine⟨J,k,Y,t,u,?_⟩;show(jG d lt x l i).2++[I l i d]=_;rw[v,b,Cj Y,mX];rfl
def avz:∃k,k<=Z l/\(∀b,b<k->lt (I l b d)=ak)/\(k<Z l->lt (I l k d)=af)/\tO d lt x l=c k l++x::az k l:=by
 unfold tO;rcases aiU d lt x l (Z l) (aN _)with⟨a,f,g⟩|⟨a,k,p,i,m,n⟩
 .refine⟨Z l,aN _,g,λh=>Y,?_⟩;rw[a,f,j o,List.drop_length]
 .refine⟨k,Y,i,λ_=>m,?_⟩;rw[a,q J,n,ik]
end
def LS(x:E U×V)(l:E (E U×V)):E (E U×V):=tO ([],0) (λy=>decide<|jX x.1 y.1<0) x l
def avA x l:(LS x l).Perm (x::l):=aic _ _ _ _
def avB{x}{l}(t:l.Pairwise wW):(LS x l).Pairwise wW:=by
 let ⟨k,H,v,A,B⟩:=avz ([],0) (λy:E U×V=>decide<|jX x.1 y.1<0) x l;rw[LS,B];have C:(c k l++az k l).Pairwise wW:=by rw[uj];exact t
 let ⟨p1,f,D⟩:=zI.1 C;have g:∀j(b:j<Z l),I l j ([],0)=l[j]:=λj b=>by rw[aO,cT b];rfl
 have i:∀y∈c k l,wW y x:=λy a=>by
  obtain⟨j,b,rfl⟩:=CB a;have m:j<k:=by rw[hZ]at b;omega
  have d:=bh<|v j m;rw[g j Y]at d;rw[sK];show HI _ _<=0;rw[ahB];show-(jX x.1 _)<=0;omega
 have n:∀y∈az k l,wW x y:=λy a=>by
  have p:k<Z l:=eR λt=>by rw[vo Y]at a;cases a
  have d:=aX<|A p;rw[g k p]at d;have u:wW x l[k]:=Int.le_of_lt d;rw[rZ p]at a f;rcases b9.1 a with rfl|a
  .exact u
  .exact avx u<|(kI.1 f).1 y a
 refine zI.2 ⟨p1,kI.2 ⟨n,f⟩,λy a z s=>?_⟩;rcases b9.1 s with rfl|s
 .exact i y a
 .exact D y a z s
def sx(l:E (E U×V)):E (E U×V):=l.foldl (λo x=>LS x o) []
def aiV l x:sx (l++[x])=LS x (sx l):=by rw[sx,List.foldl_append];rfl
def YD:∀(n:G)(l:E (E U×V)),Z l=n->(sx l).Perm l/\(sx l).Pairwise wW
 |0,l,b=>by rw[gA b];exact⟨List.Perm.refl _,List.Pairwise.nil⟩
 |n+1,l,b=>by
  have a:l≠[]:=λe=>by rw[e]at b;cases b
  have e:l=l.dropLast++[l.getLast a]:=(Yi a).symm;let ⟨i1,i2⟩:=YD n l.dropLast (by rw[List.length_dropLast];omega);rw[e,aiV];exact⟨(avA _ _).trans<|((List.Perm.cons _ i1)).trans (List.perm_append_singleton _ _).symm,avB i2⟩
def avC{a}(B:jW a)(hq:∀i,QS 20 (I a i 0)):∃n:E (E V),(∀a7∈n,aL a7/\Rx.bw (Rx.zx a7))/\Rx.qX n=Rx.zx (dx a)/\aq r 141 [S .q a] (S (.sl .q)<|n.map<|lK<|ef a):=by
 have l2:=B.l2;have l9:=B.l9;let ⟨p,⟨hp,p3,T⟩,Q⟩:=Yh (P:=λp=>eo p/\3<=p/\HC p (dx a)=af) (by let ⟨p,m,b,_,h4⟩:=B.aiR;exact⟨p,m,b,h4⟩);have hp9:p<2304:=by let ⟨q,m,b,D,h4⟩:=B.aiR;exact tm (eR λhc=>Q q Y ⟨m,b,h4⟩) D
 have v:=B.mf;have H:bF p:=⟨hp,Y⟩;have v8:qZ p (dx a):=⟨H,v.am,v.l2,v.l9,(ag7 H _).1 T⟩;have s7:Z (dx a)=Z a:=Ee a;have K:aU (md p<|dx a)=md p (dx a):=v8.trim;let ⟨f1,f2,f3⟩:=v8.f;have ew:md p (dx a)≠[]:=f1.ne;let ⟨L,hL,avD⟩:=aul H Y (a:=md p<|dx a) Y (λi=>(DF H.pos (dx a) i).1) (by rw[PM,K];exact ew) (λd hd=>by rw[PM,K,f2,s7]at hd;have m:d<=4:=Y;have b:p^d<=2304^4:=bZ (zA Y d)<|eU o m;omega);rw[PM,K]at hL;have IW:(Fx.fx (mF p<|md p<|dx a):Fx p)=Fx.fx (dx a):=by have e:=(Fx.Qd H f1.c ew).2.2.2.2;rw[f1.one,Fx.jE,Fx.cY,f3]at e;exact e.symm
 rw[IW]at hL;let ⟨A,hi⟩:=v8.pC hL;have hL8:Z L<=8:=by have:=(XV λf hf=>(A.ok f hf).2).1;have:=A.fl;rw[c7]at*;omega
 let ⟨k1,k2,k3⟩:=ag8 (p:=p) Y<|2*il (dx a);let ⟨m1,m2⟩:=v.mBp (p:=p) Y Y;have hlX:=auH H A (u:=27) (w:=27) k1 Y (λi=>(v.aB i).le Y) m1 Y Y Y;have O:=ait H k1 _ _ A;have C:=v8.cbX hL k1 k2 O;let ⟨G1,G2⟩:=iz.all (p:=p) 8 YE (λe=>by have m:=A.fl;rw[<-O.Rz.2,e]at m;have b:Z (dx a)=1:=m;omega) C;have TM:=aiG (w:=27) o o m1 8 (dx a) _ o YE (λe=>by
  have m:=A.fl;rw[<-O.Rz.2,e]at m;have b:Z (dx a)=1:=m;omega) YE Y C (λf hf i=>by
  let ⟨_,_,_,_,_,f4⟩:=O.mem hf;rw[<-f4 i];exact WU (ow H.pos) m1)
 refine⟨_,G1,G2,?_⟩;have xF:=YA ((p:V)^oH p (2*il (dx a))) 8 (dx a)<|tP p (oH p<|2*il (dx a)) (dx a)<|L.map (·.1);generalize tH ((p:V)^oH p (2*il (dx a))) 8 (dx a) (tP p (oH p<|2*il (dx a)) (dx a)<|L.map (·.1))=n at*;have hGB:∀g∈n,Z g<=12/\∀i,aK 210 (I g i 0):=λg hgm=>by
  let ⟨g1,g2⟩:=G1 g hgm;have hd:Rx.zx g∣Rx.zx (dx a):=by rw[<-G2];exact ahn hgm
  have hb:=λi=>ag6 v.am g1 hd i
  refine⟨?_,λi=>?_⟩
  .have m:=Rx.kX hd (by rw[<-G2];exact(aho λg T=>(G1 g T).2).1);rw[Rx.mi g1.can,Rx.mi v.am.can]at m;omega
  .have m:=v.bB;have b:=hb i;have:aK 26 (I g i 0):=by unfold aK at*;omega
   exact this.le Y
 generalize hX:tP p (oH p<|2*il (dx a)) (dx a) (L.map (·.1))=X at*;have hfB:∀i,aK 201 (I (rj a) i 0):=λi=>by
  by_cases hi:i<Z a
  .rw[LP a hi];exact aiN B hq hi
  .rw[fQ _ (by rw[BU];omega)];exact aK.zero _
 have QZ:=auP (rj a) (by rw[BU];omega) (by rw[BU];omega)<|λi=>(hfB i).le Y;rw[avm B]at QZ;have H6:∀g∈n,aq r 180 [S .z g,.a<|av .z<|I (rj a) (ah<|(Z (rj a):V)-1) 0] (S .q<|lK (ef a) g):=λg T=>by
  have e:I (rj a) (ah<|(Z (rj a):V)-1) 0=((ef a:G):V):=by rw[BU,(Y:ah ((Z a:V)-1)=Z a-1),LP a Y,Rw B]
  have m:=hfB<|ah<|(Z (rj a):V)-1;rw[e]at m⊢;exact auR g (ef a) (Ed a _) (hGB g T).1 (hGB g T).2<|m.le Y
 have Gf:=auO (dx a) 24 o Y v.aB;have hBS:Sm ((il (dx a):G):V):=by have m:=v.bB;exact(show aK 26 _ by unfold aK at*;omega:aK 26 ((il (dx a):G):V)).sm Y
 have had:=yZ ((il (dx a):G):V) ((il (dx a):G):V) hBS hBS;have hil:=avo B hq;have kE:=BU a;generalize rj a=f0 at*;have x:=aeW<|dx a;have hsS:∀i,Sm (I (dx a) i 0):=λi=>(v.aB i).sm o
 refine aS Tryz.func141 ?_;refine rr J<|bL J J hil J<|w<|rc J J QZ<|re J<|rr J ?_;generalize dx a=l at*;refine h<|aA<|bx (α:=G) (λq=>⟨[(3,S .z f0),(4,S .z l),(5,cU q)],[],4,[]⟩) (λq=>eo q/\3<=q/\q<=p) (λq=>p-q) 3 ⟨⟨o,λd m b=>aJ (jQ m m) Y⟩,aN _,p3⟩ (wk ⟨sR J,sR J,sE J J,M⟩ M) ?_;rintro q ⟨q1,q2,q3⟩;have W:(0:V)<(q:V):=Y;have x:=aeW l q Y Y Y hsS;have JD:bJ q (aU<|md q l):=mh W<|DF W l;have C9:bJ q (aU<|k4 q<|aU<|md q l):=mh W<|LG Y _;have QY:Z (aU<|md q l)<=9:=by have:=qP<|md q l;rw[zg]at this;omega
 have XP:Z (aU<|k4 q<|aU<|md q l)<=9:=by have:=qP<|k4 q<|aU<|md q l;have:=LF q<|aU<|md q l;omega
 have hde:=ah2 (aU<|md q l) q Y Y Y JD.1;have hgc:=G' q q1 Y _ _ Y Y JD C9;refine h<|w<|rc J J x<|rc J J x<|rc J J hde<|rc J J hgc<|re J<|F J (λm=>?_)<|λm=>?_
 .have m:(Z (gV q (aU<|md q l)<|aU<|k4 q<|aU<|md q l):V)≠1:=bne_iff_ne.1 m;have N:HC q l=ak:=tj λe=>m vd
  have R:q<p:=Nat.lt_of_le_of_ne q3 λe=>by rw[e,T]at N;cases N
  let ⟨a7,r1,r2,r3,r4,r5⟩:=aqC q Y;refine aG<|aA<|bL J J r5 J<|rt J<|fT<|a6 a7 ⟨r1,Y,yW λe=>r4 p R e hp⟩ (Y:p-a7<p-q) aY
 .have m:((Z (gV q (aU<|md q l)<|aU<|k4 q<|aU<|md q l):V) !=1)=ak:=m;have N:HC q l=af:=tk (by have b:=bne_eq_false_iff_eq.1 m;omega);have R:q=p:=RA q3<|yW λe=>Q q e ⟨q1,q2,N⟩;subst R;refine bD<|aR ?_;rw[K]at x;refine w<|rc J J x<|rc J J avD<|re J<|w<|ij (.sl au) [] J J (re J<|h<|rr J ?_);refine aA<|bx (α:=G×E (E V)) (λs=>⟨[(3,S .z f0),(4,S .z l),(5,cU q),(8,.c<|.S MT L),(10,.c<|.X 6000000),(11,y s.1)],[(6000000,.vec 167 (.sl au) s.2)],8,[]⟩) (λs=>s.1<=Z L/\s.2=(c s.1 L).map (·.1)) (λs=>Z L-s.1) (0,[]) ⟨bm _,J⟩ aY ?_;rintro⟨i,t⟩ ⟨i1,i2⟩;simp only at i1 i2;have ho:Z t<=9:=by rw[i2,c7,hZ];omega
  refine h<|rr J<|F J (λb=>?_)<|λb=>?_
  .have b:i<Z L:=by have b:(i:V)<(Z L:V):=aX b;omega
   have ei:ah ((i:V))=i:=cx i;refine aG<|h<|aA ?_;refine cL<|rl (.sl au) [_] J J (ra J J J J J J J J J ?_ ?_<|re J ?_) (hp:=aH)
   .show(Z t+1+(Z t+1)/4+192)*24<=_;omega
   .show(Z t+1)*1<=_;omega
   refine bU<|rt J (hp:=aH)<|a6 (i+1,t++[(I L (ah<|(i:V)) d0M).1]) ⟨b,?_⟩ (Y:Z L-(i+1)<Z L-i)<|Wk.trans (wk (st':=⟨[(3,S .z f0),(4,S .z l),(5,cU q),(8,.c<|.S MT L),(10,.c<|.X 9007000),(11,y ((i+1:G):V))],[(9007000,.vec 167 (.sl au)<|t++[(I L (ah<|(i:V)) d0M).1])],20,[]⟩) (bP J) ⟨bR J,M⟩)<|Wk.trans (iw 6000000 9007000 J J J) aY;show t++[_]=(c (i+1) L).map (·.1);rw[ei,i2,uC,fL,aO,cT b];rfl
  .have b:i=Z L:=by have b:¬(i:V)<(Z L:V):=bh b;omega
   rw[b,ik]at i2;subst i2;refine bD<|aR ?_;refine dm 6000000 J J J ?_;refine w<|rc J J Gf<|rc J J Gf<|rc J J had<|re J<|rr J ?_;have Rk:∀j:G,((q:V)^j<=((il l:G):V)+((il l:G):V)↔q^j<=2*il l):=λj=>by rw[<-wj];omega
   refine h<|aA<|bx (α:=G) (λk=>⟨[(3,S .z f0),(4,S .z l),(5,cU q),(10,S (.sl au)<|L.map (·.1)),(12,.c<|.P 9005000 0),(13,y k)],[(9005000,.box 42 0<|av .z<|((il l:G):V)+((il l:G):V))],11,[]⟩) (λk=>1<=k/\k<=oH q (2*il l)) (λk=>oH q (2*il l)-k) 1 ⟨aN _,k1⟩ aY ?_;rintro k ⟨e1,e2⟩;refine h<|w<|rc J J (WT q k Y Y)<|rc J J (OS _ _)<|re J<|F J (λD=>?_)<|λD=>?_
   .have D:=(Rk k).1<|ahl.1<|aX D;have h4:k≠oH q (2*il l):=λe=>by rw[e]at D;omega
    refine aG<|aA<|rt J (hp:=aH)<|fT<|a6 (k+1) ⟨Y,Y⟩ (Y:oH q (2*il l)-(k+1)<oH q (2*il l)-k) aY
   .have D:¬q^k<=2*il l:=λe=>bh D (ahl.2<|(Rk k).2 e)
    have h4:k=oH q (2*il l):=RA e2<|yW λe=>D<|k3 k e1 e;subst h4;refine bD<|aR ?_;refine w<|rc J J hlX<|rc J J (WT q _ Y Y)<|rc J J TM<|re J<|w<|ij (.sl .q) [] J J (re J<|h<|rr J ?_);refine aA<|bx (α:=G×E (E U)) (λs=>⟨[(3,S .z f0),(14,S (.sl .z) n),(15,.c<|.X 13000000),(16,y s.1)],[(13000000,.vec 29 (.sl .q) s.2)],15,[]⟩) (λs=>s.1<=Z n/\s.2=(c s.1 n).map (lK<|ef a)) (λs=>Z n-s.1) (0,[]) ⟨bm _,J⟩ aY ?_;rintro⟨i,t⟩ ⟨i1,i2⟩;simp only at i1 i2;have ho:Z t<=9:=by rw[i2,c7,hZ];omega
    refine h<|rr J<|F J (λb=>?_)<|λb=>?_
    .have b:i<Z n:=by have b:(i:V)<(Z n:V):=aX b;omega
     have hm:I n (ah<|(i:V)) (ET.et<|.sl .z)=n[i]:=by rw[cx,aO,cT b];rfl
     have hb:=H6 _<|sW b;rw[<-hm]at hb;refine aG<|h<|aA ?_;refine cL<|rc J J hb (rl (.sl .q) [_] J J (ra J J J J J J J J J ?_ ?_<|re J ?_)) (hp:=aH)
     .show(Z t+1+(Z t+1)/4+192)*24<=_;omega
     .show(Z t+1)*1<=_;omega
     refine bU<|rt J (hp:=aH)<|a6 (i+1,t++[lK (ef a) (I n (ah<|(i:V))<|ET.et<|.sl .z)]) ⟨b,?_⟩ (Y:Z n-(i+1)<Z n-i)<|Wk.trans (wk (st':=⟨[(3,S .z f0),(14,S (.sl .z) n),(15,.c<|.X 16013000),(16,y ((i+1:G):V))],[(16013000,.vec 29 (.sl .q)<|t++[lK (ef a) (I n (ah<|(i:V))<|ET.et<|.sl .z)])],30,[]⟩) (bP J) ⟨bR J,M⟩)<|Wk.trans (iw 13000000 16013000 J J J) aY;show t++[_]=(c (i+1) n).map (lK<|ef a);rw[hm,i2,uC,fL,cT b];rfl
    .have b:i=Z n:=by have b:¬(i:V)<(Z n:V):=bh b;omega
     rw[b,ik]at i2;subst i2;refine bD<|aR ?_;refine dm 13000000 J J J ?_;exact rr J<|di J
def ai0{s t u}{a b}(m:bM a)(g:bM b)(d:b≠[])(n:Z a<=500)(p:Z b<=500)(k:Ht (2^t) (lx a))(l:Ht (2^u) (lx b))(f:t+(u+1)*(Z a+1-Z b)<32*s)(v:u<32*s):D5 s a b:=by
 let ⟨q1,x,z⟩:=Lx g d k l;refine⟨n,p,g.ne d,λi=>l.qs (nZ v) i,λj A i=>?_,λf=>(wM m).ne f,λi=>x.qs (nZ f) i⟩;by_cases hl:Z b<=Z a
 .exact(z hl j A).qs (nZ f) i
 .have:j=0:=by omega
  subst this;exact k.qs (nZ Y) i
def YF{t u}(l:t<=2000)(m:u<=2000){a b}(f:bM a)(g:bM b)(d:b≠[])(n:Z a<=9)(p:Z b<=9)(i:Ht (2^t) (lx a))(k:Ht (2^u) (lx b)):aq r 116 [S .q a,S .q b] (S .q<|jV a b):=by have v:=cR.2 d;have x:(u+1)*(Z a+1-Z b)<=(u+1)*9:=ja _ Y;exact as0 (s:=100000000) Y Y f d<|ai0 f g d Y Y i k Y Y
def ai1{t}(z:t<=100000){a b}(l:bM a)(d:bM b)(u:a≠[])(A:Z a<=9)(B:Z b<=9)(m:Ht (2^t) (lx a))(n:Ht (2^t) (lx b)):∃g,aq r 131 [S .q a,S .q b] (S .q g)/\bM g/\KT (lx g) (lx a) (lx b):=by
 let ⟨C,g2,v⟩:=asL (k:=Z b+1) l d Y u;obtain⟨s,D⟩:∃s,s=10000000000:=⟨_,J⟩;have f:BG s (Z b+1) a b/\(∀i,QS s (I (kY (Z b+1) a b) i 0))/\Z (kY (Z b+1) a b)<=500:=by
  rw[BG,kY];split
  .rename_i e;exact⟨.inl e,λi=>m.qs (nZ Y) i,Y⟩
  .rename_i e;have H:=cR.2 e;let ⟨q1,x,K⟩:=Lx d e m n;have N:(t+1)*(Z a+1-Z b)<=(t+1)*9:=ja _ Y;have p:3^Z b<=19683:=bZ (eU o (Y:Z b<=9)) o;let ⟨i1,i2,i3⟩:=agO (s:=s) (Z b) (t+(t+1)*(Z a+1-Z b)) b (eZ<|fX a b) d (uT _) (by rcases QU (a:=a) e with h|h;omega;rw[h,ug];omega) ((QU (a:=a) e).symm) Y
    (n.le<|eU o<|Nat.le_add_right _ _) (agN (wM l) x) (by refine bZ (ja _ p) ?_;omega)
   exact⟨.inr ⟨ai0 l d e Y Y m n Y Y,i1⟩,i2,i3⟩
 exact⟨_,as2 Y Y (Z b+1) a b l d f.1 Y f.2.1,g2,v⟩
def kR(n:G):G->G:=λm=>m-n
def ai2 n a:pF (kR n) a=pF (kW<|n+1) a*pF (kR<|n+1) a:=by rw[<-DL];exact zv λx _=>by unfold kW kR;split<;>omega
def avK{a}(b:FL a){n}{D}(g:KT D (pF (kW n) a) (pF (kR n) a)):D=pF (kW<|n+1) a:=by
 let ⟨d1,d2,d3,U,V,d4⟩:=g;refine d1.eq (xR b.mo) ?_ ?_
 .have d:Co D (pF (kP n) a):=Hf d1.ne λQ hQ q1 i=>by
   let ⟨x,hx,t,k⟩:=Br hQ i;let ⟨z,f,l,m⟩:=Br hQ<|fG q1 d3;have p:x.2=n:=WB.1 (by have:=KU n x.2;omega);have u:n<z.2:=by unfold kR at l;omega
   have s:x.1=z.1:=(b.gI x hx).eq (b.gI z f) (b.mo x hx) (b.mo z f)<|fG (hQ.assoc (b.gI x hx) k) m;exact FL.WA b.uL hx f (λe=>by rw[e]at p;omega) s
  rw[WC]at d2;exact d.dvd d2
 .rw[d4];exact iI (eW (by rw[WC n a];exact jd _ _) _)<|eW (by rw[ai2 n a];exact nU _ _) _
def avL{a}(d:bM a)(b:2<=Z a):bM (uS a):=by
 right;rw[Xs,agn Y,(Y:Z a-1-1+1=Z a-1)];have f:=d.ne (λe=>by rw[e]at b;simp at b);intro e;rcases zp.1 e with e|e
 .have:((Z a-1:G):V)=0:=by exact_mod_cast e
  omega
 .exact f e
def avM{a:G->G}(d:∀m,a m<=m) b:pF a b∣pF id b:=by refine⟨pF (λm=>m-a m) b,?_⟩;rw[<-DL];exact zv λx _=>by have:=d x.2;show x.2=_;omega
def Eo:G->G->E U->E U->E (E U×V)->E (E U×V)->Prop
 |0,_,_,_,_,_=>False
 |k+1,n,a,b,acc,out=>if 1<Z a then∃p g z,
   aq r 131 [S .q a,S .q b] (S .q p)/\aq r 116 [S .q a,S .q p] (S .q g)/\aq r 116 [S .q b,S .q p] (S .q z)/\
   Eo k (n+1) p z (if 1<Z g then acc++[(g,(n:V))]else acc) out
  else out=acc
def avN(a t v:E U) out(T:Z a<=9)(A:¬Z a<2){d g B:E U}(D:aq r 132 [S .q a] (S .q d))(H:aq r 131 [S .q a,S .q d] (S .q g))(N:aq r 29 [S .q a] (S .q B))(P:aq r 116 [S .q B,S .q g] (S .q t))
  (Q:Eo (Z a) 1 t g [] out):aq r 140 [S .q a] (S UT out):=by
 refine aS Tryz.func140 ?_
 refine e J<|w<|ij UT [] J J (O J<|h<|e J<|F J (λu=>?_)<|λ_=>aG ?_)
 .have u:(Z a:V)<2:=aX u;exact aJ u Y
 refine w<|rc J J D<|rc J J H<|O J<|w<|rc J J N<|rc J J P<|O J<|h<|e J ?_
 refine aA<|bx (α:=G×G×E U×E U×E (E U×V)) (λx=>⟨[(3,.c<|.X 1000000),(4,S .q x.2.2.2.1),(5,S .q x.2.2.1),(6,y x.2.1)],[(1000000,.vec 114 UT x.2.2.2.2)],7,[]⟩) (λx=>Eo x.1 x.2.1 x.2.2.1 x.2.2.2.1 x.2.2.2.2 out/\Z x.2.2.2.2<x.2.1/\x.2.1+x.1<=20) (λx=>x.1) (Z a,1,t,g,[]) ⟨Q,Nat.zero_lt_one,(Y:1+Z a<=20)⟩ aY ?_
 rintro⟨k,n,t,v,b⟩ ⟨i,A,C⟩
 simp only at i A C
 cases k with
 |zero=>exact aJ i<|λu=>u
 |succ k=>
  rw[Eo]at i
  refine h<|e J<|F J (λl=>?_)<|λl=>?_
  .have l:1<Z t:=by have l:(Z t:V)>1:=aX l;omega
   rw[q l]at i;let ⟨p,f,z,d1,d2,d3,i⟩:=i;refine dk<|aR<|h<|aA<|w<|rc J J d1<|O J<|w<|rc J J d2<|O J<|nP ⟨[(3,.c<|.X 1000000),(4,S .q v),(6,y n),(7,S .q p)],[(1000000,.vec 114 UT (if 1<Z f then b++[(f,(n:V))]else b))],30,[]⟩ ?_<|λm=>e J<|F J (λs=>?_)<|λs=>dk ?_
   .refine e J<|cL<|rc J J d3<|O J<|bU<|rt J (hp:=aH)<|a6 (k,n+1,p,z,if 1<Z f then b++[(f,(n:V))]else b) ⟨i,?_,by show n+1+k<=_;omega⟩ (dO k) aY;show Z (if 1<Z f then b++[(f,(n:V))]else b)<n+1;split
    .rw[iL];show Z b+1<_;omega
    .omega
   .have s:1<Z f:=by have s:(Z f:V)>1:=aX s;omega
    rw[q s]at m;refine cL<|rl UT [(f,(n:V))] J J (ra J J J J J J J J J ?_ ?_<|O J ?_)
    .show(Z b+1+(Z b+1)/4+192)*32<=_;omega
    .show(Z b+1)*2<=_;omega
    .exact fp m<|Wk.trans (wk (st':=⟨[(3,.c<|.X 11005000),(4,S .q v),(6,y n),(7,S .q p)],[(11005000,.vec 114 UT<|b++[(f,(n:V))])],12,[]⟩) (bP J) ⟨bR J,M⟩)<|Wk.trans (iw 1000000 11005000 J J J) aY
   .have s:¬1<Z f:=by have s:¬(Z f:V)>1:=bh s;omega
    rw[j s]at m;exact fp m aY
  .have l:¬1<Z t:=by have l:¬(Z t:V)>1:=bh l;omega
   rw[j l]at i;rw[i];exact oc<|rH<|oS<|oe<|aR<|dm 1000000 J J J<|e J<|bX<|atR J
def avO{t}(ht:t<=1500){a}(ha:bM a)(h0:a≠[])(la:Z a<=9)(hA:Ht (2^t) (lx a)){s}(T:FL s)(hF:pF id s=lx (eZ a))(hD:∀D,Mo D->D∣pF id s->Ht (2^t) D):
  ∃H,aq r 140 [S .q a] (S UT H)/\H.map (λp=>(lx p.1,p.2))=pB s (Z a) 1/\∀p∈H,bM p.1:=by
 have hl:=cR.2 h0
 have lm:=QO ha
 have gY:sz (pF id s)=Z a:=by rw[hF,eJ<|uT a,lm]
 have W:∀{c:G->G}{v:E U},(∀m,1<=m->c m<=m)->bM v->lx v=pF c s->Z v<=9/\v≠[]/\Ht (2^t) (lx v)/\Mo (lx v):=λ{c v} hc X cJ=>by
  have e2:pF c s=pF (λm=>min (c m) m) s:=zv λx P=>by have:=hc x.2<|T.pos x P;show _=min _ _;omega
  have hm:Mo (lx v):=by rw[cJ];exact xR T.mo
  have hd:lx v∣pF id s:=by rw[cJ,e2];exact avM (λm=>Nat.min_le_right _ _) s
  have C:=kX hd (xR T.mo).ne;rw[eJ X,gY]at C;exact⟨Y,λcJ=>by rw[cJ,mI]at hm;exact hm.ne J,hD _ hm hd,hm⟩
 by_cases h2:Z a<2
 .have P:∀x∈s,x.2<1:=λx P=>by have:=XK T P;omega
  refine⟨[],?_,by rw[XI _ P];rfl,λp hp=>by cases hp⟩;refine aS Tryz.func140 ?_;refine e J<|w<|rl UT [] J J (O J<|h<|e J<|F J (λ_=>?_)<|λQ=>?_)
  .exact e J<|bX<|da<|atR J
  .have Q:¬(Z a:V)<2:=bh Q;exact aJ Q Y
 have qd:=avL ha Y
 have ed:lx (uS a)=bG (lx a):=asI a
 have ld:=Xs a
 have td:Ht (2^(t+4)) (lx<|uS a):=by rw[ed];exact(hA.bG (n:=9) (by rw[eJ ha];omega) Y).le (by rw[kv,ic];exact ja _ o)
 have c1:=asU (k:=100000000) a Y (λi=>hA.qs (nZ Y) i) Y Y
 generalize uS a=d at*
 have lift:∀{a b:G}{A:Rx},Ht (2^a) A->a<=b->Ht (2^b) A:=λQ Ss=>Q.le<|eU o Ss
 let ⟨g,c2,qg,gg⟩:=ai1 (t:=t+4) (a:=a) (b:=d) Y ha qd h0 Y Y (lift hA Y) td
 obtain⟨c,ec⟩:∃c,c=(I a (Z a-1) 0)⁻¹ :=⟨_,J⟩
 have hc0:c≠0:=by rw[ec];exact uU<|ha.ne h0
 have eM:lx (eZ a)=K c*lx a:=by rw[BH h0,ec]
 have gF:KT (lx g) (pF id s) (bG<|pF id s):=by let ⟨g1,g2,g3,YG,Ek,g4⟩:=gg;rw[hF,eM,Hh];rw[ed]at g3 g4;refine⟨g1,eW g2 _,eW g3 _,YG*K c⁻¹,Ek*K c⁻¹,?_⟩;have e1:YG*K c⁻¹ *(K c*lx a)+Ek*K c⁻¹ *(K c*bG (lx a))=(K c⁻¹ *K c)*(YG*lx a)+(K c⁻¹ *K c)*(Ek*bG (lx a)):=fF;rw[e1,tC hc0,cY,cY];exact g4
 let ⟨eg,_⟩:=aqY T gF
 have eg:lx g=pF (kR 1) s:=eg
 have hkW:∀n m,1<=m->kW n m<=m:=λn m Q=>bZ (afb n m) Q
 have hkR:∀n m,1<=m->kR n m<=m:=λn m _=>Nat.sub_le _ _
 let ⟨g9,g0,tg,mg⟩:=W (hkR 1) qg eg
 have c3:=XM (k:=100000000) a Y (λi=>hA.qs (nZ Y) i) (λ_=>ha.ne h0) Y
 have c4:=YF (t:=t) (u:=t) (a:=eZ a) (b:=g) Y Y (uT a) qg g0 Y g9 (by rw[<-hF];exact hD _ (xR T.mo)<|oD _) tg
 have ewq:lx (jV (eZ a) g)=pF (kW 1) s:=zq mg.ne ((DU (uT a) qg g0<|hF▸gF.l).symm.trans<|by rw[<-hF,WD T,eg];rfl)
 have qw:=QM (eZ a) g
 generalize jV (eZ a) g=w1 at*
 have run:∀(k n:G)(v y:E U)(N:E (E U×V)),n+k=Z a+1->1<=k->1<=n->bM v->bM y->lx v=pF (kW n) s->lx y=pF (kR n) s->∃B,Eo k n v y N (N++B)/\B.map (λp=>(lx p.1,p.2))=pB s k n/\∀p∈B,bM p.1:=by
  intro k;induction k with
  |zero=>intro n v y N _ Q;omega
  |succ k ih=>
   intro n v y N hnk _ hn X hy R ey
   let ⟨w9,w0,tw,mw⟩:=W (hkW n) X R
   let ⟨y9,y0,ty,my⟩:=W (hkR n) hy ey
   by_cases hc:1<Z v
   .obtain⟨x,P,hxn⟩:∃x∈s,n<=x.2:=eR λnB=>by
     have e1:pF (kW n) s=1:=PY λx P=>j λQ=>nB ⟨x,P,Q⟩
     rw[e1]at R;have:=eJ X;rw[R,pn]at this;omega
    have Dc:=XK T P;let ⟨p,d1,qp,gp⟩:=ai1 (t:=t) (a:=v) (b:=y) Y X hy w0 w9 y9 tw ty;rw[R,ey]at gp;have ep:=avK T gp;let ⟨p9,p0,tp,mp⟩:=W (hkW<|n+1) qp ep;have d2:=YF (t:=t) (u:=t) Y Y X qp p0 w9 p9 tw tp;have d3:=YF (t:=t) (u:=t) Y Y hy qp p0 y9 p9 ty tp;have eg2:lx (jV v p)=pF (kP n) s:=zq mp.ne ((DU X qp p0<|by rw[R];exact gp.l).symm.trans<|by rw[R,ep];exact WC n s);have ez:lx (jV y p)=pF (kR<|n+1) s:=zq mp.ne ((DU hy qp p0<|by rw[ey];exact gp.r).symm.trans<|by rw[ey,ep,c8<|pF (kR<|n+1) s];exact ai2 n s);have qg2:=QM v p;have qz:=QM y p;generalize jV v p=f at*;generalize jV y p=z at*;let ⟨B,o1,o2,o3⟩:=ih (n+1) p z (if 1<Z f then N++[(f,(n:V))]else N) Y Y Y qp qz ep ez;have Uy:sz (pF (kP n) s)=Z f:=by rw[<-eg2,eJ qg2]
    refine⟨(if 1<Z f then[(f,(n:V))]else[])++B,?_,?_,?_⟩
    .rw[Eo,q hc];refine⟨p,f,z,d1,d2,d3,?_⟩;by_cases C:1<Z f
     .rw[q C]at o1⊢;rw[q C,<-mX];exact o1
     .rw[j C]at o1⊢;rw[j C];exact o1
    .rw[pB,fL,o2,Uy];by_cases C:1<Z f
     .rw[q C,q C,gM,En,eg2]
     .rw[j C,j C];rfl
    .intro jL M;rcases bg.1 M with M|M
     .by_cases C:1<Z f
      .rw[q C,iM]at M;rw[M];exact qg2
      .rw[j C]at M;cases M
     .exact o3 jL M
   .have nB:∀x∈s,x.2<n:=λx P=>PU λQ=>by have C:=kX (KS (c:=kW n) P<|by rw[PZ.2 Q];omega) (xR T.mo).ne;have h2:=(T.gI x P).1;rw[<-R,eJ X]at C;omega
    refine⟨[],?_,by rw[XI _ nB];rfl,λp hp=>by cases hp⟩;rw[Eo,j hc,iO]
 let ⟨H,o1,o2,o3⟩:=run (Z a) 1 w1 g [] Y Y Y qw qg ewq eg
 exact⟨H,avN a w1 g H la h2 c1 c2 c3 c4 o1,o2,o3⟩
open Classical in
noncomputable def mO(b:E U):E (E U):=if e:∃a,((∀u∈a,I u (Z u-1) 0=1/\bM u/\Mo (lx u)/\bw (lx u))/\pC a=lx b)/\aq r 141 [S .q b] (S (.sl .q) a)then zC e else[]
def ai7{a}(d:jW a)(f:∀i,QS 20 (I a i 0)):((∀u∈mO a,I u (Z u-1) 0=1/\bM u/\Mo (lx u)/\bw (lx u))/\pC (mO a)=lx a)/\aq r 141 [S .q a] (S (.sl .q)<|mO a):=by let ⟨G,g,g2,k⟩:=avC d f;have e:∃b,((∀u∈b,I u (Z u-1) 0=1/\bM u/\Mo (lx u)/\bw (lx u))/\pC b=lx a)/\aq r 141 [S .q a] (S (.sl .q) b):=⟨_,d.unG g g2,k⟩;unfold mO;rw[dif_pos e];exact xN e
def avR{ir:E U->E (E U)}{a}{i}(d:i<Z a):gO ir (c (i+1) a)=gO ir (c i a)++(ir (I a i zS).1).map (λu=>(u,(I a i zS).2))/\∃C,gO ir a=gO ir (c (i+1) a)++C:=by
 have b:c (i+1) a=c i a++[I a i zS]:=by rw[uC,aO,cT d];rfl
 refine⟨?_,gO ir<|az (i+1) a,?_⟩
 .rw[b,gO,gO,FC];simp
 .rw[gO,gO,gO,<-FC,uj]
def ai8{a:E U}(d:oJ a):∃N,BO a N/\Z N<=8/\(∀x∈N,HJ 20 x)/\aq r 87 [S .q a] (.t [(af,av .q<|I a (Z a-1) 0),(ak,[.S UT N]),(ak,[.I .i64 0])]):=by
 let ⟨L,hL,K⟩:=Rx.afa _ (Rx.lx<|eZ a) (dO _) d.mo;let ⟨out,o1,o2,o3⟩:=avO (t:=1500) Y d.can d.ne d.l9 d.hA hL K<|λD hD hd=>(d.ht hD<|K▸hd).le<|Rx.Ly 1500 (k:=600) o;let ⟨p1,Q,p3,p4,p5,p6⟩:=d.atJ (ir:=mO) (λq d hq=>(ai7 d hq).1) hL K o2 o3;let ⟨a1,a2⟩:=YD _ (gO mO out) J;refine⟨sx<|gO mO out,⟨λx T=>p4 x<|a1.mem_iff.1 T,by rw[atC a1,p5],a1.symm.pairwise p6 (λd W=>d W.symm),avy a2⟩,by rw[a1.length_eq];exact Q,λx T=>p3 x<|a1.mem_iff.1 T,?_⟩;refine aS Tryz.func87 ?_;have la:=cR.2 d.ne;have l9:=d.l9;have hol:Z out<=9:=by have h1:=ahD (L:=L) (Z a) 1;rw[<-o2,c7]at h1;omega
 refine e J<|h<|e J<|F J (λh1=>?_)<|λ_=>aG ?_
 .exfalso;have h1:((Z a:V)==0)=af:=h1;have:=eS h1;omega
 refine h<|e J<|F J (λh1=>?_)<|λ_=>aG ?_
 .exfalso;have h1:(Z a:V)>13:=aX h1;omega
 refine w<|rl UT [] J J (O J<|bL J J o1 J<|h<|e J ?_);refine aA<|bx (α:=G) (λi=>⟨[(0,S .q a),(2,.c<|.P 0 0),(5,S UT<|sx<|gO mO<|c i out),(6,S UT out),(7,y i)],[(0,.box 44 0 [.B ak,.V<|.slice none 0 0,.B ak,.V<|.slice none 0 0])],20,[]⟩) (λi=>i<=Z out) (λi=>Z out-i) 0 (bm _) (wk ⟨sR J,sR J,sE J J,sR J,sR J,M⟩ ⟨bE J J,M⟩) ?_;intro i hi;refine h<|e J<|F J (λh1=>?_)<|λh1=>?_
 .have h1:i<Z out:=by have h1:(i:V)<(Z out:V):=aX h1;omega
  have X:i+1<=Z out:=h1;have R:(I out (ah<|(i:V))<|ET.et UT)=I out i zS:=bl (λz=>I out z zS)<|cx i;let ⟨g1,g2,g3⟩:=p1 (I out i zS) Rq;have v:=(ai7 g1 g2).2;let ⟨l,C,hC⟩:=avR (ir:=mO) h1;rw[<-R]at v l;generalize Nj:mO (I out (ah<|(i:V))<|ET.et UT).1=us at*;generalize hm:(I out (ah<|(i:V))<|ET.et UT).2=m at*;have lV:Z us<=8:=by have h3:=Q;rw[hC,l,iL,iL,c7]at h3;omega
  refine aG<|h<|aA<|w<|rc J J v (O J<|e J ?_) (hp:=aH);refine aA<|bx (α:=G) (λj=>⟨[(0,S .q a),(2,.c<|.P 0 0),(5,S UT<|sx<|gO mO (c i out)++(c j us).map λu=>(u,m)),(6,S UT out),(7,y i),(8,S (.sl .q) us),(9,y j)],[(0,.box 44 0 [.B ak,.V<|.slice none 0 0,.B ak,.V<|.slice none 0 0])],30,[]⟩) (λj=>j<=Z us) (λj=>Z us-j) 0 (bm _) (wk ⟨sR J,sR J,sE J ?_,sR J,sR J,sR J,sR J,M⟩ ⟨bR J,M⟩) ?_
  .rw[GV,En,iO]
  intro j hj;refine h<|e J<|F J (λg=>?_)<|λg=>?_
  .have g:j<Z us:=by have g:(j:V)<(Z us:V):=aX g;omega
   have A:(I us (ah<|(j:V))<|ET.et<|.sl .q)=us.getD j []:=bl (λz=>us.getD z [])<|cx j;have htk:c (j+1) us=c j us++[us.getD j []]:=by rw[uC,aO,cT g];rfl
   have s:∀n∈gO mO (c i out)++us.map (λu=>(u,m)),HJ 20 n:=λn p=>p3 n (by rw[hC,l];exact eH _ p)
   have H:∀n∈gO mO (c i out)++(c j us).map (λu=>(u,m)),HJ 20 n:=λn p=>s n (by
    rcases bg.1 p with p|p
    .exact eH _ p
    .obtain⟨u,hu,rfl⟩:=kf.1 p;exact gx _<|Rj (f:=λu=>(u,m))<|Gy hu)
   have hlen:Z (gO mO (c i out)++(c j us).map (λu=>(u,m)))<=8:=by have h3:=Q;rw[hC,l,iL,iL,c7]at h3;rw[iL,c7,hZ];omega
   let ⟨b1,_⟩:=YD _ (gO mO (c i out)++(c j us).map (λu=>(u,m))) J;have b:=auN (sx<|gO mO (c i out)++(c j us).map (λu=>(u,m))) (us.getD j [],m) (by rw[b1.length_eq];omega) (s _<|gx _<|Rj (f:=λu=>(u,m))<|by rw[aO,cT g];exact sW g)<|λn p=>H n<|b1.mem_iff.1 p;have b:aq r 142 [S UT (sx<|gO mO (c i out)++(c j us).map (λu=>(u,m))),.a<|av UT (us.getD j [],m)] (S UT<|sx<|gO mO (c i out)++(c (j+1) us).map (λu=>(u,m))):=by rw[htk,fL,<-mX,gM,En,aiV];exact b
   have b:aq r 142 [S UT (sx<|gO mO (c i out)++(c j us).map (λu=>(u,m))),.a<|av UT (I us (ah<|(j:V))<|ET.et<|.sl .q,(I out (ah<|(i:V))<|ET.et UT).2)] (S UT<|sx<|gO mO (c i out)++(c (j+1) us).map (λu=>(u,m))):=by rw[A,hm];exact b
   refine aG<|h<|aA<|cL<|rc J J b (O J<|bU<|rt J (hp:=aH)<|a6 (j+1) g (Y:Z us-(j+1)<Z us-j) aY) (hp:=aH)
  .have g:j=Z us:=by have g:¬(j:V)<(Z us:V):=bh g;omega
   subst g;rw[ik,<-l];exact bD<|bU<|rt J (hp:=aH)<|a6 (i+1) X (Y:Z out-(i+1)<Z out-i) aY
 .have h1:i=Z out:=by have h1:¬(i:V)<(Z out:V):=bh h1;omega
  subst h1;rw[ik];refine bD<|aR ?_;refine e J (hp:=aH)<|cd J ?_;have W:ah ((Z a:V)-1)=Z a-1:=Y;show AV.t [(af,av .q<|I a (ah<|(Z a:V)-1) 0),(ak,[C.S UT (sx<|gO mO out)]),(ak,[.I .i64 0])]=_;rw[W]
def RB:E (E U×V)->Bool
 |[x]=>x.2==1
 |_=>ak
def avT{a}(b:Z a≠1):RB a=ak:=by
 match a with
 |[]=>rfl
 |[x]=>exact aJ J b
 |x::y::l=>rfl
def ai9{a:E U}{b:E (E U×V)}{z:U}(d:aq r 87 [S .q a] (.t [(af,av .q z),(ak,[.S UT b]),(ak,[.I .i64 0])])):aq r 33 [S .q a] (cB<|RB b):=by
 refine aS Tryz.func33 ?_;refine e J<|bL J J d J<|w<|rg 14 J J (λ_=>rg 19 J J (λh=>?_)<|λh=>?_)<|λh=>gD
 .have h:(Z b:V)=1:=eS h;obtain⟨x,rfl⟩:=List.length_eq_one_iff.1 (Y:Z b=1);exact O J<|cd J J
 .have h:(Z b:V)≠1:=pa h;exact O J<|cd J<|bl cB (avT Y).symm
def avU{a}(b:bM a):gH a=a:=sf (jF a) b<|tI a
structure Ep(l:E V):Prop where
 l4:l.length<=4
 sm:∀x∈l,-128<=x/\x<=127
def YH(l:E V):I (l++[1]) (Z l) 0=1:=by simp[aO]
def YI l:bM ((l++[1]).map iQ):=ahG (n:=Z l) ax<|YH l
def YJ{l}(b:Ep l) i:∃z:V,aD z<=128/\I ((l++[1]).map iQ) i 0=(z:U):=by
 have:=Eg (l++[1]) i;rw[eG]at this;refine⟨_,?_,this⟩;rw[aO];cases hx:(l++[1])[i]? with
 |none=>decide
 |some x=>
  have a:=Nx hx
  rcases bg.1 a with a|a
  .have:=b.sm x a;show aD x<=128;omega
  .have:x=1:=by simpa using a
   subst this;decide
def avV{l}(a:Ep l):Ht (2^7) (lx<|(l++[1]).map iQ):=⟨1,o,o,λi=>by let ⟨z,b,h2⟩:=YJ a i;exact⟨z,b,by rw[eG,h2];exact ph _⟩⟩
def avW{l}(a:Ep l) i:QS 1 (I ((l++[1]).map iQ) i 0):=(avV a).qs (nZ o) i
def ai' l(a:Ep l):x6 (l++[1]) 4=(l++[1]).map iQ:=by rw[x6,jy (by rw[iL,oV];have:=a.l4;omega),avU<|YI l]
structure du(m:E U):Prop where
 can:bM m
 top:m.getD (m.length-1) 0=1
 l2:2<=m.length
 l5:m.length<=5
 gI:bw (lx m)
 int:∀i,∃z:V,z.natAbs<=128/\m.getD i 0=(z:U)
def du.ht{m}(a:du m):Ht (2^7) (lx m):=⟨1,o,o,λi=>by let ⟨z,b,h2⟩:=a.int i;exact⟨z,b,by rw[eG,h2];exact ph _⟩⟩
def du.of{l}(a:Ep l)(b:l≠[])(d:bw (lx<|(l++[1]).map iQ)):du ((l++[1]).map iQ):=by have f:=cR.2 b;have g:=a.l4;refine⟨YI l,?_,b6,b6,d,YJ a⟩;have:=Eg (l++[1])<|Z l;rw[eG,YH]at this;rw[c7,iL,oV,eD,this];rfl
def avX{a}{b}(f:BO a b)(g:I a (Z a-1) 0=1)(m:bM a)(i:a≠[])(d:RB b=af):bw (lx a):=by
 match b,d with
 |[x],d=>
  have k:x.2=1:=eS d
  have e:=f.prod
  let ⟨_,i2,_⟩:=f.ok x ax
  rw[fH,fH,k,Rx.fv]at e
  have l:lx (eZ a)=lx a:=by rw[BH i,g,(Q7:(1:U)⁻¹ =1),jE,Rx.cY]
  rw[l,show ah (1:V)=1 from J,se]at e
  rw[<-e];exact i2
def avY{l}(h:Ep l):∃v:Bool,aq r 32 [S .q ((l++[1]).map iQ)] (cB v)/\(v=af->l≠[]/\bw (lx<|(l++[1]).map iQ)):=by
 have C:=h.l4;have b:Z ((l++[1]).map iQ)=Z l+1:=ax;have a:I ((l++[1]).map iQ) (Z ((l++[1]).map iQ)-1) 0=1:=by have:=Eg (l++[1])<|Z l;rw[eG,YH]at this;rw[b,eD,this];rfl
 have n:=YI l;have p:=avW h;have s:=YJ h;generalize hm:(l++[1]).map iQ=m at*;have x:m≠[]:=λe=>by subst e;cases b
 have t:=aiw (k:=1) o m Y (by rw[a];decide) p x;by_cases B:l=[]
 .refine⟨ak,?_,λe=>xy⟩;subst B;refine aS Tryz.func32 ?_;refine rr J<|bA<|w<|rc J J t<|rg 6 J J (λh=>gD)<|λ_=>?_;refine rg 11 J J (λ_=>O J<|F J (λ_=>rr J<|bX<|da<|atR J)<|λh=>gD)<|λg=>?_;have g:¬(Z m:V)<2:=bh g;rw[ug]at b;exact aJ g Y
 have H:=cR.2 B;have K:oJ m:=at2 n x Y (D:=1) o o λi=>by let ⟨z,N,g⟩:=s i;exact⟨z,bZ N o,by rw[g];exact ph _⟩
 let ⟨fs,f1,_,_,f4⟩:=ai8 K;have u:=ai9 f4;refine⟨RB fs,?_,λP=>⟨B,avX f1 a n x P⟩⟩;have d:=QV m x Y;rw[a]at d;have f:=QL (k:=1) (1:U) 1 (by have:=p<|Z m-1;rwa[a]at this) o;rw[tk J]at f;have Q:=y6 1 o o;refine aS Tryz.func32 ?_;refine rr J<|bA<|w<|rc J J t<|rg 6 J J (λh=>gD)<|λ_=>?_;refine rg 11 J J (λg=>?_)<|λg=>?_
 .have g:(Z m:V)<2:=aX g;exact aJ g Y
 refine O J<|F J (λA=>?_)<|λA=>aG ?_
 .have A:(Z m:V)>9:=aX A;exact aJ A Y
 exact w<|rc J J d<|rc J J Q<|rc J J f<|rg 20 J J (λ_=>mD J J J J J u<|O J<|di J)<|λh=>gD
def a4.get_at{g:Gh}:∀{b:E C}{vs:E Value}{j:G}{d:C},a4 g b vs->b[j]? =some d->∃v,c6 g d v
 |[],_,_,_,_,a=>by cases a
 |_::_,_,0,_,⟨v,_,_,f,_⟩,a=>by cases a;exact⟨v,f⟩
 |_::_,_,j+1,_,⟨_,_,_,_,h2⟩,a=>a4.get_at (j:=j) h2 a
def avZ{P}{n}{Q}(t p:G){T}{xs}{b}{i}{d}{mem}{k}{l}(hl:L t d=some (.a b))(s:b[p]? =some (.S T xs))(u:Z xs*T.n<=140737488355328->TR P n i ⟨d,mem,k,l⟩ Q):TR P n i ⟨d,mem,k,l⟩ Q:=by intro F x g W a m;have z:bf g (.a b) (a.tmps.getD t undef):=m.dH t (.a b) Cx;let ⟨_,_,h2⟩:=z;let ⟨v,f⟩:=a4.get_at h2 s;have f:c6 g (.S T xs) v:=f;let ⟨_,_,_,_,A,_⟩:=f;exact u A F x g W a m
def t8(x:V):V:=x.tmod 8
def av0 x: -7<=t8 x/\t8 x<=7:=by unfold t8;rw[Int.tmod_eq_emod];split<;>omega
def LU:E (E V):=[[-2,0,1],[1,0,1],[-2,0,0,1],[1,1,1],[-1,-1,0,1],[1,0,0,0,1],[1,0,-10,0,1],[-3,1]]
def BV{l b}(f:Z l<=4)(d:∀x∈l,-128<=x/\x<=127)(g:l≠[])(i:b=l++[1])(k:bw (lx<|b.map iQ)):du (x6 b 4)/\∀x∈b,-128<=x/\x<=127:=by
 subst i;rw[ai' l ⟨f,d⟩];refine⟨du.of ⟨f,d⟩ g k,λx a=>?_⟩;rcases bg.1 a with a|a
 .exact d x a
 .have:x=1:=by simpa using a
  subst this;decide
def av1{i}(a:i<8):du (x6 (LU.getD i []) 4)/\∀x∈LU.getD i [],-128<=x/\x<=127:=by
 have:i=0\/i=1\/i=2\/i=3\/i=4\/i=5\/i=6\/i=7:=Y;rcases this with rfl|rfl|rfl|rfl|rfl|rfl|rfl|rfl
 .exact BV (l:=[-2,0]) o o o J atP
 .exact BV (l:=[1,0]) o o o J atQ
 .exact BV (l:=[-2,0,0]) o o o J atS
 .exact BV (l:=[1,1]) o o o J atT
 .exact BV (l:=[-1,-1,0]) o o o J atU
 .exact BV (l:=[1,0,0,0]) o o o J atV
 .exact BV (l:=[1,0,-10,0]) o o o J atW
 .exact BV (l:=[-3]) o o o J atX
def av2 k(b:E V)(t:0<=k/\k<=255)(W:∀x∈b,-128<=x/\x<=127):∃m,du m/\aq r 11 [.a [.I .u8 k,.S I8 b]] (S .q m):=by
 have s:Ep ((c 4 b).map t8):=⟨HB,λx g=>by obtain⟨C,_,rfl⟩:=kf.1 g;have:=av0 C;omega⟩;let ⟨v,pV,yV⟩:=avY s;have n:=ag2 ((c 4 b).map t8++[1]) 4 o (λx g=>by
  rcases bg.1 g with g|g
  .exact s.sm x g
  .have:x=1:=by simpa using g
   subst this;decide)
 rw[ai' _ s]at n;have u:ah ((k.tdiv 2).tmod 8)<8:=by rw[wc t.1,l7 Y];omega
 let ⟨z,D⟩:=av1 u;have l:=ag2 (LU.getD (ah<|(k.tdiv 2).tmod 8) []) 4 o D;obtain⟨m,p⟩:∃m,m=if k.tmod 2=0/\v=af then((c 4 b).map t8++[1]).map iQ else x6 (LU.getD (ah<|(k.tdiv 2).tmod 8) []) 4:=⟨_,J⟩
 refine⟨m,?_,?_⟩
 .rw[p];split
  .rename_i h;let ⟨H,h2⟩:=yV h.2;exact du.of s H h2
  .exact z
 clear yV z;generalize ((c 4 b).map t8++[1]).map iQ=L at*;refine aS Tryz.func11<|avZ 0 1 J J λA=>?_;have A:Z b*1<=140737488355328:=A;refine e J<|w<|ij I8 [] J J (O J ?_);refine nP ⟨[(1,.c<|.P 0 0),(3,.c<|.X 1000000)],[(1000000,.vec 53 I8<|(c 4 b).map t8),(0,.box 24 0 [.I .u8 k,.S I8 b])],10,[]⟩ ?_<|λd=>e J ?_;rotate_left
 .refine aA<|bx (α:=G) (λi=>⟨[(1,.c<|.P 0 0),(3,.c<|.X 1000000),(4,y i)],[(1000000,.vec 53 I8<|(c i b).map t8),(0,.box 24 0 [.I .u8 k,.S I8 b])],3,[]⟩) (λi=>i<=Z b/\i<=4) (λi=>Z b-i) 0 ⟨bm _,o⟩ aY ?_;rintro i ⟨R,K⟩;refine bA (w<|rg 13 J J (λh=>?_)<|λh=>?_)
  .have h:i<Z b:=by have h:(i:V)<(Z b:V):=aX h;omega
   refine O J<|F J (λh2=>?_)<|λh2=>?_
   .have h2:i<4:=by have h2:(i:V)<4:=aX h2;omega
    have f:=Q3 t8 0 b i h;rw[show I b i 0=I b (ah (i:V)) I8.et by rw[cx]]at f;refine aG<|bA<|aA<|cL<|rl I8 [t8 (I b (ah (i:V)) I8.et)] J J (ra J J J J J J J J J ?_ ?_<|O J ?_) (hp:=aH)
    .show(_+1+(_+1)/4+192)*1<=_;simp only[c7,hZ];omega
    .show(_+1)*1<=_;simp only[c7,hZ];omega
    .refine bU (rt J (hp:=aH)<|a6 (i+1) ⟨h,h2⟩ (Y:Z b-(i+1)<Z b-i)<|Wk.trans (wk (st':=⟨[(1,.c<|.P 0 0),(3,.c<|.X 4008000),(4,y ((i+1:G):V))],[(4008000,.vec 53 I8<|(c (i+1) b).map t8),(0,.box 24 0 [.I .u8 k,.S I8 b])],6,[]⟩) ⟨sR J,sR J,sE J ?_,M⟩ ⟨bE J ?_,bR J,M⟩)<|Wk.trans (iw 1000000 4008000 J J J) aY)
     .rfl
     .rw[f]
   .have h2:i=4:=by have h2:¬(i:V)<4:=bh h2;omega
    subst h2;exact bD<|fp d aY
  .have h:i=Z b:=by have h:¬(i:V)<(Z b:V):=bh h;omega
   refine O J<|F J (λh2=>sc)<|λ_=>?_;have N:c i b=c 4 b:=by rw[jy Y,jy Y]
   exact bD<|fp d<|wk (bP J) ⟨⟨_,J,lS.of_eq<|by rw[N]⟩,bR J,M⟩
 refine w<|rl I8 [1] J J (ra J J J J J J J J J ?_ ?_<|O J ?_)
 .show(_+1+(_+1)/4+192)*1<=_;simp only[c7,hZ];omega
 .show(_+1)*1<=_;simp only[c7,hZ];omega
 refine dm 10002000 J J J ?_;refine w<|rc J J n<|O J ?_;refine ad6 (λ_:Unit=>⟨[(1,.c<|.P 0 0)],[(0,.box 24 0 [.I .u8 k,.S I8 b])],20,[]⟩) (λ_=>¬(k.tmod 2=0/\v=af)) (λ_ Q=>?_)<|λd=>w<|rg 37 J J (λh=>?_)<|λh=>?_;rotate_left
 .have h:k.tmod 2=0:=eS h;refine mD J J J J J pV<|O J ?_;cases v with
  |true=>
   rw[q ⟨h,J⟩]at p
   exact F J (λ_=>e J<|bX<|da<|fO J<|by rw[p])<|λh=>gD
  |false=>exact F J (λh=>gD)<|λ_=>dk<|fp (d ()<|λh=>by cases h.2) aY
 .have h:k.tmod 2≠0:=HA h;exact O J<|F J (λh=>gD)<|λ_=>dk<|fp (d ()<|λT=>h T.1) aY
 refine w<|rl I8 [-2,0,1] J J (rl I8 [1,0,1] J J (rl I8 [-2,0,0,1] J J (rl I8 [1,1,1] J J (rl I8 [-1,-1,0,1] J J (rl I8 [1,0,0,0,1] J J (rl I8 [1,0,-10,0,1] J J (rl I8 [-3,1] J J (rl (.sl I8) LU J J<|O J ?_))))))));rw[j Q]at p;rw[<-p]at l;have B:IntKind.u8.wrap (k.tdiv 2)=k.tdiv 2:=by rw[wc t.1];simp only[IntKind.wrap,IntKind.bits,IntKind.signed];simp;omega
 rw[<-B]at l;refine w<|rc J J l (O J<|di J) (hp:=?_);have U:0<=(k.tdiv 2).tmod 8:=by rw[wc t.1,l7 Y];omega
 simp only[Pr.an,Pr.h,num,gy,true_and,and_true];rw[B];show(2≠0/\8≠0)/\0<=(k.tdiv 2).tmod 8/\(k.tdiv 2).tmod 8<8;omega
def av3{m:E U}(g:2<=Z m)(i:Z m<=5)(x:E (V×V×V))(a:∀b∈x,p' b):aq r 12 [S RW x,S .q m] (S .q<|BN x<|Z m-2):=by
 refine aS Tryz.func12 ?_;have h:=at0 x (Z m-2) Y a;have d:((Z m:V)-2)=((Z m-2:G):V):=Y;have f:aq r 28 [S RW x,y<|(Z m:V)-2] (S .q<|BN x<|Z m-2):=by rw[d];exact h
 exact e J<|w<|rc J J f (O J<|di J) (hp:=aH)
end Go.El
