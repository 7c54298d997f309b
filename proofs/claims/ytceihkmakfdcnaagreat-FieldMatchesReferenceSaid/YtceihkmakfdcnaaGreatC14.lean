/- Own work; no condition. -/
import Derived.Test.YtceihkmakfdcnaaGreatC13
import Derived.Test.YtceihkmakfdcnaaGreatC11
import Derived.Test.YtceihkmakfdcnaaGreatC12
import Derived.Test.YtceihkmakfdcnaaGreatC8
import Derived.Test.YtceihkmakfdcnaaGreatC5
set_option linter.all false
set_option maxHeartbeats 16000000
set_option maxRecDepth 100000
noncomputable section
open Bool renaming true->ae,false->ah
open Classical renaming choose->Ak
open Go.El renaming cS->e,rr->U,iJ->o,re->M,bI->h,cI->c,rb->R,jz->w,NB->F
open Go.Proofs.Tryz renaming prog->O
open Int renaming toNat->af,natAbs->aC,ofNat->ZG
open List renaming length->Z,getD->I,drop->az,replicate->bx,take->r,mem_range'_1->awD
open Nat renaming testBit->oH,gcd->pK,beq->jk
open Option renaming some->ad
open _root_ renaming Nat->G,Int->V,List->E,Rat->L,Option->aw
namespace Go.El
open Go Go.Proofs Go.RowKit
def avZ l x(hl:Z l<=1000)(H:Ix 20 x)(N:∀m∈l,Ix 20 m):w O 142 [e UT l,.a<|av UT x] (e UT<|uD ([],0) (λm=>decide<|kC x.1 m.1<0) x l):=by
 refine aK Tryz.func142 ?_;have t:=Zj ([],0) (λm=>decide<|kC x.1 m.1<0) x l;have Q:=Zi ([],0) (λm=>decide<|kC x.1 m.1<0) x l;generalize B:jW ([],0) (λm=>decide<|kC x.1 m.1<0) x l=T at*;refine U J<|R<|gV UT [] J J (M J<|U J<|h<|U J<|ay<|bq (α:=G) (λi=>⟨[(0,e UT l),(3,.c<|.P 0 0),(5,.c<|.X 1000000),(6,cB (T i).1),(7,c i)],[(0,.box 114 0<|av UT x),(1000000,.vec 114 UT (T i).2)],4,[]⟩) (λi=>i<=Z l) (λi=>Z l-i) 0 (bg _) (by rw[<-B];exact(wk (bK J) ⟨bE J J,bR J,j⟩)) ?_);intro i E;have u:=t i;have W:(T i).2.length<=1001:=by split at u<;>omega
 refine h<|U J<|F J (λh1=>?_)<|λh1=>?_
 .have h1:i<Z l:=by have h1:(i:V)<(Z l:V):=aV h1;omega
  have o:af ((i:V))=i:=cC i;have C:(I l (af<|(i:V))<|ET.eP UT)=I l i ([],0):=bm (λz=>I l z ([],0)) o;have K:=N (I l i ([],0)) Sl;have d:=Q i;have v:=t<|i+1;rw[<-C]at*;obtain⟨n,f⟩:∃n,n=if(!(T i).1&&decide (kC x.1 (I l (af<|(i:V))<|ET.eP UT).1<0))=ae then(T i).2++[x]else(T i).2:=⟨_,J⟩
  have A:(T<|i+1).2=n++[I l (af<|(i:V)) (ET.eP UT)]:=by rw[d,f];split<;>rfl
  have r:Z n<=1001:=by rw[A,iV,qn]at v;split at v<;>omega
  refine aE<|h<|ay<|kp ⟨[(0,e UT l),(3,.c<|.P 0 0),(5,.c<|.X 1000000),(6,cB (T<|i+1).1),(7,c i)],[(0,.box 114 0<|av UT x),(1000000,.vec 114 UT n)],8,[]⟩ ?_<|λp=>R<|rg 17 J J (λb=>?_)<|λb=>?_
  .refine cG (rl UT [_] J J (ra J J J J J J J J J ?_ ?_<|M J ?_) (hp:=aH))
   .show(_+1+(_+1)/4+192)*32<=_;omega
   .show(_+1)*2<=_;omega
   refine bP<|rt J<|a4 (i+1) h1 Az<|Wk.trans (wk (st':=⟨[(0,e UT l),(3,.c<|.P 0 0),(5,.c<|.X 8006000),(6,cB (T<|i+1).1),(7,c ((i+1:G):V))],[(0,.box 114 0<|av UT x),(8006000,.vec 114 UT (T<|i+1).2)],16,[]⟩) (bK J) ⟨bR J,bE J ?_,j⟩)<|Wk.trans (gZ 1000000 8006000 J J J) aN;rw[A]
  .have b:(T i).1=ah:=by
    cases s:(T i).1
    .rfl
    .rw[s]at b;cases b
   refine jF J J J J J (avY (k:=20) S x.1 (I l i ([],0)).1 H.l K.l H.q K.q) (M J<|F J (λg=>?_)<|λg=>?_) (hp:=aH)
   .have g:decide (kC x.1 (I l (af<|(i:V))<|ET.eP UT).1<0)=ae:=g;rw[b,g]at f;rw[b,g]at d;have f:n=(T i).2++[x]:=f;refine R (rl UT [x] J J (ra J J J J J J J J J ?_ ?_<|M J ?_))
    .show(_+1+(_+1)/4+192)*32<=_;omega
    .show(_+1)*2<=_;omega
    refine rt J<|eD p<|Wk.trans (wk (st':=⟨[(0,e UT l),(3,.c<|.P 0 0),(5,.c<|.X 6003000),(6,cB (T<|i+1).1),(7,c i)],[(0,.box 114 0<|av UT x),(6003000,.vec 114 UT n)],8,[]⟩) ⟨sR J,sR J,sR J,sE J ?_,sR J,j⟩ ⟨bR J,bE J ?_,j⟩)<|Wk.trans (gZ 1000000 6003000 J J J) aN
    .rw[d];rfl
    .rw[f]
   .have g:decide (kC x.1 (I l (af<|(i:V))<|ET.eP UT).1<0)=ah:=g;rw[b,g]at f;rw[b,g]at d;have f:n=(T i).2:=f;refine di (eD p<|wk ⟨sR J,sR J,sR J,sE J ?_,sR J,j⟩ ⟨bR J,bE J ?_,j⟩)
    .rw[d,b];rfl
    .rw[f]
  .have b:(T i).1=ae:=by
    cases s:(T i).1
    .rw[s]at b;cases b
    .rfl
   rw[b]at f;rw[b]at d;have f:n=(T i).2:=f;refine M J<|F J (λg=>by cases g)<|λg=>di<|eD p<|wk ⟨sR J,sR J,sR J,sE J ?_,sR J,j⟩ ⟨bR J,bE J ?_,j⟩
   .rw[d,b];rfl
   .rw[f]
 .have h1:i=Z l:=by have h1:¬(i:V)<(Z l:V):=bc h1;omega
  subst h1;refine bs<|aS<|h<|U J<|F J (λb=>?_)<|λb=>?_
  .have b:(T<|Z l).1=ah:=by
    cases s:(T<|Z l).1
    .rfl
    .rw[s]at b;cases b
   refine cG<|rl UT [x] J J (ra J J J J J J J J J ?_ ?_<|M J ?_)
   .show(_+1+(_+1)/4+192)*32<=_;omega
   .show(_+1)*2<=_;omega
   refine aS<|dv 6003000 J J J<|U J<|cv J ?_;unfold uD;rw[B,b];rfl
  .have b:(T<|Z l).1=ae:=by
    cases s:(T<|Z l).1
    .rw[s]at b;cases b
    .rfl
   refine aE<|dv 1000000 J J J<|U J<|cv J ?_;unfold uD;rw[B,b];rfl
def av0 a n(D:n<=1000)(H:Z a<=13)(u:∀i,aJ n (I a i 0)):w O 176 [e .z a] (aZ ((iH a:G):V)):=by
 refine aK Tryz.func176 ?_;have hB:∀i,i<=Z a->aJ (n+1) ((nJ a i:G):V):=λi v=>agc a u Y
 have t:∀b,b<=12->aJ (n+2) ((nJ a (Z a)*2^b:G):V):=λb x=>by have g:=hB (Z a)<|aL _;have p:2^b<=2^12:=dD S x;unfold aJ at*;rw[rC]at*;have f:nJ a (Z a)*2^b<=nJ a (Z a)*2^12:=gD _ p;rw[fG];generalize (4294967296:G)^(n+1)=K at*;omega
 refine U J<|bQ J J (km 0 S S) J<|h<|U J<|ay<|bq (α:=G) (λi=>⟨[(0,e .z a),(2,.c<|.P 0 0),(3,.c<|.P 1001000 0),(4,c i)],[(0,.box 42 0 [.B ah,.V<|.slice none 0 0]),(1001000,.box 42 0<|av .z ((nJ a i:G):V))],3,[]⟩) (λi=>i<=Z a) (λi=>Z a-i) 0 (bg _) (wk (bK J) ⟨bE J J,bE J J,j⟩) ?_;intro i v;refine h<|U J<|F J (λd=>?_)<|λd=>?_
 .have d:i<Z a:=by have d:(i:V)<(Z a:V):=aV d;omega
  have s:af ((i:V))=i:=cC i;have g:=((hB i v).sm Y);have p:=(u<|af<|(i:V)).sm (by omega:n<=1099511627776);have m:((nJ a (i+1):G):V)=((nJ a i:G):V)+(aC (I a i 0):V):=by rw[nJ,zQ]
  refine aE<|h<|ay<|R<|rc J J (D5<|I a (af<|(i:V)) 0) (M J<|F J (λf=>?_)<|λf=>?_) (hp:=aH)
  .have f:gH (I a (af<|(i:V)) 0)<0:=aV f;rw[Rn,s]at f;refine cG<|rc J J (WU _ _ g p) (M J<|bP<|rt J (hp:=aH)<|a4 (i+1) d ri<|wk (bK J) ⟨bE J J,bE J ?_,j⟩) (hp:=aH);rw[m,(Y:(aC (I a i 0):V)= -(I a i 0)),s];rfl
  .have f:¬gH (I a (af<|(i:V)) 0)<0:=bc f;rw[Rn,s]at f;refine cG<|rc J J (zN _ _ g p) (M J<|bP<|rt J (hp:=aH)<|a4 (i+1) d ri<|wk (bK J) ⟨bE J J,bE J ?_,j⟩) (hp:=aH);rw[m,(Y:(aC (I a i 0):V)=I a i 0),s];rfl
 .have d:i=Z a:=by have d:¬(i:V)<(Z a:V):=bc d;omega
  subst d;refine bs<|aS<|h<|U J<|ay<|bq (α:=G) (λb=>⟨[(0,e .z a),(2,.c<|.P 0 0),(3,.c<|.P 1001000 0),(5,c ((b+1:G):V))],[(0,.box 42 0 [.B ah,.V<|.slice none 0 0]),(1001000,.box 42 0<|av .z ((nJ a (Z a)*2^b:G):V))],8,[]⟩) (λb=>b<=Z a-1) (λb=>Z a-b) 0 (bg _) (wk (bK J) ⟨bE J J,bE J ?_,j⟩) ?_
  .rw[qx,rh]
  intro b x;refine h<|U J<|F J (λd=>?_)<|λd=>?_
  .have d:b+1<Z a:=by have d:((b+1:G):V)<(Z a:V):=aV d;omega
   have g:=((t b Y).sm Y);refine aE<|h<|ay<|cG<|rc J J (zN _ _ g g)<|M J<|bP<|rt J (hp:=aH)<|a4 (b+1) Y (Y:Z a-(b+1)<Z a-b)<|wk (bK J) ⟨bE J J,bE J ?_,j⟩;rw[fG,<-zQ,<-Nat.two_mul,gA 2,mz];rfl
  .have d:¬((b+1:G):V)<(Z a:V):=bc d;have C:b=Z a-1:=Y;subst C;exact bs<|aS<|U J<|cv J J
def uF(f:E V)(k:G):V:=if k=Z f-1 then 1 else I f k 0*I f (Z f-1) 0^(Z f-2-k)
def Sq(f:E V):E V:=(List.range<|Z f).map<|uF f
def av1 f(A:1<=Z f)(B:Z f<=12)(hB:∀i,aJ 210 (I f i 0)):w O 170 [e .z f] (e .z<|Sq f):=by
 refine aK Tryz.func170 ?_;obtain⟨n,v⟩:∃n,Z f=n+1:=⟨Z f-1,Y⟩;have g:rO (uF f) 0 (Z f) (Z f)=Sq f:=auV _ _ _;have l:∀k,k<=12->aJ 2600 (I f n 0^k):=λk x=>((hB n).pow k).le (kw<|gD 210 x)
 refine U J<|U J<|R<|rm .z (Z f) J J J J J J Pp ?_ ?_ ?_<|M J ?_
 .show(Z f:V)-1+1=(Z f:V);omega
 .show Z f*32<=_;omega
 .show Z f*2<=_;omega
 refine R<|rc J J (km 1 S S)<|wF (T:= .z) (1:V) J J J J J ?_ (M J ?_) (hp:=?_)
 .rw[ig];omega
 .refine bQ J J (km 1 S S) J<|h<|U J<|ay (bq (α:=G) (λa=>⟨[(0,e .z f),(3,c n),(4,.c<|.X 2002000),(5,.c<|.P 4001000 0),(6,c<|(n:V)-1-a)],[(2002000,.vec 42 .z<|rO (uF f) 0 (Z f)<|a+1),(4001000,.box 42 0<|av .z<|I f n 0^a)],8,[]⟩) (λa=>a<=n) (λa=>n-a) 0 (bg _) (wk ⟨sR J,sE J ?_,sR J,sR J,sE J ?_,j⟩ ⟨bE J ?_,bE J ?_,j⟩) ?_)
  .exact bm c (Y:(Z f:V)-1=n)
  .exact bm c (Y:(Z f:V)-1-1=(n:V)-1-(0:G))
  .refine bm (aA.vec 42 .z) ?_;rw[auU (uF f) 0 (Z f),(Y:af ((Z f:V)-1)=Z f-1-0),<-aiJ (uF f) 0 (Y:0<Z f)];congr 1;show(1:V)=uF f (Z f-1-0);rw[uF,q Y]
  .rw[ry];rfl
  intro a C;refine h<|U J<|F J (λb=>?_)<|λb=>?_
  .have b:a<n:=by have b:(n:V)-1-(a:V)>=0:=aV b;omega
   have u:af ((n:V)-1-(a:V))=Z f-1-(a+1):=Y;have d:=l a Y;have m:=mr (I f (af<|(n:V)-1-(a:V)) 0) (I f n 0^a) ((hB _).sm Y)<|d.sm Y;have t:I f (af<|(n:V)-1-(a:V)) 0*I f n 0^a=uF f (Z f-1-(a+1)):=by rw[u,uF,y Y,(Y:Z f-1=n),(Y:Z f-2-(n-(a+1))=a)]
   rw[t]at m;have p:=mr (I f n 0^a) (I f n 0) (d.sm Y)<|(hB n).sm Y;rw[<-gP]at p;have D:af ((n:V))=n:=cC n;have s:=auT (uF f) 0 (Z f)<|a+1;refine aE<|h<|ay<|R<|rc J J m (wF (T:= .z) (uF f<|Z f-1-(a+1)) J J J J J ?_ (M J ?_) (hp:=?_)) (hp:=aH)
   .rw[s];omega
   .clear d l hB;refine cG (rc J J p (M J<|bP<|rt J<|a4 (a+1) b (Y:n-(a+1)<n-a)<|wk ⟨sR J,sR J,sR J,sR J,sE J<|bm c Y,j⟩ ⟨bE J ?_,bE J J,j⟩) (hp:=aH))
    .rw[u,aiJ (uF f) 0 (Y:a+1<Z f)]
   .simp only[Pr.an,Pr.h,num,ia,true_and,and_true];rw[s];omega
  .have b:a=n:=by have b:¬(n:V)-1-(a:V)>=0:=bc b;omega
   subst b;rw[<-v,g];exact bs<|aS<|dv 2002000 J J J<|U J<|cN J
 .simp only[Pr.an,Pr.h,num,ia,true_and,and_true];rw[ig];omega
def av2 a g{i}(b:i<Z g):az i (lY a g)=Rat.divInt (I g i 0) ((a:V)^(Z g-1-i))::az (i+1) (lY a g):=by have d:=Sd a g;rw[tU Y];have:=Y3 a g b;rw[aO,df Y]at this;rw[<-this];rfl
def av3 g(b:G)(B:0<b)(D:Z g<=12)(hB:∀i,aJ 210 (I g i 0))(m:aJ 210 (b:V)):w O 180 [e .z g,aZ b] (e .q<|lY b g):=by
 refine aK Tryz.func180 ?_;have f:∀k,k<=12->Sm ((b:V)^k):=λk v=>(m.pow k).sm (kw<|gD 210 v)
 have n:∀k,(b:V)^k≠0:=λk=>Int.ne_of_gt<|pI Y
 have p:∀i,Sm (I g i 0):=λi=>(hB i).sm Y
 have s:Sm (b:V):=m.sm Y;clear hB m;have x:=Sd b g;refine U J<|R<|rl .q [] J J (M J<|bQ J J (km 1 S S) J<|h<|U J<|ay<|bq (α:=G) (λa=>⟨[(0,e .z g),(3,.c<|.P 0 0),(5,e .q<|az (Z g-a)<|lY b g),(6,.c<|.P 2001000 0),(7,c<|(Z g:V)-1-a)],[(0,.box 42 0<|av .z (b:V)),(2001000,.box 42 0<|av .z<|(b:V)^a)],4,[]⟩) (λa=>a<=Z g) (λa=>Z g-a) 0 (bg _) (wk ⟨sR J,sR J,sE J ?_,sR J,sE J ?_,j⟩ ⟨bE J J,bE J ?_,j⟩) ?_)
 .rw[DY,vX Y]
 .exact bm c (Y:(Z g:V)-1=(Z g:V)-1-(0:G))
 .rw[ry];rfl
 intro a C;refine h<|U J<|F J (λd=>?_)<|λd=>?_
 .have d:a<Z g:=by have d:(Z g:V)-1-(a:V)>=0:=aV d;omega
  have A:af ((Z g:V)-1-(a:V))=Z g-1-a:=Y;have l:=av2 b g (i:=Z g-(a+1)) Y;rw[(Y:Z g-1-(Z g-(a+1))=a),(Y:Z g-(a+1)+1=Z g-a)]at l;refine aE<|h<|ay<|R<|rc J J (Yt (I g (af<|(Z g:V)-1-(a:V)) 0) ((b:V)^a) (n a) (p _)<|f a Y) (M J<|R<|gV .q [_] J J (ra J J J J J J J J J ?_ ?_<|M J<|dv 6003000 J J J ?_)) (hp:=aH)
  .show(1+Z (az (Z g-a)<|lY b g)+(1+Z (az (Z g-a)<|lY b g))/4+192)*64<=_;rw[Dg];omega
  .show(1+Z (az (Z g-a)<|lY b g))*4<=_;rw[Dg];omega
  refine cG<|rc J J (mr ((b:V)^a) b (f a Y) s)<|M J<|bP<|rt J (hp:=aH)<|a4 (a+1) d (Y:Z g-(a+1)<Z g-a)<|wk ⟨sR J,sR J,sE J ?_,sR J,sE J<|bm c (Y:(Z g:V)-1-a-1=(Z g:V)-1-(a+1:G)),j⟩ ⟨bR J,bE J ?_,j⟩
  .rw[l,A,(Y:Z g-1-a=Z g-(a+1))];rfl
  .rw[gP];rfl
 .have d:a=Z g:=by have d:¬(Z g:V)-1-(a:V)>=0:=bc d;omega
  subst d;rw[kg,sr];exact bs<|aS<|U J<|cN J
def ajO(b:G->Bool):∀n,cx b (n+1)=(if b 0 then 1 else 0)+cx (λi=>b<|i+1) n
 |0=>by rw[cx,cx,cx];omega
 |n+1=>by rw[cx,ajO b n,cx];omega
def av4 k n:cx k.testBit (n+1)=k%2+cx (k/2).testBit n:=by
 rw[ajO];congr 1
 .rw[Nat.testBit_zero];rcases Nat.mod_two_eq_zero_or_one k with e|e<;>rw[e]<;>rfl
 .exact LY λi _=>by rw[Nat.testBit_succ]
def ajP(b:G->Bool):∀n,cx b n<=n
 |0=>aL _
 |n+1=>by have:=ajP b n;rw[cx];split<;>omega
def ajQ n:cx (0:G).testBit n=0:=by
 induction n with
 |zero=>rfl
 |succ n a=>rw[cx,a,Nat.zero_testBit];rfl
def av5(k n:G)(f:k<2^n)(p:n<=60):w O 210 [c k] (c<|cx k.testBit n):=by
 refine aK Tryz.func210 ?_;have s:k<2^60:=gK f<|dD S p;refine U J<|U J<|h<|U J<|ay<|bq (α:=G×G×G) (λx=>⟨[(3,c x.1),(4,c x.2.1)],[],4,[]⟩) (λx=>x.2.1<2^x.2.2/\x.1+cx x.2.1.testBit x.2.2=cx k.testBit n/\x.2.1<=k) (λx=>x.2.1) (0,k,n) ⟨f,fD _,aL _⟩ aN ?_;rintro⟨o,m,g⟩ ⟨d,b,t⟩;simp only at d b t;have u:=ajP k.testBit n;refine h<|U J<|F J (λa=>?_)<|λa=>?_
 .have a:0<m:=by have a:(m:V)>0:=aV a;omega
  obtain⟨i,rfl⟩:∃i,g=i+1:=by
   cases g with
   |zero=>rw[qx]at d;omega
   |succ i=>exact⟨i,J⟩
  rw[av4]at b;rw[fG]at d;have l:(m:V).tmod 2=((m%2:G):V):=oq m 2;have v:(m:V).tdiv 2=((m/2:G):V):=(Int.ofNat_tdiv m 2).symm;refine aE<|h<|ay<|rt J (bP<|rt J<|a4 (o+m%2,m/2,i) ⟨?_,?_,?_⟩ ?_<|wk ⟨sE J ?_,sE J ?_,j⟩ j) (hp:=?_)
  .show m/2<2^i;omega
  .show o+m%2+cx (m/2).testBit i=_;omega
  .show m/2<=k;omega
  .show m/2<m;omega
  .show AV.c (C.I .i64<|(o:V)+(m:V).tmod 2)=_;rw[l];rfl
  .show AV.c (C.I .i64<|(m:V).tdiv 2)=_;rw[v]
  .show(_:Pr).h;simp[Pr.an,Pr.h,num,ia];rw[l];omega
 .have a:m=0:=by have a:¬(m:V)>0:=bc a;omega
  subst a;rw[ajQ,jZ]at b;subst b;exact bs<|aS<|U J<|cN J
def mR(a g:E V):E V:=bx (Z a-Z g) 0++g.map (I a (Z a-1) 0*·)
def E9(g:E V)(x:E V×E V):E V×E V:=(aU<|mQ x.1<|mR x.1 g,x.2.set (Z x.1-Z g)<|I x.1 (Z x.1-1) 0)
def yK(g:E V):G->E V×E V->E V×E V
 |0,x=>x
 |n+1,x=>if Z x.1<Z g then x else yK g n (E9 g x)
structure yL(f g:E V)(u v:G)(x:E V×E V):Prop where
 can:can x.1
 eq:Rx.zx f=Rx.zx x.2*Rx.zx g+Rx.zx x.1
 ql:x.2.length=f.length+1-g.length
 fl:x.1.length<=f.length
 z:∀i,i+g.length<=x.1.length->x.2.getD i 0=0
 B:∀i,aJ (u+(f.length-x.1.length)*(v+1)) (x.1.getD i 0)
def Sr{a g}(b:Z g<=Z a) i:I (mR a g) i 0=if Z a-Z g<=i then I a (Z a-1) 0*I g (i-(Z a-Z g)) 0 else 0:=by
 unfold mR;by_cases c:Z a-Z g<=i
 .rw[q c,aO,C7 (by simpa using c),ig,<-aO];exact getD_map (f:=(I a (Z a-1) 0*·)) (iO _) g _
 .rw[y c,aO,C6 cd,nG,q Y];rfl
def av6{a g}(b:Z g<=Z a):Z (mR a g)=Z a:=by simp[mR];omega
def av7{a g}(b:Z g<=Z a):Rx.zx (mR a g)=Rx.K ((I a (Z a-1) 0:V):L)*(Rx.X (Z a-Z g)*Rx.zx g):=Rx.ext λi=>by
 rw[Rx.mL,Sr b,Rx.du,Rx.lD];split
 .rw[Rx.mL,g7]
 .rw[eh];rfl
def av8 a:Rx.zx (aU a)=Rx.zx a:=Rx.ext λi=>by rw[Rx.mL,Rx.mL];congr 1;rw[<-cT,sW,cT]
def av9 a b:Rx.zx (mQ a b)=Rx.zx a-Rx.zx b:=Rx.ext λi=>by rw[Rx.nK,Rx.mL,Rx.mL,Rx.mL,Iz,LJ]
section
variable{f g:E V}{u v:G}
def yL.next(l:aM g)(n:∀i,aJ v (I g i 0)){x}(a:yL f g u v x)(t:¬Z x.1<Z g):yL f g u v (E9 g x)/\(E9 g x).1.length<Z x.1/\∀i,aJ (u+(Z f-Z x.1)*(v+1)+v+1) (I (mQ x.1<|mR x.1 g) i 0):=by
 have A:=cF.2 l.1;have b:Z g<=Z x.1:=Y;have hB:∀i,aJ (u+(Z f-Z x.1)*(v+1)+v+1) (I (mQ x.1<|mR x.1 g) i 0):=λi=>by
  rw[Iz,Sr b];split
  .exact((a.B i).le Y).sub<|(a.B _).mul<|n _
  .rw[D2];exact(a.B i).le Y
 have d:∀i,Z x.1-1<=i->I (mQ x.1<|mR x.1 g) i 0=0:=λi m=>by
  rw[Iz,Sr b,q Y];rcases Nat.lt_or_eq_of_le m with e|e
  .rw[gk x.1 Y,gk g Y,iO];rfl
  .rw[<-e,(Y:Z x.1-1-(Z x.1-Z g)=Z g-1),l.2,oV,Int.sub_self]
 have k:(E9 g x).1.length<Z x.1:=by
  show Z (aU<|mQ x.1<|mR x.1 g)<_;rcases KQ (mQ x.1<|mR x.1 g)with e|e
  .rw[e];simp;omega
  .refine QE λC=>e ?_
   rw[<-cT,sW,cT];exact d _ Y
 have p:=a.ql;have s:=a.fl;refine⟨⟨KQ _,?_,by show(x.2.set _ _).length=_;rw[px];exact a.ql,Y,λi m=>?_,λi=>?_⟩,k,hB⟩
 .show Rx.zx f=Rx.zx (x.2.set (Z x.1-Z g)<|I x.1 (Z x.1-1) 0)*Rx.zx g+Rx.zx (aU<|mQ x.1<|mR x.1 g);rw[at1 _ Y (a.z _ Y),av8,av9,av7 b,a.eq,Rx.gQ,Rx.dc (Rx.K _)<|Rx.X _];generalize Rx.K ((I x.1 (Z x.1-1) 0:V):L)*(Rx.X (Z x.1-Z g)*Rx.zx g)=w;rw[Rx.kq,Rx.jS w,Rx.mG]
 .show(x.2.set (Z x.1-Z g) _).getD i 0=0;rw[wQ _ _ _ _ Y,y Y];exact a.z i Y
 .show aJ _ (I (aU<|mQ x.1<|mR x.1 g) i 0);rw[<-cT,sW,cT];refine(hB i).le ?_;have:(Z f-Z x.1+1)*(v+1)<=(Z f-(E9 g x).1.length)*(v+1):=dS _ Y;rw[gY,je]at this;omega
def ajR(b:aM g)(d:∀i,aJ v (I g i 0)):∀(n:G)(x:E V×E V),yL f g u v x->Z x.1<n->yL f g u v (yK g n x)/\(yK g n x).1.length<Z g
 |0,x,_,l=>by omega
 |n+1,x,k,l=>by
  rw[yK];split
  next a=>exact⟨k,a⟩
  next a=>let ⟨m,p,_⟩:=k.next b d a;exact ajR b d n _ m Y
open Classical in
def xq(f g:E V):E V:=if Rx.zx g∣Rx.zx f then oy f g else[]
def yL.start(b:Go.El.can f)(d:∀i,aJ u (I f i 0)):yL f g u v (f,bx (Z f+1-Z g) 0):=by
 have a:∀m i,I (bx m (0:V)) i 0=0:=λm i=>by rw[aO,nG];split<;>rfl
 refine⟨b,?_,ig,aL _,λi _=>a _ i,λi=>(d i).le Y⟩;rw[show Rx.zx (bx (Z f+1-Z g) (0:V))=0 from Rx.ext λi=>by rw[Rx.mL,a];rfl,Rx.dy,Rx.iI]
def av'(p:aM f)(n:aM g)(D:∀i,aJ u (I f i 0))(H:∀i,aJ v (I g i 0)):(if(yK g (Z f+1) (f,bx (Z f+1-Z g) 0)).1=[]then(yK g (Z f+1) (f,bx (Z f+1-Z g) 0)).2 else[])=xq f g:=by
 let ⟨l,hl⟩:=ajR (f:=f) (u:=u) n H (Z f+1) _ (yL.start p.can D)<|dV _;generalize yK g (Z f+1) (f,bx (Z f+1-Z g) 0)=x at*;have b:=Rx.pS n;unfold xq;by_cases e:x.1=[]
 .rw[q e];have K:Rx.zx x.1=0:=by rw[e];exact Rx.ku
  have a:=l.eq;rw[K,Rx.fA]at a;rw[q ⟨_,a⟩];have d:Rx.Mo (Rx.zx x.2):=by have:=Rx.pS p;rw[a]at this;exact this.Ae b
  have N:=l.ql;have s:=Rx.eS d.ne b.ne;rw[<-a,Rx.mM p.can,Rx.mM n.can]at s;have m:aM x.2:=by have P:Z x.2=Rx.sz (Rx.zx x.2):=Y;have t:Rx.zx x.2 (Rx.sz (Rx.zx x.2)-1)=1:=d;have X:=Rx.fQ d.ne;rw[<-P,Rx.mL]at t;exact⟨λe=>by have c:Z x.2=0:=bm Z e;omega,Ai.1 (t.trans Rat.intCast_one.symm)⟩
  have k:∃z,aM z/\Rx.zx f=Rx.zx g*Rx.zx z:=⟨_,m,by rw[Rx.dk];exact a⟩;have Q:oy f g=Ak k:=by unfold oy;rw[dif_pos k]
  let ⟨c1,A⟩:=yq k;rw[<-Q]at c1 A;exact(Rx.atn c1.can m.can<|Rx.yt b.ne<|by rw[<-a,A,Rx.dk]).symm
 .rw[y e,y λB=>e ?_];rw[l.eq]at B;have C:=Rx.mM l.can;rw[Rx.ui (Rx.yo B<|Rx.jc _ _) (by rw[Rx.mM n.can,Rx.mM l.can];exact hl),Rx.kO]at C;exact gx C.symm
def awa t(a:t<=1000):(Z (bx t (0:V))+1+(Z (bx t (0:V))+1)/4+192)*32<=281474976710656:=by rw[ig];omega
def awb t(a:t<=1000):(Z (bx t (0:V))+1)*2<=140737488355328:=by rw[ig];omega
def ajS(a:E V)(b:Z a<=200):(Z a+1+(Z a+1)/4+192)*32<=281474976710656:=Y
def ajT(a:E V)(b:Z a<=200):(Z a+1)*2<=140737488355328:=Y
def awc(hf:aM f)(hg:aM g)(hu:∀i,aJ u (I f i 0))(hv:∀i,aJ v (I g i 0))(lf:Z f<=100)(lg:Z g<=100)(u9:u<=1000)(v9:v<=100):w O 213 [e .z f,e .z g] (e .z<|xq f g):=by
 rw[<-av' hf hg hu hv];have I0:=yL.start (u:=u) (v:=v) (g:=g) hf.can hu;have pg:=cF.2 hg.1;have pf:=cF.2 hf.1;generalize hm:Z f+1-Z g=m at*;have hv9:(v+1)*100<=10100:=Y;generalize hX:yK g (Z f+1) (f,bx m 0)=X;refine Gb Tryz.func213 J J J J J S<|U J<|R<|rm .z m J J J J J J Pp ?_ ?_ ?_<|M J<|h<|U J ?_
 .rw[q J];split<;>omega
 .show m*32<=_;omega
 .show m*2<=_;omega
 refine ay<|bq (α:=G) (λi=>⟨[(0,e .z f),(1,e .z g),(5,.c<|.X 1007000),(6,c i)],[(1007000,.vec 42 .z<|bx m 0)],3,[]⟩) (λi=>i<=m) (λi=>m-i) 0 (bg _) aN ?_;intro i hi;refine h<|U J<|F J (λd=>?_)<|λd=>?_
 .have d:i<m:=by have d:(i:V)<(Z (bx m (0:V)):V):=aV d;rw[ig]at d;omega
  refine di<|aS<|h<|ay<|cG<|rc J J (km 0 S S)<|wF (T:= .z) (0:V) J J J J J ?_ (M J<|fF<|aS<|rt J (hp:=aH)<|a4 (i+1) d (Y:m-(i+1)<m-i)<|wk (bK J) ⟨bE J ?_,j⟩) (hp:=?_)
  .show af ((i:V))<_;rw[ig];omega
  .refine bm (aA.vec 42 .z)<|v7 au λk l s=>?_;rw[List.getElem_set];split<;>simp
  .simp only[Pr.an,Pr.h,num,ia,true_and,and_true];rw[ig];omega
 have d:i=m:=by have d:¬(i:V)<(Z (bx m (0:V)):V):=bc d;rw[ig]at d;omega
 subst d;refine oJ<|sf<|pB<|oK<|aS<|h<|ay<|bq (α:=G×E V×E V) (λx=>⟨[(0,e .z x.2.1),(1,e .z g),(5,.c<|.X 1007000)],[(1007000,.vec 42 .z x.2.2)],8,[]⟩) (λx=>yL f g u v x.2/\Z x.2.1<x.1/\yK g x.1 x.2=X) (λx=>x.1) (Z f+1,f,bx i 0) ⟨I0,dV _,hX⟩ aN ?_;rintro⟨n,a,Q⟩ ⟨D,hn,hr⟩;simp only at D hn hr;have hFl:Z a<=Z f:=D.fl;obtain⟨n,rfl⟩:∃n',n=n'+1:=⟨n-1,Y⟩;rw[yK]at hr;refine h<|U J<|F J (λd=>?_)<|λd=>?_
 .have d:Z g<=Z a:=by have d:(Z a:V)>=(Z g:V):=aV d;omega
  rw[y (Y:¬Z a<Z g)]at hr;obtain⟨n1,r,n3⟩:=D.next hg hv (Y:¬Z a<Z g);have H:=D.B;have P8:Z Q=Z f+1-Z g:=D.ql;obtain⟨k,hk⟩:∃k,Z a=Z g+k:=⟨Z a-Z g,Y⟩;have A:∀b,aJ 12000 (I a b 0):=λb=>(H b).le (by have:=dS (v+1) (Y:Z f-Z a<=100);show u+(Z f-Z a)*(v+1)<=_;omega)
  have L:∀b,aJ 13000 (I (mQ a<|mR a g) b 0):=λb=>(n3 b).le (by have:=dS (v+1) (Y:Z f-Z a<=100);show u+(Z f-Z a)*(v+1)+v+1<=_;omega)
  have K:∀b,aJ 12200 (I (mR a g) b 0):=λb=>by
   rw[Sr d];split
   .exact((A _).mul<|hv _).le Y
   .exact aJ.zero _
  have hTl:=av6 d;have Zm:=ajB a (mR a g) 13000 S Y Y (λb=>(A b).le S)<|λb=>(K b).le S;have hc:I a (af<|(Z a:V)-1) 0=I a (Z a-1) 0:=by rw[(Y:af ((Z a:V)-1)=Z a-1)]
  have hT:mR a g=bx k 0++g.map (I a (Z a-1) 0*·):=by unfold mR;rw[(Y:Z a-Z g=k)]
  have hN:E9 g (a,Q)=(aU<|mQ a<|mR a g,Q.set k<|I a (Z a-1) 0):=by unfold E9;show(aU<|mQ a<|mR a g,Q.set (Z a-Z g)<|I a (Z a-1) 0)=_;rw[(Y:Z a-Z g=k)]
  have hcS:=(A<|Z a-1).sm S;have hgS:∀b,Sm (I g b 0):=λb=>(hv b).sm Y
  rw[hN]at n1 r hr;clear A L K H n3;generalize hW:aU (mQ a<|mR a g)=W at*;generalize Zt:mR a g=T at*;generalize hcc:I a (Z a-1) 0=p at*;refine di<|aS<|ay<|U J<|U J ?_ (hp:=aH);rw[hc];clear hc hcc hX I0 hi Zt hW;refine R<|wF (T:= .z) p J J J J J ?_ (M J ?_) (hp:=?_)
  .show af ((Z a:V)-(Z g:V))<Z Q;omega
  .refine R<|gV .z [] J J (M J<|h<|U J ?_);rw[(Y:af ((Z a:V)-(Z g:V))=k),(Y:(Z a:V)-(Z g:V)=(k:V))];refine ay<|bq (α:=G) (λt=>⟨[(0,e .z a),(1,e .z g),(5,.c<|.X 1007000),(7,c k),(8,.c<|.P 10006000 0),(9,.c<|.X 12000000),(10,c t)],[(10006000,.box 42 0<|av .z p),(12000000,.vec 42 .z<|bx t 0),(1007000,.vec 42 .z<|Q.set k p)],14,[]⟩) (λt=>t<=k) (λt=>k-t) 0 (bg _) (wk (bK J) ⟨bE J J,bR J,bR J,j⟩) ?_;intro t ht;have C:t<=1000:=Y;refine h (U J<|F J (λl=>?_)<|λl=>?_)
   .have l:t<k:=by have l:(t:V)<(k:V):=aV l;omega
    refine di<|aS<|h<|ay<|cG<|rc J J (km 0 S S)<|rl .z [(0:V)] J J (ra J J J J J J J J J ?_ ?_<|M J ?_)
    .exact awa t C
    .exact awb t C
    refine fF<|aS<|rt J<|a4 (t+1) l (Y:k-(t+1)<k-t)<|Wk.trans (wk (st':=⟨[(0,e .z a),(1,e .z g),(5,.c<|.X 1007000),(7,c k),(8,.c<|.P 10006000 0),(9,.c<|.X 15003000),(10,c ((t+1:G):V))],[(10006000,.box 42 0<|av .z p),(15003000,.vec 42 .z<|bx (t+1) 0),(1007000,.vec 42 .z<|Q.set k p)],24,[]⟩) (bK J) ⟨bR J,bE J ?_,bR J,j⟩)<|Wk.trans (gZ 12000000 15003000 J J J) aN;rw[List.replicate_succ']
   have l:t=k:=by have l:¬(t:V)<(k:V):=bc l;omega
   subst l;refine oJ<|sf<|pB<|oK<|aS<|h<|U J ?_;have N:(g.map (p*·)).length=Z g:=dj _;refine ay<|bq (α:=G) (λb=>⟨[(0,e .z a),(1,e .z g),(5,.c<|.X 1007000),(8,.c<|.P 10006000 0),(9,.c<|.X 12000000),(11,c b)],[(10006000,.box 42 0<|av .z p),(12000000,.vec 42 .z<|bx t 0++(g.map (p*·)).take b),(1007000,.vec 42 .z<|Q.set t p)],20,[]⟩) (λb=>b<=Z g) (λb=>Z g-b) 0 (bg _) (wk (bK J) ⟨bR J,bE J ?_,bR J,j⟩) ?_
   .rw[HJ,ji]
   intro b hj;have o:(bx t (0:V)++(g.map (p*·)).take b).length<=200:=by rw[iV,ig,iC,N];omega
   refine h<|U J<|F J (λs=>?_)<|λs=>?_
   .have s:b<Z g:=by have s:(b:V)<(Z g:V):=aV s;omega
    have ej:af ((b:V))=b:=cC b;have hV1:bx t (0:V)++(g.map (p*·)).take (b+1)=bx t (0:V)++(g.map (p*·)).take b++[p*I g (af<|(b:V)) 0]:=by rw[uc (g.map (p*·)) b Y,getD_map (f:=(p*·))<|iO p,ej,nt]
    clear N C;generalize bx t (0:V)++(g.map (p*·)).take b=Cz at*;refine di<|aS<|h<|ay<|cG<|rc J J (mr p (I g (af<|(b:V)) 0) hcS<|hgS _) (rl .z [_] J J (ra J J J J J J J J J ?_ ?_<|M J ?_)) (hp:=aH)
    .exact ajS Cz o
    .exact ajT Cz o
    refine fF<|aS<|rt J<|a4 (b+1) s (Y:Z g-(b+1)<Z g-b)<|Wk.trans (wk (st':=⟨[(0,e .z a),(1,e .z g),(5,.c<|.X 1007000),(8,.c<|.P 10006000 0),(9,.c<|.X 21008000),(11,c ((b+1:G):V))],[(10006000,.box 42 0<|av .z p),(21008000,.vec 42 .z<|bx t 0++(g.map (p*·)).take (b+1)),(1007000,.vec 42 .z<|Q.set t p)],32,[]⟩) (bK J) ⟨bR J,bE J ?_,bR J,j⟩)<|Wk.trans (gZ 12000000 21008000 J J J) aN;rw[hV1]
   .have s:b=Z g:=by have s:¬(b:V)<(Z g:V):=bc s;omega
    subst s;rw[jM Y,<-hT];refine oJ<|sf<|pB<|oK<|aS<|dv 12000000 J J J<|cG<|rc J J Zm<|M J<|fF<|a4 (n,W,Q.set t p) ⟨n1,?_,hr⟩ (dV n) aN;show Z W<n;have r:Z W<Z a:=r;omega
  .simp only[Pr.an,Pr.h,num,ia,true_and,and_true];omega
 .have d:Z a<Z g:=by have d:¬(Z a:V)>=(Z g:V):=bc d;omega
  rw[q d]at hr;subst hr;refine oJ<|sf<|pB<|oK<|aS<|h<|U J<|F J (λl=>?_)<|λl=>?_
  .have l:a≠[]:=λcH=>by have l:(Z a:V)>0:=aV l;rw[cH]at l;exact aF l S
   rw[y l];exact U J<|bX<|cY<|iX cq J<|bu.nil .z
  .have l:a=[]:=gx (by have l:¬(Z a:V)>0:=bc l;omega);rw[q l];exact di<|aS<|dv 1007000 J J J<|U J<|bX<|iX cq J<|bu.refl _
end
open Fx
def awg{m}{a}{l}{b}(g:b∈nQ (Z l))(i:Rx.zx (gS m l b.testBit)∣Rx.zx a)(k:∀T∈nQ (Z l),cx T.testBit (Z l)<cx b.testBit (Z l)\/(cx T.testBit (Z l)=cx b.testBit (Z l)/\T<b)->¬Rx.zx (gS m l T.testBit)∣Rx.zx a):vC m a l=ad b:=by
 classical
 let ⟨us,ws,e⟩:=Tp g;unfold vC;refine List.find?_eq_some_iff_append.2 ⟨rA i,us,ws,e,λT d=>?_⟩;have f:=at9<|Z l;rw[e]at f;rw[Jt,decide_eq_false_iff_not];exact k T (by rw[e];simp[d]) ((Aq.1 f).2.2 T d b au)
def awh{m}{a}{l}(b:∀T∈nQ (Z l),¬Rx.zx (gS m l T.testBit)∣Rx.zx a):vC m a l=none:=by
 classical
 unfold vC;refine List.find?_eq_none.2 λT d=>?_
 rw[decide_eq_true_iff];exact b T d
def lK(m:V)(l:E (E V))(b:G->Bool)(i:G):E V:=(lX m [1] (bV b 0<|r i l)).map (eG · m)
def vI(l:E (E V))(b:G->Bool)(i:G):E (E V):=bV (λi=> !b i) 0<|r i l
def Zu{l}{i}(d:i<Z l)(b:G->Bool):bV b 0 (r (i+1) l)=bV b 0 (r i l)++(if b i then[l.getD i []]else[]):=by
 have a:r (i+1) l=r i l++[l.getD i []]:=by rw[vj,aO,df d];rfl
 rw[a,ahl];congr 1;rw[bV,bV,(cd:0+(r i l).length=i)]
def awi{l}{i}(a:i<Z l)(b:G->Bool):vI l b (i+1)=if b i=ae then vI l b i else vI l b i++[l.getD i []]:=by unfold vI;rw[Zu a];cases b i<;>simp
def ajV{m}(a:1<m){l}(g:∀f∈l,aM f)(b:G->Bool) i:aM (lX m [1] (bV b 0<|r i l))/\aM (lK m l b i)/\Z (lK m l b i)=1+eE (bV b 0<|r i l):=by let ⟨d,h2⟩:=Ce a EL (λf k=>g f (Ho<|Ap k):∀f∈bV b 0 (r i l),aM f);refine⟨d,EJ a d,?_⟩;unfold lK;rw[dj,h2];rfl
def awj{m}(g:1<m){l}(d:∀f∈l,aM f){i}(h:i<Z l)(b:G->Bool):(b i=ah->lK m l b (i+1)=lK m l b i)/\(b i=ae->(m7 (lK m l b i)<|l.getD i []).map (eG · m)=lK m l b (i+1)):=by
 constructor
 .intro e;unfold lK;rw[Zu h,e];simp
 .intro e;have a:l.getD i []∈l:=YO;let ⟨t1,t2,t3⟩:=ajV g d b i;have p:lK m l b (i+1)=(vz (lX m [1] (bV b 0<|r i l)) (l.getD i []) m).map (eG · m):=by unfold lK;rw[Zu h,e,q J,ahm];rfl
  rw[p];refine atq Y ?_ λj=>?_
  .rw[LV,XY];have:Z (lK m l b i)=Z (lX m [1] (bV b 0<|r i l)):=by unfold lK;rw[dj]
   rw[this]
  .have s:Cg m (ps<|m7 (lK m l b i)<|l.getD i []) (ps<|vz (lX m [1] (bV b 0<|r i l)) (l.getD i []) m):=by
    rw[ahe _ _ t2.1 (d _ a).1];refine (Cg.Ei (Cg.of λk=>?_) _).trans (XX _ _ _).symm
    unfold lK;rw[cT,cT,th _ Y,Cd Y]
   exact s.at j
def awk(a i:G)(g:i<=60):((((a:V).fdiv<|2^min (af<|(i:V)) IntKind.i64.bits).tmod 2)==1)=oH a i:=by
 have b:min (af<|(i:V)) IntKind.i64.bits=i:=by show min _ 64=_;omega
 have d:((2:V)^i)=((2^i:G):V):=by rw[wW];rfl
 have f:(a:V).fdiv ((2^i:G):V)=((a/2^i:G):V):=by rw[D9 _ (s8 _),zS]
 rw[b,d,f,show(2:V)=((2:G):V)from J,oq,Nat.testBit_eq_decide_div_mod_eq];generalize a/2^i%2=z;by_cases h:z=1
 .rw[h];rfl
 .rw[rz h];exact beq_eq_false_iff_ne.2<|λe=>h Y
def ajW(b:G->Bool):∀(l:E (E V))(i:G),Z (bV b i l)<=Z l
 |[],_=>aL _
 |f::l,i=>by have:=ajW b l<|i+1;rw[bV];split<;>simp<;>omega
def awl(b:G->Bool) l i:eE (bV b 0<|r i l)<=eE l:=by
 have a:=Rh b (r i l) 0;have d:eE (r i l)+eE (az i l)=eE l:=by rw[<-R4,uX]
 omega
def awm{n T}(a:T<2^n)(b:1<=cx T.testBit n)(d:2*cx T.testBit n<=n):T∈nQ n:=Ch.2 ⟨a,b,Y⟩
def Zv(m:V):∀(k:G)(a:E V)(l:E (E V)),Z (uo m k a l)<=k+1
 |0,a,l=>aL _
 |k+1,a,l=>by
  rw[uo];cases vC m a l with
  |none=>simp
  |some b=>have:=Zv m k (oy a<|gS m l b.testBit)<|bV (λi=> !b.testBit i) 0 l;simp;omega
def ajX{p:G}{m:V}{w:G}(w1:1<=w)(w9:w<=100)(N:aJ w m):∀(k:G)(a:E V)(l:E (E V)),k<=100->Z l<=k->l≠[]->Z l<=8->Z a<=9->iR p m a l->(∀f∈l,∀i,aJ w (I f i 0))->jz O 178 [e .z a,e (.sl .z) l,aZ m] (e (.sl .z)<|uo m k a l)
 |0,a,l,_,A,v,_,_,_,_=>aF (gx Y) v
 |k+1,a,l,aAE,hk,v,l8,a9,C,hlB=>by
  let ⟨m1,On⟩:=C.m1;
  rw[uo];refine aK Tryz.func178 ?_;refine U J<|h<|U J<|ay<|bq (α:=G) (λs=>⟨[(0,e .z a),(1,e (.sl .z) l),(5,.c<|.P 0 0),(7,c s)],[(0,.box 42 0<|av .z m)],2,[]⟩) (λs=>1<=s/\s<=9/\∀T∈nQ (Z l),cx T.testBit (Z l)<s->¬Rx.zx (gS m l T.testBit)∣Rx.zx a) (λs=>20-s) 1 ⟨aL _,S,λT u A=>aF (Ch.1 u).2.1 Y⟩ (wk (bK J) ⟨bE J J,j⟩) ?_;rintro s ⟨s1,s9,hs⟩;refine h<|U J<|F J (λA=>?_)<|λA=>?_
  .have A:2*s<=Z l:=by have A:2*(s:V)<=(Z l:V):=aV A;omega
   refine aE<|h<|ay<|U J<|ay<|bq (α:=G) (λb=>⟨[(0,e .z a),(1,e (.sl .z) l),(5,.c<|.P 0 0),(7,c s),(8,c b)],[(0,.box 42 0<|av .z m)],5,[]⟩) (λb=>1<=b/\b<=2^Z l/\∀T∈nQ (Z l),(cx T.testBit (Z l)<s\/(cx T.testBit (Z l)=s/\T<b))->¬Rx.zx (gS m l T.testBit)∣Rx.zx a) (λb=>2^Z l-b) 1 ⟨aL _,Nat.one_le_two_pow,λT u t=>hs T u ?_⟩ aN ?_
   .rcases t with t|⟨t,x⟩
    .exact t
    .have B:T=0:=by omega
     subst B;rw[ajQ]at t;omega
   rintro b ⟨q1,q2,hq⟩;have hp8:2^Z l<=2^8:=dD S l8;have D:IntKind.i64.wrap (1*2^min (af<|(Z l:V)) IntKind.i64.bits)=((2^Z l:G):V):=by have:∀n:Fin 9,IntKind.i64.wrap (1*2^min (af<|((n:G):V)) IntKind.i64.bits)=((2^(n:G):G):V):=S;exact this ⟨Z l,Y⟩
   refine h<|U J<|F J (λt=>?_)<|λt=>?_
   .have t:b<2^Z l:=by have t:(b:V)<IntKind.i64.wrap (1*2^min (af<|(Z l:V)) IntKind.i64.bits):=aV t;rw[D]at t;omega
    clear D;refine aE<|h<|ay<|h<|bQ J J (av5 b (Z l) t Y) J<|F J (λx=>?_)<|λx=>di<|aS ?_
    .have x:cx b.testBit (Z l)≠s:=λB=>by have x:((cx b.testBit (Z l):G):V)≠(s:V):=bne_iff_ne.1 x;omega
     refine oJ<|sf<|oK<|aS<|rt J<|a4 (b+1) ⟨Y,Y,λT u d=>hq T u ?_⟩ (Y:2^Z l-(b+1)<2^Z l-b) aN;rcases d with d|⟨d,g⟩
     .exact .inl d
     .by_cases B:T=b
      .exact aF (B▸d) x
      .exact .inr ⟨d,Y⟩
    have x:cx b.testBit (Z l)=s:=by
     have x:¬((cx b.testBit (Z l):G):V)≠(s:V):=λB=>by have x:(((cx b.testBit (Z l):G):V) !=(s:V))=ah:=x;rw[bne_iff_ne.2 B]at x;cases x
     omega
    have hg0:lK m l b.testBit 0=[1]:=by show([1]:E V).map (eG · m)=[1];rw[gX,ahi m1,Fa]
    refine R<|rc J J (km 1 S S)<|rl .z [(1:V)] J J (M J<|R<|gV (.sl .z) [] J J (M J<|h<|U J<|ay<|bq (α:=G) (λi=>⟨[(0,e .z a),(1,e (.sl .z) l),(5,.c<|.P 0 0),(7,c s),(8,c b),(9,e .z<|lK m l b.testBit i),(10,.c<|.X 8000000),(11,c i)],[(0,.box 42 0<|av .z m),(8000000,.vec 161 (.sl .z)<|vI l b.testBit i)],10,[]⟩) (λi=>i<=Z l) (λi=>Z l-i) 0 (bg _) (by rw[hg0];exact aN) ?_));intro i hi;refine h<|U J<|F J (λd=>?_)<|λd=>?_
    .have d:i<Z l:=by have d:(i:V)<(Z l:V):=aV d;omega
     have hbq:=awk b i Y;have ei:af ((i:V))=i:=cC i;have Dp:(I l (af<|(i:V))<|ET.eP<|.sl .z)=l.getD i []:=bm (λz=>l.getD z []) ei;have H:l.getD i []∈l:=by rw[aO,df d];exact sx d
     let ⟨t1,t2,t3⟩:=ajV m1 C.lm b.testBit i;let ⟨u1,u2⟩:=awj m1 C.lm d b.testBit;have K:=awi d b.testBit;have hxm:=C.lm _ H;have hxB:=hlB _ H;have Q:∀W,aJ w (I (lK m l b.testBit i) W 0):=λW=>by unfold lK;rw[th _ Y];exact XT Y N
     have yb:Z (lK m l b.testBit i)<=9:=by have:=awl b.testBit l i;have:=C.len;omega
     have DT:Z (l.getD i [])<=9:=by have:=ajL H;have:=C.len;omega
     have Kq:Z (vI l b.testBit i)<=8:=by have:=ajW (λi=> !b.testBit i) (r i l) 0;have o:(r i l).length<=Z l:=cd;show Z (bV _ 0<|r i l)<=8;omega
     have wm:=af9 (lK m l b.testBit i) (l.getD i []) w w Y Y Y Q hxB;rw[(t2.ahg hxm).trim]at wm;have v:=XU (m7 (lK m l b.testBit i)<|l.getD i []) m (w+w+1) Y (by rw[LV];omega) Y (ahf _ _ w w Q hxB Y Y)<|N.le Y;rw[(EJ m1<|t2.ahg hxm).trim]at v;rw[<-Dp]at wm v K u2;refine aE<|h<|ay<|U J<|F J (λg=>?_)<|λg=>?_
     .have g:oH b i=ae:=hbq▸g;rw[u2 g]at v;refine cG<|rc J J wm (rc J J v<|M J<|bP<|rt J<|a4 (i+1) d Az<|wk (bK J) ⟨bR J,bE J ?_,j⟩) (hp:=aH);rw[K,q g]
     .have g:oH b i=ah:=hbq▸g;rw[g]at K;refine cG (rl (.sl .z) [_] J J (ra J J J J J J J J J ?_ ?_<|M J ?_) (hp:=aH))
      .show(Z (vI l b.testBit i)+1+(Z (vI l b.testBit i)+1)/4+192)*24<=_;omega
      .show(Z (vI l b.testBit i)+1)*1<=_;omega
      refine bP<|rt J<|a4 (i+1) d Az<|Wk.trans (wk (st':=⟨[(0,e .z a),(1,e (.sl .z) l),(5,.c<|.P 0 0),(7,c s),(8,c b),(9,e .z<|lK m l b.testBit<|i+1),(10,.c<|.X 12006000),(11,c ((i+1:G):V))],[(0,.box 42 0<|av .z m),(12006000,.vec 161 (.sl .z)<|vI l b.testBit<|i+1)],24,[]⟩) ⟨sR J,sR J,sR J,sR J,sR J,sE J ?_,sR J,sR J,j⟩ ⟨bR J,bE J ?_,j⟩)<|Wk.trans (gZ 8000000 12006000 J J J) aN
      .rw[u1 g]
      .rw[K];rfl
    .have d:i=Z l:=by have d:¬(i:V)<(Z l:V):=bc d;omega
     subst d;have hgE:lK m l b.testBit (Z l)=gS m l b.testBit:=by unfold lK gS;rw[iG]
     have hrE:vI l b.testBit (Z l)=bV (λi=> !b.testBit i) 0 l:=by unfold vI;rw[iG]
     rw[hgE,hrE];let ⟨gm,gl⟩:=C.EM b.testBit;have yb:Z (gS m l b.testBit)<=9:=by have o:=Rh b.testBit l 0;have:=C.len;omega
     have Q:∀W,aJ w (I (gS m l b.testBit) W 0):=λW=>by unfold gS;rw[th _ Y];exact XT Y N
     have haB:∀W,aJ w (I a W 0):=λW=>by have:=C.bd a C.am (Rx.nO _) W;unfold aJ at*;omega
     have hS:b∈nQ (Z l):=awm t Y Y;refine oJ<|sf<|pB<|oK<|aS<|dv 8000000 J J J<|R<|rc J J (awc C.am gm haB Q Y Y Y Y)<|M J<|U J<|F J (λg=>?_)<|λg=>?_
     .have L:Rx.zx (gS m l b.testBit)∣Rx.zx a:=fe λhn=>by
       have g:(Z (xq a<|gS m l b.testBit):V)>0:=aV g;have B:xq a (gS m l b.testBit)=[]:=by unfold xq;rw[y hn]
       rw[B]at g;exact aF g S
      have hqE:xq a (gS m l b.testBit)=oy a (gS m l b.testBit):=by unfold xq;rw[q L]
      let ⟨c1,c2,c3,c4⟩:=C.rest hS L;have c5:Z (oy a<|gS m l b.testBit)<=9:=by have o:=Rh b.testBit l 0;have h7:=c2.len;have:=C.len;omega
      rw[awg (a:=a) hS L (λT u A=>hq T u<|by rw[x]at A;exact A),hqE];have oF:Z (uo m k (oy a<|gS m l b.testBit)<|bV (λi=> !b.testBit i) 0 l)<=1000:=kw<|Zv m k (oy a<|gS m l b.testBit)<|bV (λi=> !b.testBit i) 0 l
      refine R<|gV (.sl .z) [_] J J (rc J J ((λa l=>ajX (p:=p) w1 w9 N k a l) (oy a<|gS m l b.testBit) (bV (λi=> !b.testBit i) 0 l) Y Y c3 Y c5 c2<|λf hf=>hlB f<|Ap hf)<|ra J J J J J J J J J ?_ ?_<|M J<|dv 13006000 J J J<|bX ?_)
      .show(1+Z (uo m k (oy a<|gS m l b.testBit)<|bV (λi=> !b.testBit i) 0 l)+(1+Z (uo m k (oy a<|gS m l b.testBit)<|bV (λi=> !b.testBit i) 0 l))/4+192)*24<=_;omega
      .show(1+Z (uo m k (oy a<|gS m l b.testBit)<|bV (λi=> !b.testBit i) 0 l))*1<=_;omega
      repeat(first|refine cY ?_|refine ma ?_|refine m0 ?_)
      exact fK J J
     .have L:¬Rx.zx (gS m l b.testBit)∣Rx.zx a:=λL=>by
       have g:¬(Z (xq a<|gS m l b.testBit):V)>0:=bc g;have B:xq a (gS m l b.testBit)=oy a (gS m l b.testBit):=by unfold xq;rw[q L]
       let ⟨_,c2,_⟩:=C.rest hS L;have:=cF.2 c2.am.1;rw[B]at g;omega
      refine di<|bP<|rt J<|a4 (b+1) ⟨Y,Y,λT u o=>?_⟩ (Y:2^Z l-(b+1)<2^Z l-b) aN;rcases o with o|⟨o,h7⟩
      .exact hq T u<|.inl o
      .by_cases B:T=b
       .rw[B];exact L
       .exact hq T u<|.inr ⟨o,Y⟩
   .have t:2^Z l<=b:=by have t:¬(b:V)<IntKind.i64.wrap (1*2^min (af<|(Z l:V)) IntKind.i64.bits):=bc t;rw[D]at t;omega
    refine bs<|bP<|rt J<|a4 (s+1) ⟨Y,Y,λT u o=>hq T u ?_⟩ (Y:20-(s+1)<20-s) aN;have:=(Ch.1 u).1;omega
  .have A:Z l<2*s:=by have A:¬2*(s:V)<=(Z l:V):=bc A;omega
   rw[awh (m:=m) (a:=a) (l:=l) (λT u=>hs T u<|by have:=(Ch.1 u).2.2;omega)];exact bs<|aS<|R<|rl (.sl .z) [a] J J (M J<|cN J)
end Go.El
namespace Go.El
open Go Go.Proofs Go.RowKit Rx
def awv{a}{b z:V}(f:(b:L)*a=(z:L)):(a.den:V)∣b:=by
 have g:b*a.num=z*(a.den:V):=by
  have d:(b:L)*(((a.den:G):L)*a)=(z:L)*((a.den:G):L):=by rw[<-f];grind
  rw[QP]at d;have i:((b*a.num:V):L)=((z*(a.den:V):V):L):=by rw[g7,g7];exact d
  exact Ai.1 i
 have k:a.den∣aC b*aC a.num:=⟨aC z,by rw[<-tZ,g,tZ,rC,gA]⟩;exact XK.2<|Nat.Coprime.dvd_of_dvd_mul_right (Nat.Coprime.symm a.reduced) k
def rW(a:E L)(k:G):V:=(I a k 0).num*((eX a:G):V)/((I a k 0).den:V)
def rX(a:E L):E V:=(List.range<|Z a).map<|rW a
def uG(a:E L):G->G
 |0=>0
 |i+1=>pK (uG a i)<|aC<|rW a i
def Zw(a:E L):∀i b,b<i->uG a i∣aC (rW a b)
 |0,b,d=>by omega
 |i+1,b,d=>by
  rw[uG];by_cases f:b=i
  .rw[f];exact Xe _ _
  .exact H7 (Nat.gcd_dvd_left _ _)<|Zw a i b Y
section
variable{a:E L}
def aj2{k}(b:k<Z a):((rW a k:V):L)=((eX a:G):L)*I a k 0:=by have d:(I a k 0).den∣eX a:=Iu a _ k b;have:=Sb (I a k 0) (D:=((eX a:G):V))<|z4.2 d;exact this
def aww{k}(b:k<Z a):(I a k 0).num*((eX a:G):V)=((I a k 0).den:V)*rW a k:=by
 have d:(I a k 0).den∣eX a:=Iu a _ k b;let ⟨e,he⟩:=d;unfold rW;have f:((I a k 0).den:V)≠0:=kw<|(I a k 0).den_pos
 rw[he,gM,(fC:(I a k 0).num*(((I a k 0).den:V)*(e:V))=((I a k 0).den:V)*((I a k 0).num*(e:V))),Zo _ f]
def Ss(b:kA a):rW a (Z a-1)=((eX a:G):V):=by unfold rW;rw[b.one];show(1:V)*_/1=_;rw[mu,wR]
def awx(m:kA a):uG a (Z a)=1:=by
 have T:=m.l2;have n:0<eX a:=Iv a _;obtain⟨e,g⟩:uG a (Z a)∣eX a:=by have:=Zw a (Z a) (Z a-1) Y;rwa[Ss m,rC]at this
 generalize A:uG a (Z a)=b at*;have B:0<b:=by
  rcases sS b with d|d
  .rw[d,so]at g;omega
  .exact d
 have f:∀k,(I a k 0).den∣e:=λk=>by
  by_cases p:k<Z a
  .have s:=Zw a (Z a) k p;rw[A]at s;let ⟨z,C⟩:=XK.2 s;have t:=aj2 p;rw[g,C]at t;have D:((e:V):L)*I a k 0=(z:L):=by
    have i:((b:G):L)≠0:=Ag Y;have H:((b:G):L)*(z:L)=((b:G):L)*(((e:V):L)*I a k 0):=by
     have K:(((b:V)*z:V):L)=((b:G):L)*(z:L):=g7 _ _;have N:((b*e:G):L)=((b:G):L)*((e:V):L):=by rw[<-uj,gM,g7];rfl
     rw[<-K,t,N,lT]
    have u:=bm (λx=>((b:G):L)⁻¹ *x) H;simp[<-lT,k8 _ i,rG]at u;exact u.symm
   exact z4.1<|awv D
  .rw[fP a Y];exact Nat.one_dvd _
 have v:eX a∣e:=Y1 a f _;rw[g]at v;let ⟨y,P⟩:=v;have l:0<e:=by
  rcases sS e with d|d
  .rw[d,QO]at g;omega
  .exact d
 have:1*e=b*y*e:=by
  rw[je];conv=>lhs;rw[P]
  ac_rfl
 exact Nat.dvd_one.1 ⟨y,Nat.eq_of_mul_eq_mul_right l this⟩
def CC a:Z (rX a)=Z a:=by simp[rX]
def Mv a{k}(b:k<Z a):I (rX a) k 0=rW a k:=by unfold rX;rw[aO,ju,k7 b];rfl
def awy(d:kA a):Sq (rX a)=eY a:=by
 have i:=d.l2;unfold Sq eY;rw[CC];refine Xr λk b=>?_
 have b:=qO.1 b;unfold uF;rw[CC];split
 next e=>rw[e,d.one,kg,ry];rfl
 .rename_i e;rw[Mv a b,Mv a Y,Ss d,(Y:Z a-1-k=(Z a-2-k)+1),gP];have f:((I a k 0).den:V)≠0:=kw<|(I a k 0).den_pos
  rw[show(I a k 0).num*(((eX a:G):V)^(Z a-2-k)*((eX a:G):V))=((I a k 0).den:V)*(rW a k*((eX a:G):V)^(Z a-2-k))by rw[<-ko ((I a k 0).den:V),<-(aww (a:=a) b)];ac_rfl,Zo _ f]
def awz{k}(b:k<Z a):(I a k 0*(((eX a:G):V):L)).num=rW a k:=by rw[yn,show((((eX a:G):V):V):L)=((eX a:G):L)from J,<-(aj2 b)];rfl
def aj3(hE:∀k,k<Z a->aJ 201 (rW a k)):∀i,i<=Z a->aJ 201 ((uG a i:G):V)
 |0,_=>aJ.zero _
 |i+1,f=>by
  unfold aJ at*;rw[rC]at*;rw[uG];rcases sS (uG a i)with e|e
  .rw[e,Nat.gcd_zero_left];exact hE i Y
  .exact wV (Nat.gcd_le_left _ e)<|aj3 hE i Y
def aj4(d:kA a)(b:∀i,QS 20 (I a i 0)){k:G}(_:k<Z a):aJ 201 (rW a k):=by have f:=(b k).n.mul ((Y4 a b<|Z a).le<|show 20*Z a+1<=181 by have:=d.l9;omega);have l:rW a k=(I a k 0).num*((jw a (Z a):G):V)/((I a k 0).den:V):=rfl;unfold aJ at*;rw[l];exact wV (Zr ((I a k 0).num*((jw a (Z a):G):V)) ((I a k 0).den:V)) f
def awA(x:kA a)(v:∀i,QS 20 (I a i 0)):w O 169 [e .q a] (e .z<|rX a):=by
 have l2:=x.l2;have l9:=x.l9;have m:=λi(l:i<=9)=>(Y4 a v i).le (Y:20*i+1<=181)
 have A:=λi(l:i<=9)=>(m i l).sm S
 have B:QS 181 (((eX a:G):V):L):=⟨m _ l9,(aJ.one (a:=1) S).le S⟩;have n:=λk C=>aj4 x v (k:=k) C
 have D:=λk C=>(n k C).sm (by decide:201<=1099511627776)
 have y:=λi l=>(aj3 n i l).sm (by decide:201<=1099511627776)
 have E:=CC a;have p:=λk(C:k<Z a)=>Mv a C
 have Kk:0<eX a:=Iv a _;have K:=λk=>(v k).d.sm (by decide:20<=1099511627776)
 have s:∀i,((jw a i:G):V)*(((I a i 0).den:V)/((pK (jw a i) (I a i 0).den:G):V))=((jw a (i+1):G):V):=λi=>by rw[jw,gM,zS]
 have hqS:∀i,i<=9->Sm (((I a i 0).den:V)/((pK (jw a i) (I a i 0).den:G):V)):=λi l=>by have b:=(v i).d;have h2:=Zr ((I a i 0).den:V) ((pK (jw a i) (I a i 0).den:G):V);exact(show aJ 20 _ by unfold aJ at*;omega:aJ 20 (((I a i 0).den:V)/((pK (jw a i) (I a i 0).den:G):V))).sm S
 have Zq:=λi=>ER (k:=181) (I a i 0) (((eX a:G):V):L) ((v i).le S) B S
 clear m n B;refine aK Tryz.func169 ?_;refine U J<|bQ J J (km 1 S S) J<|h<|U J ?_;refine ay<|bq (α:=G) (λi=>⟨[(0,e .q a),(3,.c<|.P 1001000 0),(4,c i)],[(1001000,.box 42 0<|av .z ((jw a i:G):V))],3,[]⟩) (λi=>i<=Z a) (λi=>Z a-i) 0 (bg _) (wk (bK J) ⟨bE J J,j⟩) ?_;intro i l;refine h<|U J<|F J (λb=>?_)<|λb=>?_
 .have b:i<Z a:=by have b:(i:V)<(Z a:V):=aV b;omega
  have ei:af ((i:V))=i:=cC i;have hgp:0<pK (jw a i) (I a i 0).den:=Nat.gcd_pos_of_pos_right _ (I a i 0).den_pos;have aAG:pK (jw a i) (I a i 0).den<=(I a i 0).den:=Nat.gcd_le_right _ (I a i 0).den_pos;have N:=mr ((jw a i:G):V) (((I a i 0).den:V)/((pK (jw a i) (I a i 0).den:G):V)) (A i Y)<|hqS i Y;rw[s]at N;refine aE<|h<|ay ?_;refine R<|rc J J (P' ((jw a i:G):V) ((I a i 0).den:V) (A i Y)<|K i) (M J<|R<|rc J J (HE ((I a i 0).den:V) ((pK (jw a i) (I a i 0).den:G):V) Y (K i)<|(show aJ 20 ((pK (jw a i) (I a i 0).den:G):V)by have:=(v i).d;unfold aJ at*;omega).sm S) (M J ?_) (hp:=aH)) (hp:=aH);exact cG<|rc J J N<|M J<|bP<|rt J (hp:=aH)<|a4 (i+1) b ri<|wk (bK J) ⟨bE J J,j⟩
 have b:i=Z a:=by have b:¬(i:V)<(Z a:V):=bc b;omega
 subst b;have dG:jw a (Z a)=eX a:=rfl;refine bs<|aS ?_;rw[dG];refine R<|gV .z [] J J (M J<|bQ J J (km 0 S S) J<|h<|U J ?_);generalize hL:rX a=f at*;refine ay<|bq (α:=G) (λi=>⟨[(0,e .q a),(3,.c<|.P 1001000 0),(9,.c<|.X 4000000),(10,.c<|.P 5001000 0),(11,c i)],[(1001000,.box 42 0<|av .z ((eX a:G):V)),(4000000,.vec 42 .z<|r i f),(5001000,.box 42 0<|av .z ((uG a i:G):V))],8,[]⟩) (λi=>i<=Z a) (λi=>Z a-i) 0 (bg _) (wk (bK J) ⟨bR J,bR J,bE J J,j⟩) ?_;intro i l;have hl:(r i f).length=i:=cd;refine h<|U J<|F J (λb=>?_)<|λb=>?_
 .have b:i<Z a:=by have b:(i:V)<(Z a:V):=aV b;omega
  have g:=awz (a:=a) b;have Q:=P' ((uG a i:G):V) (rW a i) (y i Y)<|D i b;refine aE<|h<|ay ?_;refine R<|rc J J (km 1 S S) (rc J J (Zq i)<|M J ?_) (hp:=aH);rw[<-g]at Q;refine R<|rl .z [(I a i 0*(((eX a:G):V):L)).num] J J (ra J J J J J J J J J ?_ ?_<|M J ?_)
  .exact ajS (r i f) Y
  .exact ajT (r i f) Y
  refine cG<|rc J J Q<|M J<|bP<|rt J<|a4 (i+1) b ri<|Wk.trans (wk (st':=⟨[(0,e .q a),(3,.c<|.P 1001000 0),(9,.c<|.X 10004000),(10,.c<|.P 5001000 0),(11,c ((i+1:G):V))],[(1001000,.box 42 0<|av .z ((eX a:G):V)),(10004000,.vec 42 .z<|r (i+1) f),(5001000,.box 42 0<|av .z ((uG a (i+1):G):V))],16,[]⟩) (bK J) ⟨bR J,bE J ?_,bE J ?_,j⟩)<|Wk.trans (gZ 4000000 10004000 J J J) aN
  .refine bm (aA.vec 42 .z) ?_;rw[uc f i Y,p i b,g]
  .rw[uG,<-g];rfl
 have b:i=Z a:=by have b:¬(i:V)<(Z a:V):=bc b;omega
 subst b;rw[jM Y,awx x];refine bs<|aS<|h ?_;have u:I f (af<|(Z f:V)-1) 0=((eX a:G):V):=by rw[E,(Y:af ((Z a:V)-1)=Z a-1),p _ Y,Ss x]
 have W:¬gH (I f (af<|(Z f:V)-1) 0)<0:=by rw[u,Rn];omega
 refine R<|rg 73 J J (λ_=>?_)<|λb=>?_;rotate_left
 .exfalso;have b:¬(Z a:V)>0:=bc b;omega
 refine jF J J J J J (D5<|I f (af<|(Z f:V)-1) 0) (M J<|F J (λb=>?_)<|λ_=>aE ?_) (hp:=aH)
 .exfalso;exact W<|aV b
 refine h<|U J<|ay<|bq (α:=G) (λi=>⟨[(9,.c<|.X 4000000),(10,.c<|.P 5001000 0),(13,c i)],[(4000000,.vec 42 .z f),(5001000,.box 42 0<|av .z ((1:G):V))],16,[]⟩) (λi=>i<=Z f) (λi=>Z f-i) 0 (bg _) aN ?_;intro i l;refine h<|U J<|F J (λb=>?_)<|λb=>?_
 .have b:i<Z f:=by have b:(i:V)<(Z f:V):=aV b;omega
  have ei:af ((i:V))=i:=cC i;refine aE<|h<|ay ?_;refine R<|rc J J (HE (I f (af<|(i:V)) 0) ((1:G):V) S (by rw[ei,p i Y];exact D i Y)<|(aJ.one (a:=((1:G):V)) S).sm S) (M J ?_) (hp:=aH);refine cG<|wF (T:= .z) (I f (af<|(i:V)) 0/((1:G):V)) J J J J J ?_ (M J<|bP<|rt J (hp:=aH)<|a4 (i+1) b (Y:Z f-(i+1)<Z f-i)<|wk (bK J) ⟨bE J ?_,bR J,j⟩) (hp:=aH)
  .show af ((i:V))<_;omega
  .refine bm (aA.vec 42 .z)<|Q7 (by rw[px]) λgT hj=>?_;rw[wQ _ _ _ _ Y,ei];split
   next cH=>rw[cH];exact wR _
   .rfl
 .have b:i=Z f:=by have b:¬(i:V)<(Z f:V):=bc b;omega
  subst b;exact bs<|aS<|dv 4000000 J J J<|U J<|cN J
end
end Go.El
namespace Go.El
open Go Go.Proofs Go.RowKit Fx
def tdB(n:G):Bool:=[2,3,5,7,11,13,17,19,23,29,31,37,41,43,47].all λk=>Nat.ble n k|| !(jk (n%k) 0)
def IA:E G:=((List.range' 3 2300).filter tdB)
def Su{p}(a:p∈IA):3<=p/\p<2304:=by have b:=(qN.1 a).1;rw[awD]at b;omega
def aj6{p}(b:p∈IA):eO p:=by
 let ⟨z,h2⟩:=Su b;have m:tdB p=ae:=(qN.1 b).2;have f:∀k∈[2,3,5,7,11,13,17,19,23,29,31,37,41,43,47],p<=k\/p%k≠0:=λk f=>by
  have:=nY.1 m k f;rcases A5 _ _▸this with e|e
  .exact .inl<|c7 e
  .right;intro n;rw[n]at e;exact aF e S
 refine⟨Y,λd s A t=>?_⟩;have u:d<48:=fe λb=>by have:48*48<=d*d:=mA Y Y;omega
 have v:d<p:=by have:2*d<=d*d:=dS d s;omega
 obtain⟨q,g,a⟩:∃q∈[2,3,5,7,11,13,17,19,23,29,31,37,41,43,47],q∣d:=by have i:(List.range' 2 46).all (λd=>[2,3,5,7,11,13,17,19,23,29,31,37,41,43,47].any λq=>jk (d%q) 0)=ae:=fh;let ⟨q,g,l⟩:=List.any_eq_true.1<|nY.1 i d (by rw[awD];omega);exact⟨q,g,LI<|mi l⟩
 have B:=wZ Y a;rcases f q g with e|e
 .omega
 .exact e<|Nat.mod_eq_zero_of_dvd<|H7 a<|LI t
def awE:IA.Nodup:=(List.nodup_range' (s:=3) (n:=2300) (step:=1)).filter _
def awF:Nat.ble (Aj+1) (tb IA)=ae:=fh
def awG:Aj<tb IA:=agP awF
def aj7{p}(a:p∈IA):bL p:=⟨aj6 a,kw<|(Su a).2⟩
def kA.aj8{a}(d:kA a):∃p,eO p/\3<=p/\p<2304/\Is p (eY a)=ae:=by let ⟨p,b,hc⟩:=d.aiE awE (λ_ b=>aj7 b) awG;exact⟨p,aj6 b,(Su b).1,(Su b).2,(air (aj7 b) _).2 hc⟩
def aj9{p:G}:∀{L:E (E V×V)},(∀x∈L,bD (fx x.1:Fx p)/\1<=x.2)->te (jI p L)->jI p L=g8 (L.map (·.1))
 |[],_,_=>rfl
 |x::l,a,b=>by
  let ⟨d,h2⟩:=a x au;rw[jI,gX,g8,aj9 (L:=l) (λy hy=>a y wD)<|b.of_dvd ⟨pk (fx x.1)<|af x.2,by rw[jI,dk]⟩];by_cases e:af x.2=1
  .rw[e,sZ]
  .exfalso;obtain⟨n,g⟩:∃n,af x.2=n+1+1:=⟨af x.2-2,Y⟩;refine b _ d ⟨pk (fx x.1) n*jI p l,?_⟩;rw[jI,g];show pk (fx x.1) n*fx x.1*fx x.1*jI p l=_;ac_rfl
section
variable{p:G}{a:E V}
def rM.pW(b:rM p a){d}(m:E3 p (fx a:Fx p) d):yJ p a (d.map (·.1))/\∀g∈d.map (·.1),bD (fx g:Fx p):=by
 have k:∀g∈d.map (·.1),Mon p g/\2<=Z g/\bD (fx g:Fx p):=λg i=>by obtain⟨x,n,rfl⟩:=kd.1 i;let ⟨u,x2,x3,_⟩:=m.parts x n;exact⟨u,x2,x3⟩
 have s:(fx a:Fx p)=g8 (d.map (·.1)):=by rw[<-m.prod];exact aj9 (λx n=>⟨(m.parts x n).2.2.1,(m.parts x n).2.2.2⟩) (by rw[m.prod];exact b.nb)
 have v:Z a=1+eE (d.map (·.1)):=by
  let ⟨t1,t2⟩:=Ce b.p1 EL (l:=d.map (·.1)) λf t=>⟨(k f t).1.ne,(k f t).1.one⟩
  rw[<-xg b.H b.am,s,<-Cf (d.map (·.1)) p (L0 _),xg b.H t1,t2];rfl
 refine⟨⟨b.am,λg i=>⟨(k g i).1,(k g i).2.1⟩,by rw[ain,s],aio b.H (λg i=>(k g i).2.2) (by rw[<-s];exact b.nb),v,?_⟩,λg i=>(k g i).2.2⟩;have:=b.l9;omega
def Iy.mem{k}{l X}(d:Iy p k a l X){f}(t:f∈X):∃g∈l,aM f/\Z f=Z g/\(fx f:Fx p)=fx g/\∀m,eG (I f m 0) ((p:V)^k)=I f m 0:=by
 obtain⟨i,n,rfl⟩:=Gg t;have b:i<Z l:=by rw[<-d.len];exact n
 have s:=d.ok i b;rw[aO,aO,df n,df b]at s;exact⟨l[i],sx b,s⟩
def Iy.Sv{k}{l X}(f:Iy p k a l X):X.map (fx (p:=p))=l.map fx/\eE X=eE l:=by
 have g:∀(X l:E (E V)),X.length=Z l->(∀i,i<Z l->Z (X.getD i [])=Z (l.getD i [])/\(fx (X.getD i []):Fx p)=fx (l.getD i []))->X.map (fx (p:=p))=l.map fx/\eE X=eE l:=by
  intro X;induction X with
  |nil=>
   intro l b _
   rw[gx b.symm];exact⟨J,J⟩
  |cons x X n=>
   intro l b h
   cases l with
   |nil=>cases b
   |cons y l=>
    let ⟨i1,i2⟩:=n l (Nat.succ.inj b) λi d=>h (i+1)<|Nat.succ_lt_succ d
    have m:Z x=Z y/\(fx x:Fx p)=fx y:=h 0<|Nat.succ_pos _
    exact⟨by rw[gX,gX,i1,m.2],by rw[eE,eE,i2,m.1]⟩
 exact g X l f.len λi d=>⟨(f.ok i d).2.1,(f.ok i d).2.2.1⟩
def rM.cbX(b:rM p a){m}(s:E3 p (fx a:Fx p) m){k}(t:1<=k)(B:2*iH a<p^k){X}(d:Iy p k a (m.map (·.1)) X):iR p ((p:V)^k) a X:=by
 let ⟨A,u⟩:=b.pW s;refine⟨b.H,⟨k,t,J⟩,b.am,λf n=>?_,λf n=>?_,?_,d.pr,b.nb,?_,λg v x i=>?_⟩
 .let ⟨_,_,l,_⟩:=d.mem n;exact l
 .let ⟨g,hg,_,_,z,_⟩:=d.mem n;rw[z];exact u g hg
 .have l:((m.map (·.1)).map<|fx (p:=p)).Pairwise Co:=H9.2 A.co;rw[<-d.Sv.1]at l;exact H9.1 l
 .rw[d.Sv.2];exact A.fl
 .have:=aiq b.am v x i;have e:((p^k:G):V)=(p:V)^k:=wW p k;rw[<-e];omega
end
end Go.El
namespace Go.El
open Go Go.Proofs Go.RowKit Rx
def Mw{a b}:pT a b<=0↔a<=b:=by
 unfold pT;by_cases d:a<b
 .rw[q d];exact⟨λ_=>Rat.le_of_lt d,λ_=>Y⟩
 .rw[y d];by_cases h2:b<a
  .rw[q h2];exact⟨λh=>Y,λh=>aF h2<|Rat.not_lt.2 h⟩
  .rw[y h2];exact⟨λ_=>Rat.not_lt.1 h2,λ_=>iZ _⟩
def Zx{a b}:pT a b=0↔a=b:=by
 constructor
 .intro h;refine Rat.le_antisymm (Mw.1 Y)<|Mw.1 ?_;rw[Y7];omega
 .rintro rfl;have:=Y7 a a;omega
def aj'(a b d:E L):∀i,tm a b i<=0->tm b d i<=0->tm a d i<=0
 |0,_,_=>iZ _
 |i+1,l,h2=>by
  rw[tm]at*;have q1:=@Mw (I a i 0)<|I b i 0;have u:=@Mw (I b i 0)<|I d i 0;have v:=@Mw (I a i 0)<|I d i 0;have s:=@Zx (I a i 0)<|I b i 0;have A:=@Zx (I b i 0)<|I d i 0;have B:=@Zx (I a i 0)<|I d i 0;generalize I a i 0=x at*;generalize I b i 0=n at*;generalize I d i 0=z at*;by_cases m:pT x n=0
  .rw[y (λe=>e m)]at l;have:=s.1 m;subst this;by_cases f:pT x z=0
   .rw[y (λe=>e f)]at*;exact (aj' a b d i) l h2
   .rw[q f]at*;exact h2
  .rw[q m]at l;have g:=q1.1 l;have k:n<=z:=by
    by_cases f:pT n z=0
    .rw[A.1 f];exact Rat.le_refl
    .rw[q f]at h2;exact u.1 h2
   have C:pT x z≠0:=λe=>by have:=B.1 e;subst this;exact m<|s.2<|Rat.le_antisymm g k
   rw[q C];exact v.2<|Rat.le_trans g k
def awI{a b f}(i:kC a b<=0)(g:kC b f<=0):kC a f<=0:=by
 have n:∀x d:V,rN x d<=0->x<=d:=λx d h=>by unfold rN at h;split at h<;>(try split at h)<;>omega
 have k:∀x d:V,x<d->rN x d<=0:=λx d h=>by unfold rN;rw[q h];omega
 have l:∀{a b:E L},kC a b<=0->Z a<=Z b:=λ{a b} h=>by
  by_cases e:Z a=Z b
  .omega
  .rw[kC,q e]at h;have:=n _ _ h;omega
 have s:=l i;have t:=l g;by_cases e:Z a=Z f
 .have m:Z a=Z b:=by omega
  have p:Z b=Z f:=Y;rw[kC,y<|λh=>h m]at i;rw[kC,y<|λh=>h p]at g;rw[kC,y<|λh=>h e];rw[<-m]at g;exact aj' a b f _ i g
 .rw[kC,q e];exact k _ _ Y
abbrev xr(x a:E L×V):Prop:=Iw x a<=0
def awJ{x a z}(b:xr x a)(d:xr a z):xr x z:=awI b d
def awK{l}(b:l.Pairwise xr):gAd AE Iw l (Z l-1):=λt d=>by
 have g:∀k(a:k<Z l),I l k AE=l[k]:=λk a=>by rw[aO,df a];rfl
 have:=List.pairwise_iff_getElem.1 b t (t+1) Y Y Y;rw[g t Y,g (t+1) Y];have e:=ai0 l[t+1] l[t];omega
section
variable{α:Type}(d:α)(lt:α->Bool)(x:α)(l:E α)
def aka:∀i,i<=Z l->((jW d lt x l i).1=ah/\(jW d lt x l i).2=r i l/\∀a,a<i->lt (I l a d)=ah)\/((jW d lt x l i).1=ae/\∃k,k<i/\(∀a,a<k->lt (I l a d)=ah)/\lt (I l k d)=ae/\(jW d lt x l i).2=r k l++x::(r i l).drop k)
 |0,_=> .inl ⟨J,J,λa z=>Y⟩
 |i+1,n=>by
  have b:r (i+1) l=r i l++[I l i d]:=by rw[vj,aO,df n];rfl
  have p:(r i l).length=i:=K7;rw[Zi];rcases aka i Y with⟨g,s,m⟩|⟨g,k,A,t,u,v⟩
  .rw[g,s];cases f:lt (I l i d)with
   |false=>
    left
    refine⟨J,b.symm,λa B=>?_⟩
    by_cases e:a=i
    .rw[e];exact f
    .exact m a Y
   |true=>
    right
    refine⟨J,i,Y,m,f,?_⟩
    show r i l++[x]++[I l i d]=_
    rw[b,C3 Y,vX Y,nt];rfl
  .rw[g];right;refine⟨J,k,Y,t,u,?_⟩;show(jW d lt x l i).2++[I l i d]=_;rw[v,b,C3 Y,nt];rfl
def awL:∃k,k<=Z l/\(∀b,b<k->lt (I l b d)=ah)/\(k<Z l->lt (I l k d)=ae)/\uD d lt x l=r k l++x::az k l:=by
 unfold uD;rcases aka d lt x l (Z l) (aL _)with⟨a,f,g⟩|⟨a,k,p,i,m,n⟩
 .refine⟨Z l,aL _,g,λh=>Y,?_⟩;rw[a,f,y S,List.drop_length]
 .refine⟨k,Y,i,λ_=>m,?_⟩;rw[a,q J,n,iG]
end
def My(x:E L×V)(l:E (E L×V)):E (E L×V):=uD ([],0) (λy=>decide<|kC x.1 y.1<0) x l
def awM x l:(My x l).Perm (x::l):=ajw _ _ _ _
def awN{x}{l}(t:l.Pairwise xr):(My x l).Pairwise xr:=by
 let ⟨k,H,v,A,B⟩:=awL ([],0) (λy:E L×V=>decide<|kC x.1 y.1<0) x l;rw[My,B];have C:(r k l++az k l).Pairwise xr:=by rw[uX];exact t
 let ⟨p1,f,D⟩:=Aq.1 C;have g:∀j(b:j<Z l),I l j ([],0)=l[j]:=λj b=>by rw[aO,df b];rfl
 have i:∀y∈r k l,xr y x:=λy a=>by
  obtain⟨j,b,rfl⟩:=Gg a;have m:j<k:=by rw[iC]at b;omega
  have d:=bc<|v j m;rw[g j Y]at d;rw[tD];show Iw _ _<=0;rw[ai0];show-(kC x.1 _)<=0;omega
 have n:∀y∈az k l,xr x y:=λy a=>by
  have p:k<Z l:=fe λt=>by rw[vX Y]at a;cases a
  have d:=aV<|A p;rw[g k p]at d;have u:xr x l[k]:=Int.le_of_lt d;rw[tU p]at a f;rcases b7.1 a with rfl|a
  .exact u
  .exact awJ u<|(lq.1 f).1 y a
 refine Aq.2 ⟨p1,lq.2 ⟨n,f⟩,λy a z s=>?_⟩;rcases b7.1 s with rfl|s
 .exact i y a
 .exact D y a z s
def tn(l:E (E L×V)):E (E L×V):=l.foldl (λo x=>My x o) []
def akb l x:tn (l++[x])=My x (tn l):=by rw[tn,List.foldl_append];rfl
def Zy:∀(n:G)(l:E (E L×V)),Z l=n->(tn l).Perm l/\(tn l).Pairwise xr
 |0,l,b=>by rw[gx b];exact⟨List.Perm.refl _,List.Pairwise.nil⟩
 |n+1,l,b=>by
  have a:l≠[]:=λe=>by rw[e]at b;cases b
  have e:l=l.dropLast++[l.getLast a]:=(Zc a).symm;let ⟨i1,i2⟩:=Zy n l.dropLast (by rw[List.length_dropLast];omega);rw[e,akb];exact⟨(awM _ _).trans<|((List.Perm.cons _ i1)).trans (List.perm_append_singleton _ _).symm,awN i2⟩
def awO{a}(x:kA a)(hq:∀i,QS 20 (I a i 0)):∃n:E (E V),(∀a7∈n,aM a7/\Rx.bD (Rx.zx a7))/\Rx.rK n=Rx.zx (eY a)/\w Tryz.prog 141 [cS .q a] (cS (.sl .q)<|n.map<|lY<|eX a):=by
 have l2:=x.l2;have l9:=x.l9;let ⟨p,⟨hp,p3,Q⟩,N⟩:=Zb (P:=λp=>eO p/\3<=p/\Is p (eY a)=ae) (by let ⟨p,m,b,_,h4⟩:=x.aj8;exact⟨p,m,b,h4⟩);have hp9:p<2304:=by let ⟨q,m,b,B,h4⟩:=x.aj8;exact wV (fe λhc=>N q Y ⟨m,b,h4⟩) B
 have t:=x.mf;have H:bL p:=⟨hp,Y⟩;have wM:rM p (eY a):=⟨H,t.am,t.l2,t.l9,(air H _).1 Q⟩;have sJ:Z (eY a)=Z a:=Cu a;have D:aU (md p<|eY a)=md p (eY a):=wM.trim;let ⟨f1,f2,f3⟩:=wM.f;have eZ:md p (eY a)≠[]:=f1.ne;let ⟨s,hL,awP⟩:=avC H Y (a:=md p<|eY a) Y (λi=>(Em H.pos (eY a) i).1) (by rw[Qz,D];exact eZ) (λd hd=>by rw[Qz,D,f2,sJ]at hd;have m:d<=4:=Y;have b:p^d<=2304^4:=br (B6 Y d)<|dD S m;omega);rw[Qz,D]at hL;have JL:(Fx.fx (m8 p<|md p<|eY a):Fx p)=Fx.fx (eY a):=by have e:=(Fx.Q1 H f1.c eZ).2.2.2.2;rw[f1.one,Fx.lU,Fx.c8,f3]at e;exact e.symm
 rw[JL]at hL;let ⟨A,hi⟩:=wM.pW hL;have hL8:Z s<=8:=by have:=(YS λf hf=>(A.ok f hf).2).1;have:=A.fl;rw[dj]at*;omega
 let ⟨k1,k2,k3⟩:=ais (p:=p) Y<|2*iH (eY a);let ⟨m1,m2⟩:=t.mBp (p:=p) Y Y;have hlX:=avV H A (u:=9) (w:=9) k1 Y (λi=>(t.aB i).le Y) m1 Y Y Y;have O:=ajM H k1 _ _ A;have C:=wM.cbX hL k1 k2 O;let ⟨G1,G2⟩:=iR.all (p:=p) 8 Zz (λe=>by have m:=A.fl;rw[<-O.Sv.2,e]at m;have b:Z (eY a)=1:=m;omega) C;have UK:=ajX (w:=9) S S m1 8 (eY a) _ S Zz (λe=>by
  have m:=A.fl;rw[<-O.Sv.2,e]at m;have b:Z (eY a)=1:=m;omega) Zz Y C (λf hf i=>by
  let ⟨_,_,_,_,_,f4⟩:=O.mem hf;rw[<-f4 i];exact XT (pI H.pos) m1)
 refine⟨_,G1,G2,?_⟩;have yb:=Zv ((p:V)^o8 p (2*iH (eY a))) 8 (eY a)<|uE p (o8 p<|2*iH (eY a)) (eY a)<|s.map (·.1);generalize uo ((p:V)^o8 p (2*iH (eY a))) 8 (eY a) (uE p (o8 p<|2*iH (eY a)) (eY a)<|s.map (·.1))=n at*;have hGB:∀g∈n,Z g<=12/\∀i,aJ 210 (I g i 0):=λg hgm=>by
  let ⟨g1,g2⟩:=G1 g hgm;have hd:Rx.zx g∣Rx.zx (eY a):=by rw[<-G2];exact aiK hgm
  have hb:=λi=>aiq t.am g1 hd i
  refine⟨?_,λi=>?_⟩
  .have m:=Rx.k9 hd (by rw[<-G2];exact(aiL λg Q=>(G1 g Q).2).1);rw[Rx.mM g1.can,Rx.mM t.am.can]at m;omega
  .have m:=t.bB;have b:=hb i;have:aJ 8 (I g i 0):=by unfold aJ at*;omega
   exact this.le Y
 generalize hX:uE p (o8 p<|2*iH (eY a)) (eY a) (s.map (·.1))=X at*;have hfB:∀i,aJ 201 (I (rX a) i 0):=λi=>by
  by_cases hi:i<Z a
  .rw[Mv a hi];exact aj4 x hq hi
  .rw[gk _ (by rw[CC];omega)];exact aJ.zero _
 have RU:=av1 (rX a) (by rw[CC];omega) (by rw[CC];omega)<|λi=>(hfB i).le Y;rw[awy x]at RU;have IX:∀g∈n,w Tryz.prog 180 [cS .z g,.a<|av .z<|I (rX a) (af<|(Z (rX a):V)-1) 0] (cS .q<|lY (eX a) g):=λg Q=>by
  have e:I (rX a) (af<|(Z (rX a):V)-1) 0=((eX a:G):V):=by rw[CC,(Y:af ((Z a:V)-1)=Z a-1),Mv a Y,Ss x]
  have m:=hfB<|af<|(Z (rX a):V)-1;rw[e]at m⊢;exact av3 g (eX a) (Iv a _) (hGB g Q).1 (hGB g Q).2<|m.le Y
 have G':=av0 (eY a) 6 S Y t.aB;have hBS:Sm ((iH (eY a):G):V):=by have m:=t.bB;exact(show aJ 8 _ by unfold aJ at*;omega:aJ 8 ((iH (eY a):G):V)).sm Y
 have had:=zN ((iH (eY a):G):V) ((iH (eY a):G):V) hBS hBS;have hil:=awA x hq;have kT:=CC a;generalize rX a=f0 at*;have v:=aga<|eY a;have hsS:∀i,Sm (I (eY a) i 0):=λi=>(t.aB i).sm S
 refine aK Tryz.func141 ?_;refine U J<|bQ J J hil J<|R<|rc J J RU<|M J<|U J ?_;generalize eY a=l at*;refine h<|ay<|bq (α:=G) (λq=>⟨[(3,cS .z f0),(4,cS .z l),(5,cU q)],[],4,[]⟩) (λq=>eO q/\3<=q/\q<=p) (λq=>p-q) 3 ⟨⟨S,λd m b=>aF (mA m m) Y⟩,aL _,p3⟩ (wk ⟨sR J,sR J,sE J J,j⟩ j) ?_;rintro q ⟨q1,q2,q3⟩;have T:(0:V)<(q:V):=Y;have v:=aga l q Y Y Y hsS;have Kw:bS q (aU<|md q l):=mE T<|Em T l;have DP:bS q (aU<|lj q<|aU<|md q l):=mE T<|Mk Y _;have RT:Z (aU<|md q l)<=9:=by have:=rE<|md q l;rw[z5]at this;omega
 have YL:Z (aU<|lj q<|aU<|md q l)<=9:=by have:=rE<|lj q<|aU<|md q l;have:=Mj q<|aU<|md q l;omega
 have hde:=ajl (aU<|md q l) q Y Y Y Kw.1;have hgc:=HW q q1 Y _ _ Y Y Kw DP;refine h<|R<|rc J J v<|rc J J v<|rc J J hde<|rc J J hgc<|M J<|F J (λm=>?_)<|λm=>?_
 .have m:(Z (il q (aU<|md q l)<|aU<|lj q<|aU<|md q l):V)≠1:=bne_iff_ne.1 m;have K:Is q l=ah:=rz λe=>m vO
  have W:q<p:=Nat.lt_of_le_of_ne q3 λe=>by rw[e,Q]at K;cases K
  let ⟨a7,r1,r2,r3,r4,r5⟩:=asj q Y;refine aE<|ay<|bQ J J r5 J<|rt J<|fF<|a4 a7 ⟨r1,Y,zK λe=>r4 p W e hp⟩ (Y:p-a7<p-q) aN
 .have m:((Z (il q (aU<|md q l)<|aU<|lj q<|aU<|md q l):V) !=1)=ah:=m;have K:Is q l=ae:=rA (by have b:=bne_eq_false_iff_eq.1 m;omega);have W:q=p:=Sw q3<|zK λe=>N q e ⟨q1,q2,K⟩;subst W;refine bs<|aS ?_;rw[D]at v;refine R<|rc J J v<|rc J J awP<|M J<|R<|gV (.sl ar) [] J J (M J<|h<|U J<|ay<|bq (α:=G×E (E V)) (λy=>⟨[(3,cS .z f0),(4,cS .z l),(5,cU q),(8,.c<|.S MT s),(10,.c<|.X 6000000),(11,c y.1)],[(6000000,.vec 167 (.sl ar) y.2)],8,[]⟩) (λy=>y.1<=Z s/\y.2=(r y.1 s).map (·.1)) (λy=>Z s-y.1) (0,[]) ⟨bg _,J⟩ aN ?_);rintro⟨i,o⟩ ⟨i1,i2⟩;simp only at i1 i2;have ho:Z o<=9:=by rw[i2,dj,iC];omega
  refine h<|U J<|F J (λb=>?_)<|λb=>?_
  .have b:i<Z s:=by have b:(i:V)<(Z s:V):=aV b;omega
   have ei:af ((i:V))=i:=cC i;refine aE<|h<|ay<|cG<|rl (.sl ar) [_] J J (ra J J J J J J J J J ?_ ?_<|M J ?_) (hp:=aH)
   .show(Z o+1+(Z o+1)/4+192)*24<=_;omega
   .show(Z o+1)*1<=_;omega
   refine bP<|rt J (hp:=aH)<|a4 (i+1,o++[(I s (af<|(i:V)) d0M).1]) ⟨b,?_⟩ (Y:Z s-(i+1)<Z s-i)<|Wk.trans (wk (st':=⟨[(3,cS .z f0),(4,cS .z l),(5,cU q),(8,.c<|.S MT s),(10,.c<|.X 9007000),(11,c ((i+1:G):V))],[(9007000,.vec 167 (.sl ar)<|o++[(I s (af<|(i:V)) d0M).1])],20,[]⟩) (bK J) ⟨bR J,j⟩)<|Wk.trans (gZ 6000000 9007000 J J J) aN;show o++[_]=(r (i+1) s).map (·.1);rw[ei,i2,vj,gf,aO,df b];rfl
  .have b:i=Z s:=by have b:¬(i:V)<(Z s:V):=bc b;omega
   rw[b,iG]at i2;subst i2;refine bs<|aS<|dv 6000000 J J J<|R<|rc J J G'<|rc J J G'<|rc J J had<|M J<|U J ?_;have Sx:∀gT:G,((q:V)^gT<=((iH l:G):V)+((iH l:G):V)↔q^gT<=2*iH l):=λgT=>by rw[<-wW];omega
   refine h<|ay<|bq (α:=G) (λk=>⟨[(3,cS .z f0),(4,cS .z l),(5,cU q),(10,cS (.sl ar)<|s.map (·.1)),(12,.c<|.P 9005000 0),(13,c k)],[(9005000,.box 42 0<|av .z<|((iH l:G):V)+((iH l:G):V))],11,[]⟩) (λk=>1<=k/\k<=o8 q (2*iH l)) (λk=>o8 q (2*iH l)-k) 1 ⟨aL _,k1⟩ aN ?_;rintro k ⟨e1,e2⟩;refine h<|R<|rc J J (XS q k Y Y)<|rc J J (PF _ _)<|M J<|F J (λB=>?_)<|λB=>?_
   .have B:=(Sx k).1<|aiI.1<|aV B;have h4:k≠o8 q (2*iH l):=λe=>by rw[e]at B;omega
    refine aE<|ay<|rt J (hp:=aH)<|fF<|a4 (k+1) ⟨Y,Y⟩ (Y:o8 q (2*iH l)-(k+1)<o8 q (2*iH l)-k) aN
   .have B:¬q^k<=2*iH l:=λe=>bc B (aiI.2<|(Sx k).2 e)
    have h4:k=o8 q (2*iH l):=Sw e2<|zK λe=>B<|k3 k e1 e;subst h4;refine bs<|aS<|R<|rc J J hlX<|rc J J (XS q _ Y Y)<|rc J J UK<|M J<|R<|gV (.sl .q) [] J J (M J<|h<|U J<|ay<|bq (α:=G×E (E L)) (λy=>⟨[(3,cS .z f0),(14,cS (.sl .z) n),(15,.c<|.X 13000000),(16,c y.1)],[(13000000,.vec 29 (.sl .q) y.2)],15,[]⟩) (λy=>y.1<=Z n/\y.2=(r y.1 n).map (lY<|eX a)) (λy=>Z n-y.1) (0,[]) ⟨bg _,J⟩ aN ?_);rintro⟨i,o⟩ ⟨i1,i2⟩;simp only at i1 i2;have ho:Z o<=9:=by rw[i2,dj,iC];omega
    refine h<|U J<|F J (λb=>?_)<|λb=>?_
    .have b:i<Z n:=by have b:(i:V)<(Z n:V):=aV b;omega
     have hm:I n (af<|(i:V)) (ET.eP<|.sl .z)=n[i]:=by rw[cC,aO,df b];rfl
     have hb:=IX _<|sx b;rw[<-hm]at hb;refine aE<|h<|ay<|cG<|rc J J hb (rl (.sl .q) [_] J J (ra J J J J J J J J J ?_ ?_<|M J ?_)) (hp:=aH)
     .show(Z o+1+(Z o+1)/4+192)*24<=_;omega
     .show(Z o+1)*1<=_;omega
     refine bP<|rt J (hp:=aH)<|a4 (i+1,o++[lY (eX a) (I n (af<|(i:V))<|ET.eP<|.sl .z)]) ⟨b,?_⟩ (Y:Z n-(i+1)<Z n-i)<|Wk.trans (wk (st':=⟨[(3,cS .z f0),(14,cS (.sl .z) n),(15,.c<|.X 16013000),(16,c ((i+1:G):V))],[(16013000,.vec 29 (.sl .q)<|o++[lY (eX a) (I n (af<|(i:V))<|ET.eP<|.sl .z)])],30,[]⟩) (bK J) ⟨bR J,j⟩)<|Wk.trans (gZ 13000000 16013000 J J J) aN;show o++[_]=(r (i+1) n).map (lY<|eX a);rw[hm,i2,vj,gf,df b];rfl
    .have b:i=Z n:=by have b:¬(i:V)<(Z n:V):=bc b;omega
     rw[b,iG]at i2;subst i2;exact bs<|aS<|dv 13000000 J J J<|U J<|cN J
def Sy{s t u}{a b}(l:bp a)(g:bp b)(d:b≠[])(m:Z a<=500)(n:Z b<=500)(k:Ht (2^t) (lx a))(hB:Ht (2^u) (lx b))(f:t+(u+1)*(Z a+1-Z b)<32*s)(p:u<32*s):Au s a b:=by
 let ⟨q1,v,x⟩:=EY g d k hB;refine⟨m,n,g.ne d,λi=>hB.qs (mO p) i,λj z i=>?_,λf=>(oZ l).ne f,λi=>v.qs (mO f) i⟩;by_cases hl:Z b<=Z a
 .exact(x hl j z).qs (mO f) i
 .have:j=0:=by omega
  subst this;exact k.qs (mO Y) i
def ZA{t u}(k:t<=2000)(l:u<=2000){a b}(f:bp a)(g:bp b)(d:b≠[])(m:Z a<=9)(n:Z b<=9)(i:Ht (2^t) (lx a))(hB:Ht (2^u) (lx b)):w O 116 [e .q a,e .q b] (e .q<|cV a b):=by have p:=cF.2 d;have v:(u+1)*(Z a+1-Z b)<=(u+1)*9:=gD _ Y;exact Mf (s:=100000000) Y Y f d<|Sy f g d Y Y i hB Y Y
def ZB{t}(z:t<=100000){a b}(m:bp a)(f:bp b)(u:a≠[])(A:Z a<=9)(B:Z b<=9)(n:Ht (2^t) (lx a))(hB:Ht (2^t) (lx b)):∃g,w O 131 [e .q a,e .q b] (e .q g)/\bp g/\LC (lx g) (lx a) (lx b):=by
 let ⟨C,g2,v⟩:=ahY (k:=Z b+1) m f Y u;obtain⟨s,D⟩:∃s,s=10000000000:=⟨_,J⟩;have l:Cj s (Z b+1) a b/\(∀i,QS s (I (fX (Z b+1) a b) i 0))/\Z (fX (Z b+1) a b)<=500:=by
  rw[Cj,fX];split
  next d=>exact⟨.inl d,λi=>n.qs (mO Y) i,Y⟩
  .rename_i d;have H:=cF.2 d;let ⟨q1,x,K⟩:=EY f d n hB;have N:(t+1)*(Z a+1-Z b)<=(t+1)*9:=gD _ Y;have p:3^Z b<=19683:=br (dD S (Y:Z b<=9)) S;let ⟨i1,i2,i3⟩:=ah3 (s:=s) (Z b) (t+(t+1)*(Z a+1-Z b)) b (dA<|bZ a b) f (qC _) (by rcases RP (a:=a) d with h|h;omega;rw[h,qT];omega) ((RP (a:=a) d).symm) Y
    (hB.le<|dD S<|RM _ _) (YE (oZ m) x) (by refine br (gD _ p) ?_;omega)
   exact⟨.inr ⟨Sy m f d Y Y n hB Y Y,i1⟩,i2,i3⟩
 exact⟨_,auv Y Y (Z b+1) a b m f l.1 Y l.2.1,g2,v⟩
def kR(n:G):G->G:=λm=>m-n
def akg n a:pF (kR n) a=pF (kW<|n+1) a*pF (kR<|n+1) a:=by rw[<-Ew];exact Af λx _=>by unfold kW kR;split<;>omega
def awW{a}(b:FL a){n}{D}(g:LC D (pF (kW n) a) (pF (kR n) a)):D=pF (kW<|n+1) a:=by
 let ⟨d1,d2,d3,U,V,d4⟩:=g;refine d1.eq (yx b.mo) ?_ ?_
 .have d:Co D (pF (kP n) a):=H2 d1.ne λQ hQ q1 i=>by
   let ⟨x,hx,t,k⟩:=B2 hQ i;let ⟨z,f,l,m⟩:=B2 hQ<|fW q1 d3;have p:x.2=n:=XB.1 (kw<|LD n x.2);have u:n<z.2:=by unfold kR at l;omega
   have s:x.1=z.1:=(b.gJ x hx).eq (b.gJ z f) (b.mo x hx) (b.mo z f)<|fW (hQ.assoc (b.gJ x hx) k) m;exact FL.XA b.xa hx f (λe=>by rw[e]at p;omega) s
  rw[XC]at d2;exact d.dvd d2
 .rw[d4];exact iA (dE (by rw[XC n a];exact jc _ _) _)<|dE (by rw[akg n a];exact mH _ _) _
def akh{a}(d:bp a)(b:2<=Z a):bp (qB a):=by
 right;rw[Rv,ahC Y,(Y:Z a-1-1+1=Z a-1)];have f:=d.ne (λe=>by rw[e]at b;simp at b);intro e;rcases Ab.1 e with e|e
 .have:((Z a-1:G):V)=0:=by exact_mod_cast e
  omega
 .exact f e
def awX{a:G->G}(d:∀m,a m<=m) b:pF a b∣pF id b:=by refine⟨pF (λm=>m-a m) b,?_⟩;rw[<-Ew];exact Af λx _=>by have:=d x.2;show x.2=_;omega
def Fb:G->G->E L->E L->E (E L×V)->E (E L×V)->Prop
 |0,_,_,_,_,_=>False
 |k+1,n,a,b,acc,out=>if 1<Z a then∃p g z,
   w O 131 [e .q a,e .q b] (e .q p)/\w O 116 [e .q a,e .q p] (e .q g)/\w O 116 [e .q b,e .q p] (e .q z)/\
   Fb k (n+1) p z (if 1<Z g then acc++[(g,(n:V))]else acc) out
  else out=acc
def awY(a t v:E L) out(T:Z a<=9)(A:¬Z a<2){d g B:E L}(D:w O 132 [e .q a] (e .q d))(H:w O 131 [e .q a,e .q d] (e .q g))(N:w O 29 [e .q a] (e .q B))(P:w O 116 [e .q B,e .q g] (e .q t))
  (Q:Fb (Z a) 1 t g [] out):w O 140 [e .q a] (e UT out):=by
 refine aK Tryz.func140 ?_
 refine U J<|R<|gV UT [] J J (M J<|h<|U J<|F J (λu=>?_)<|λ_=>aE ?_)
 .have u:(Z a:V)<2:=aV u;exact aF u Y
 refine R<|rc J J D<|rc J J H<|M J<|R<|rc J J N<|rc J J P<|M J<|h<|U J ?_
 refine ay<|bq (α:=G×G×E L×E L×E (E L×V)) (λx=>⟨[(3,.c<|.X 1000000),(4,e .q x.2.2.2.1),(5,e .q x.2.2.1),(6,c x.2.1)],[(1000000,.vec 114 UT x.2.2.2.2)],7,[]⟩) (λx=>Fb x.1 x.2.1 x.2.2.1 x.2.2.2.1 x.2.2.2.2 out/\Z x.2.2.2.2<x.2.1/\x.2.1+x.1<=20) (λx=>x.1) (Z a,1,t,g,[]) ⟨Q,Nat.zero_lt_one,(Y:1+Z a<=20)⟩ aN ?_
 rintro⟨k,n,t,v,b⟩ ⟨i,A,C⟩
 simp only at i A C
 cases k with
 |zero=>exact aF i<|λu=>u
 |succ k=>
  rw[Fb]at i
  refine h<|U J<|F J (λl=>?_)<|λl=>?_
  .have l:1<Z t:=by have l:(Z t:V)>1:=aV l;omega
   rw[q l]at i;let ⟨p,f,z,d1,d2,d3,i⟩:=i;refine di<|aS<|h<|ay<|R<|rc J J d1<|M J<|R<|rc J J d2<|M J<|kp ⟨[(3,.c<|.X 1000000),(4,e .q v),(6,c n),(7,e .q p)],[(1000000,.vec 114 UT (if 1<Z f then b++[(f,(n:V))]else b))],30,[]⟩ ?_<|λm=>U J<|F J (λs=>?_)<|λs=>di ?_
   .refine U J<|cG<|rc J J d3<|M J<|bP<|rt J (hp:=aH)<|a4 (k,n+1,p,z,if 1<Z f then b++[(f,(n:V))]else b) ⟨i,?_,by show n+1+k<=_;omega⟩ (dV k) aN;show Z (if 1<Z f then b++[(f,(n:V))]else b)<n+1;split
    .rw[iV];show Z b+1<_;omega
    .omega
   .have s:1<Z f:=by have s:(Z f:V)>1:=aV s;omega
    rw[q s]at m;refine cG<|rl UT [(f,(n:V))] J J (ra J J J J J J J J J ?_ ?_<|M J<|eD m<|Wk.trans (wk (st':=⟨[(3,.c<|.X 11005000),(4,e .q v),(6,c n),(7,e .q p)],[(11005000,.vec 114 UT<|b++[(f,(n:V))])],12,[]⟩) (bK J) ⟨bR J,j⟩)<|Wk.trans (gZ 1000000 11005000 J J J) aN)
    .show(Z b+1+(Z b+1)/4+192)*32<=_;omega
    .show(Z b+1)*2<=_;omega
   .have s:¬1<Z f:=by have s:¬(Z f:V)>1:=bc s;omega
    rw[y s]at m;exact eD m aN
  .have l:¬1<Z t:=by have l:¬(Z t:V)>1:=bc l;omega
   rw[y l]at i;rw[i];exact oJ<|sf<|pB<|oK<|aS<|dv 1000000 J J J<|U J<|bX<|atR J
def awZ{t}(ht:t<=1500){a}(ha:bp a)(h0:a≠[])(la:Z a<=9)(hA:Ht (2^t) (lx a)){s}(T:FL s)(hF:pF id s=lx (dA a))(hD:∀D,Mo D->D∣pF id s->Ht (2^t) D):
  ∃H,w O 140 [e .q a] (e UT H)/\H.map (λp=>(lx p.1,p.2))=pV s (Z a) 1/\∀p∈H,bp p.1:=by
 have hl:=cF.2 h0
 have lm:=EU ha
 have iu:sz (pF id s)=Z a:=by rw[hF,fj<|qC a,lm]
 have W:∀{c:G->G}{v:E L},(∀m,1<=m->c m<=m)->bp v->lx v=pF c s->Z v<=9/\v≠[]/\Ht (2^t) (lx v)/\Mo (lx v):=λ{c v} hc j cH=>by
  have e2:pF c s=pF (λm=>min (c m) m) s:=Af λx P=>by have:=hc x.2<|T.pos x P;show _=min _ _;omega
  have hm:Mo (lx v):=by rw[cH];exact yx T.mo
  have hd:lx v∣pF id s:=by rw[cH,e2];exact awX (λm=>Nat.min_le_right _ _) s
  have C:=k9 hd (yx T.mo).ne;rw[fj j,iu]at C;exact⟨Y,λcH=>by rw[cH,ku]at hm;exact hm.ne J,hD _ hm hd,hm⟩
 by_cases h2:Z a<2
 .have P:∀x∈s,x.2<1:=λx P=>by have:=YH T P;omega
  refine⟨[],?_,by rw[YF _ P];rfl,λp hp=>by cases hp⟩;refine aK Tryz.func140 ?_;refine U J<|R<|rl UT [] J J (M J<|h<|U J<|F J (λ_=>(U J<|bX<|cY<|atR J))<|λQ=>?_)
  .have Q:¬(Z a:V)<2:=bc Q;exact aF Q Y
 have qd:=akh ha Y
 have ed:lx (qB a)=bH (lx a):=Yx a
 have ld:=Rv a
 have td:Ht (2^(t+4)) (lx<|qB a):=by rw[ed];exact(hA.bH (n:=9) (by rw[fj ha];omega) Y).le (by rw[jm,gA];exact gD _ S)
 have c1:=ah8 (k:=100000000) a Y (λi=>hA.qs (mO Y) i) Y Y
 generalize qB a=d at*
 have lift:∀{a b:G}{A:Rx},Ht (2^a) A->a<=b->Ht (2^b) A:=λQ Tw=>Q.le<|dD S Tw
 let ⟨g,c2,qg,gg⟩:=ZB (t:=t+4) (a:=a) (b:=d) Y ha qd h0 Y Y (lift hA Y) td
 obtain⟨c,ec⟩:∃c,c=(I a (Z a-1) 0)⁻¹ :=⟨_,J⟩
 have hc0:c≠0:=by rw[ec];exact uv<|ha.ne h0
 have eM:lx (dA a)=K c*lx a:=by rw[vE h0,ec]
 have gF:LC (lx g) (pF id s) (bH<|pF id s):=by let ⟨g1,g2,g3,AI,Cz,g4⟩:=gg;rw[hF,eM,Ly];rw[ed]at g3 g4;refine⟨g1,dE g2 _,dE g3 _,AI*K c⁻¹,Cz*K c⁻¹,?_⟩;have e1:AI*K c⁻¹ *(K c*lx a)+Cz*K c⁻¹ *(K c*bH (lx a))=(K c⁻¹ *K c)*(AI*lx a)+(K c⁻¹ *K c)*(Cz*bH (lx a)):=fC;rw[e1,qy hc0,c8,c8];exact g4
 let ⟨eg,_⟩:=asE T gF
 have eg:lx g=pF (kR 1) s:=eg
 have hkW:∀n m,1<=m->kW n m<=m:=λn m Q=>br (ags n m) Q
 have hkR:∀n m,1<=m->kR n m<=m:=λn m _=>Nat.sub_le _ _
 let ⟨g9,g0,tg,mg⟩:=W (hkR 1) qg eg
 have c4:=ZA (t:=t) (u:=t) (a:=dA a) (b:=g) Y Y (qC a) qg g0 Y g9 (by rw[<-hF];exact hD _ (yx T.mo)<|nO _) tg
 have ewq:lx (cV (dA a) g)=pF (kW 1) s:=yt mg.ne ((Am (qC a) qg g0<|hF▸gF.l).symm.trans<|by rw[<-hF,XD T,eg];rfl)
 have qw:=Av (dA a) g
 generalize cV (dA a) g=w1 at*
 have run:∀(k n:G)(v X:E L)(N:E (E L×V)),n+k=Z a+1->1<=k->1<=n->bp v->bp X->lx v=pF (kW n) s->lx X=pF (kR n) s->∃B,Fb k n v X N (N++B)/\B.map (λp=>(lx p.1,p.2))=pV s k n/\∀p∈B,bp p.1:=by
  intro k;induction k with
  |zero=>intro n v X N _ Q;omega
  |succ k ih=>
   intro n v X N hnk _ hn j hy ew ey
   let ⟨w9,w0,tw,mw⟩:=W (hkW n) j ew
   let ⟨y9,y0,ty,my⟩:=W (hkR n) hy ey
   by_cases hc:1<Z v
   .obtain⟨x,P,hxn⟩:∃x∈s,n<=x.2:=fe λlz=>by
     have e1:pF (kW n) s=1:=QI λx P=>y λQ=>lz ⟨x,P,Q⟩
     rw[e1]at ew;have:=fj j;rw[ew,s6]at this;omega
    have DT:=YH T P;let ⟨p,d1,qp,gp⟩:=ZB (t:=t) (a:=v) (b:=X) Y j hy w0 w9 y9 tw ty;rw[ew,ey]at gp;have ep:=awW T gp;let ⟨p9,p0,tp,mp⟩:=W (hkW<|n+1) qp ep;have d2:=ZA (t:=t) (u:=t) Y Y j qp p0 w9 p9 tw tp;have d3:=ZA (t:=t) (u:=t) Y Y hy qp p0 y9 p9 ty tp;have eg2:lx (cV v p)=pF (kP n) s:=yt mp.ne ((Am j qp p0<|by rw[ew];exact gp.l).symm.trans<|by rw[ew,ep];exact XC n s);have ez:lx (cV X p)=pF (kR<|n+1) s:=yt mp.ne ((Am hy qp p0<|by rw[ey];exact gp.r).symm.trans<|by rw[ey,ep,dk<|pF (kR<|n+1) s];exact akg n s);have qg2:=Av v p;have qz:=Av X p;generalize cV v p=f at*;generalize cV X p=z at*;let ⟨B,o1,o2,o3⟩:=ih (n+1) p z (if 1<Z f then N++[(f,(n:V))]else N) Y Y Y qp qz ep ez;have Vr:sz (pF (kP n) s)=Z f:=by rw[<-eg2,fj qg2]
    refine⟨(if 1<Z f then[(f,(n:V))]else[])++B,?_,?_,?_⟩
    .rw[Fb,q hc];refine⟨p,f,z,d1,d2,d3,?_⟩;by_cases C:1<Z f
     .rw[q C]at o1⊢;rw[q C,<-nt];exact o1
     .rw[y C]at o1⊢;rw[y C];exact o1
    .rw[pV,gf,o2,Vr];by_cases C:1<Z f
     .rw[q C,q C,gX,Fa,eg2]
     .rw[y C,y C];rfl
    .intro jA o;rcases bl.1 o with o|o
     .by_cases C:1<Z f
      .rw[q C,iW]at o;rw[o];exact qg2
      .rw[y C]at o;cases o
     .exact o3 jA o
   .have lz:∀x∈s,x.2<n:=λx P=>QE λQ=>by have C:=k9 (LB (c:=kW n) P<|by rw[QJ.2 Q];omega) (yx T.mo).ne;have h2:=(T.gJ x P).1;rw[<-ew,fj j]at C;omega
    refine⟨[],?_,by rw[YF _ lz];rfl,λp hp=>by cases hp⟩;rw[Fb,y hc,ji]
 let ⟨H,o1,o2,o3⟩:=run (Z a) 1 w1 g [] Y Y Y qw qg ewq eg
 exact⟨H,awY a w1 g H la h2 c1 c2 (Me (k:=100000000) a Y (λi=>hA.qs (mO Y) i) (λ_=>ha.ne h0) Y) c4 o1,o2,o3⟩
open Classical in
def nf(b:E L):E (E L):=if d:∃a,((∀u∈a,I u (Z u-1) 0=1/\bp u/\Mo (lx u)/\bD (lx u))/\pW a=lx b)/\w O 141 [e .q b] (e (.sl .q) a)then Ak d else[]
def akm{a}(d:kA a)(g:∀i,QS 20 (I a i 0)):((∀u∈nf a,I u (Z u-1) 0=1/\bp u/\Mo (lx u)/\bD (lx u))/\pW (nf a)=lx a)/\w O 141 [e .q a] (e (.sl .q)<|nf a):=by let ⟨G,k,g2,l⟩:=awO d g;have f:∃b,((∀u∈b,I u (Z u-1) 0=1/\bp u/\Mo (lx u)/\bD (lx u))/\pW b=lx a)/\w O 141 [e .q a] (e (.sl .q) b):=⟨_,d.unG k g2,l⟩;unfold nf;rw[dif_pos f];exact yq f
def aw2{ir:E L->E (E L)}{a}{i}(d:i<Z a):hY ir (r (i+1) a)=hY ir (r i a)++(ir (I a i AE).1).map (λu=>(u,(I a i AE).2))/\∃C,hY ir a=hY ir (r (i+1) a)++C:=by
 have b:r (i+1) a=r i a++[I a i AE]:=by rw[vj,aO,df d];rfl
 refine⟨?_,hY ir<|az (i+1) a,?_⟩
 .rw[b,hY,hY,Gu];simp
 .rw[hY,hY,hY,<-Gu,uX]
def aw3{a:E L}(g:pX a):∃N,aiQ a N/\Z N<=8/\(∀x∈N,Ix 20 x)/\w O 87 [e .q a] (.t [(ae,av .q<|I a (Z a-1) 0),(ah,[.S UT N]),(ah,[.I .i64 0])]):=by
 let ⟨So,hL,K⟩:=Rx.agr _ (Rx.lx<|dA a) (dV _) g.mo;let ⟨out,o1,o2,o3⟩:=awZ (t:=1500) Y g.can g.ne g.l9 g.hA hL K<|λD hD hd=>(g.ht hD<|K▸hd).le<|Rx.RO 1500 (k:=600) S;let ⟨p1,Q,p3,p4,p5,p6⟩:=g.au6 (ir:=nf) (λq g hq=>(akm g hq).1) hL K o2 o3;let ⟨a1,a2⟩:=Zy _ (hY nf out) J;refine⟨tn<|hY nf out,⟨λx T=>p4 x<|a1.mem_iff.1 T,by rw[auZ a1,p5],a1.symm.pairwise p6 (λg W=>g W.symm),awK a2⟩,by rw[a1.length_eq];exact Q,λx T=>p3 x<|a1.mem_iff.1 T,?_⟩;refine aK Tryz.func87 ?_;have la:=cF.2 g.ne;have l9:=g.l9;have hol:Z out<=9:=by have h1:=ai2 (L:=So) (Z a) 1;rw[<-o2,dj]at h1;omega
 refine U J<|h<|U J<|F J (λh1=>?_)<|λ_=>aE ?_
 .exfalso;have h1:((Z a:V)==0)=ae:=h1;have:=dw h1;omega
 refine h<|U J<|F J (λh1=>?_)<|λ_=>aE ?_
 .exfalso;have h1:(Z a:V)>13:=aV h1;omega
 refine R<|rl UT [] J J (M J<|bQ J J o1 J<|h<|U J<|ay<|bq (α:=G) (λi=>⟨[(0,e .q a),(2,.c<|.P 0 0),(5,e UT<|tn<|hY nf<|r i out),(6,e UT out),(7,c i)],[(0,.box 44 0 [.B ah,.V<|.slice none 0 0,.B ah,.V<|.slice none 0 0])],20,[]⟩) (λi=>i<=Z out) (λi=>Z out-i) 0 (bg _) (wk ⟨sR J,sR J,sE J J,sR J,sR J,j⟩ ⟨bE J J,j⟩) ?_);intro i hi;refine h<|U J<|F J (λh1=>?_)<|λh1=>?_
 .have h1:i<Z out:=by have h1:(i:V)<(Z out:V):=aV h1;omega
  have X:i+1<=Z out:=h1;have o:(I out (af<|(i:V))<|ET.eP UT)=I out i AE:=bm (λz=>I out z AE)<|cC i;let ⟨g1,g2,g3⟩:=p1 (I out i AE) Sl;have v:=(akm g1 g2).2;let ⟨n,C,hC⟩:=aw2 (ir:=nf) h1;rw[<-o]at v n;generalize N5:nf (I out (af<|(i:V))<|ET.eP UT).1=us at*;generalize hm:(I out (af<|(i:V))<|ET.eP UT).2=m at*;have lA:Z us<=8:=by have h3:=Q;rw[hC,n,iV,iV,dj]at h3;omega
  refine aE<|h<|ay<|R<|rc J J v (M J<|U J<|ay<|bq (α:=G) (λb=>⟨[(0,e .q a),(2,.c<|.P 0 0),(5,e UT<|tn<|hY nf (r i out)++(r b us).map λu=>(u,m)),(6,e UT out),(7,c i),(8,e (.sl .q) us),(9,c b)],[(0,.box 44 0 [.B ah,.V<|.slice none 0 0,.B ah,.V<|.slice none 0 0])],30,[]⟩) (λb=>b<=Z us) (λb=>Z us-b) 0 (bg _) (wk ⟨sR J,sR J,sE J ?_,sR J,sR J,sR J,sR J,j⟩ ⟨bR J,j⟩) ?_) (hp:=aH)
  .rw[HJ,Fa,ji]
  intro b hj;refine h<|U J<|F J (λl=>?_)<|λl=>?_
  .have l:b<Z us:=by have l:(b:V)<(Z us:V):=aV l;omega
   have A:(I us (af<|(b:V))<|ET.eP<|.sl .q)=us.getD b []:=bm (λz=>us.getD z [])<|cC b;have htk:r (b+1) us=r b us++[us.getD b []]:=by rw[vj,aO,df l];rfl
   have s:∀y∈hY nf (r i out)++us.map (λu=>(u,m)),Ix 20 y:=λy p=>p3 y (by rw[hC,n];exact eT _ p)
   have H:∀y∈hY nf (r i out)++(r b us).map (λu=>(u,m)),Ix 20 y:=λy p=>s y (by
    rcases bl.1 p with p|p
    .exact eT _ p
    .obtain⟨u,hu,rfl⟩:=kd.1 p;exact gO _<|Sf (f:=λu=>(u,m))<|Ho hu)
   have hlen:Z (hY nf (r i out)++(r b us).map (λu=>(u,m)))<=8:=by have h3:=Q;rw[hC,n,iV,iV,dj]at h3;rw[iV,dj,iC];omega
   let ⟨b1,_⟩:=Zy _ (hY nf (r i out)++(r b us).map (λu=>(u,m))) J;have d:=avZ (tn<|hY nf (r i out)++(r b us).map (λu=>(u,m))) (us.getD b [],m) (by rw[b1.length_eq];omega) (s _<|gO _<|Sf (f:=λu=>(u,m))<|by rw[aO,df l];exact sx l)<|λy p=>H y<|b1.mem_iff.1 p;have d:w O 142 [e UT (tn<|hY nf (r i out)++(r b us).map (λu=>(u,m))),.a<|av UT (us.getD b [],m)] (e UT<|tn<|hY nf (r i out)++(r (b+1) us).map (λu=>(u,m))):=by rw[htk,gf,<-nt,gX,Fa,akb];exact d
   have d:w O 142 [e UT (tn<|hY nf (r i out)++(r b us).map (λu=>(u,m))),.a<|av UT (I us (af<|(b:V))<|ET.eP<|.sl .q,(I out (af<|(i:V))<|ET.eP UT).2)] (e UT<|tn<|hY nf (r i out)++(r (b+1) us).map (λu=>(u,m))):=by rw[A,hm];exact d
   refine aE<|h<|ay<|cG<|rc J J d (M J<|bP<|rt J (hp:=aH)<|a4 (b+1) l (Y:Z us-(b+1)<Z us-b) aN) (hp:=aH)
  .have l:b=Z us:=by have l:¬(b:V)<(Z us:V):=bc l;omega
   subst l;rw[iG,<-n];exact bs<|bP<|rt J (hp:=aH)<|a4 (i+1) X (Y:Z out-(i+1)<Z out-i) aN
 .have h1:i=Z out:=by have h1:¬(i:V)<(Z out:V):=bc h1;omega
  subst h1;rw[iG];refine bs<|aS<|U J (hp:=aH)<|cv J ?_;have W:af ((Z a:V)-1)=Z a-1:=Y;show AV.t [(ae,av .q<|I a (af<|(Z a:V)-1) 0),(ah,[C.S UT (tn<|hY nf out)]),(ah,[.I .i64 0])]=_;rw[W]
def Sz:E (E L×V)->Bool
 |[x]=>x.2==1
 |_=>ah
def aw5{a}(b:Z a≠1):Sz a=ah:=by
 match a with
 |[]=>rfl
 |[x]=>exact aF J b
 |x::y::l=>rfl
def aw6{a:E L}{b:E (E L×V)}{z:L}(d:w O 87 [e .q a] (.t [(ae,av .q z),(ah,[.S UT b]),(ah,[.I .i64 0])])):w O 33 [e .q a] (cB<|Sz b):=by
 refine aK Tryz.func33 ?_;refine U J<|bQ J J d J<|R<|rg 14 J J (λ_=>rg 19 J J (λh=>?_)<|λh=>?_)<|λh=>gL
 .have h:(Z b:V)=1:=dw h;obtain⟨x,rfl⟩:=List.length_eq_one_iff.1 (Y:Z b=1);exact M J<|cv J J
 .have h:(Z b:V)≠1:=pN h;exact M J<|cv J<|bm cB (aw5 Y).symm
def aw7{a}(b:bp a):gI a=a:=nP (jV a) b<|uu a
structure Ff(l:E V):Prop where
 l4:l.length<=4
 sm:∀x∈l,-128<=x/\x<=127
def ZC(l:E V):I (l++[1]) (Z l) 0=1:=by simp[aO]
def ZD l:bp ((l++[1]).map iQ):=ai3 (n:=Z l) au<|ZC l
def akn{l}(b:Ff l) i:∃z:V,aC z<=128/\I ((l++[1]).map iQ) i 0=(z:L):=by
 have:=E5 (l++[1]) i;rw[dN]at this;refine⟨_,?_,this⟩;rw[aO];cases hx:(l++[1])[i]? with
 |none=>decide
 |some x=>
  have a:=Ol hx
  rcases bl.1 a with a|a
  .have:=b.sm x a;show aC x<=128;omega
  .have:x=1:=by simpa using a
   subst this;decide
def ako{l}(a:Ff l):Ht (2^7) (lx<|(l++[1]).map iQ):=⟨1,S,S,λi=>by let ⟨z,b,h2⟩:=akn a i;exact⟨z,b,by rw[dN,h2];exact rG _⟩⟩
def aw8{l}(a:Ff l) i:QS 1 (I ((l++[1]).map iQ) i 0):=(ako a).qs (mO S) i
def akp l(a:Ff l):yE (l++[1]) 4=(l++[1]).map iQ:=by rw[yE,jM (by rw[iV,qn];have:=a.l4;omega),aw7<|ZD l]
structure cZ(m:E L):Prop where
 can:bp m
 top:m.getD (m.length-1) 0=1
 l2:2<=m.length
 l5:m.length<=5
 gJ:bD (lx m)
 ht:Ht (2^7) (lx m)
def cZ.of{l}(a:Ff l)(b:l≠[])(d:bD (lx<|(l++[1]).map iQ)):cZ ((l++[1]).map iQ):=by have f:=cF.2 b;have g:=a.l4;refine⟨ZD l,?_,cd,cd,d,ako a⟩;have:=E5 (l++[1])<|Z l;rw[dN,ZC]at this;rw[dj,iV,qn,eL,this];rfl
def aw9{a}{b}(f:aiQ a b)(g:I a (Z a-1) 0=1)(m:bp a)(i:a≠[])(d:Sz b=ae):bD (lx a):=by
 match b,d with
 |[x],d=>
  have k:x.2=1:=dw d
  have e:=f.prod
  let ⟨_,i2,_⟩:=f.ok x au
  rw[iS,iS,k,Rx.fO]at e
  have l:lx (dA a)=lx a:=by rw[vE i,g,(SA:(1:L)⁻¹ =1),lU,Rx.c8]
  rw[l,show af (1:V)=1 from J,sZ]at e
  rw[<-e];exact i2
def aw'{l}(h:Ff l):∃v:Bool,w O 32 [cS .q ((l++[1]).map iQ)] (cB v)/\(v=ae->l≠[]/\bD (lx<|(l++[1]).map iQ)):=by
 have C:=h.l4;have b:Z ((l++[1]).map iQ)=Z l+1:=au;have a:I ((l++[1]).map iQ) (Z ((l++[1]).map iQ)-1) 0=1:=by have:=E5 (l++[1])<|Z l;rw[dN,ZC]at this;rw[b,eL,this];rfl
 have n:=ZD l;have p:=aw8 h;have s:=akn h;generalize hm:(l++[1]).map iQ=m at*;have x:m≠[]:=λe=>by subst e;cases b
 have t:=avX (k:=1) S m Y (by rw[a];decide) p x;by_cases B:l=[]
 .refine⟨ah,?_,λe=>x6⟩;subst B;refine aK Tryz.func32 ?_;refine U J<|bI<|R<|rc J J t<|rg 6 J J (λh=>gL)<|λ_=>(rg 11 J J (λ_=>M J<|F J (λ_=>U J<|bX<|cY<|atR J)<|λh=>gL)<|λg=>?_);have g:¬(Z m:V)<2:=bc g;rw[qT]at b;exact aF g Y
 have H:=cF.2 B;have K:pX m:=avk n x Y (D:=1) S S λi=>by let ⟨z,N,g⟩:=s i;exact⟨z,br N S,by rw[g];exact rG _⟩
 let ⟨fs,f1,_,_,f4⟩:=aw3 K;have u:=aw6 f4;refine⟨Sz fs,?_,λP=>⟨B,aw9 f1 a n x P⟩⟩;have d:=Im m x Y;rw[a]at d;have f:=RI (k:=1) (1:L) 1 (by have:=p<|Z m-1;rwa[a]at this) S;rw[rA J]at f;have Q:=nH 1 S S;refine aK Tryz.func32 ?_;refine U J<|bI<|R<|rc J J t<|rg 6 J J (λh=>gL)<|λ_=>(rg 11 J J (λg=>?_)<|λg=>?_)
 .have g:(Z m:V)<2:=aV g;exact aF g Y
 refine M J<|F J (λA=>?_)<|λA=>aE ?_
 .have A:(Z m:V)>9:=aV A;exact aF A Y
 exact R<|rc J J d<|rc J J Q<|rc J J f<|rg 20 J J (λ_=>jF J J J J J u<|M J<|cN J)<|λh=>gL
def a6.get_at{g:Gh}:∀{b:E C}{vs:E Value}{j:G}{d:C},a6 g b vs->b[j]? =ad d->∃v,de g d v
 |[],_,_,_,_,a=>by cases a
 |_::_,_,0,_,⟨v,_,_,f,_⟩,a=>by cases a;exact⟨v,f⟩
 |_::_,_,j+1,_,⟨_,_,_,_,h2⟩,a=>a6.get_at (j:=j) h2 a
def axa{P}{n}{Q}(t p:G){T}{xs}{b}{i}{d}{mem}{k}{l}(hl:o t d=ad (.a b))(s:b[p]? =ad (.S T xs))(u:Z xs*T.n<=140737488355328->TR P n i ⟨d,mem,k,l⟩ Q):TR P n i ⟨d,mem,k,l⟩ Q:=by intro F x g W a m;have z:bh g (.a b) (a.tmps.getD t undef):=m.dW t (.a b) Df;let ⟨_,_,h2⟩:=z;let ⟨v,f⟩:=a6.get_at h2 s;have f:de g (.S T xs) v:=f;let ⟨_,_,_,_,A,_⟩:=f;exact u A F x g W a m
def t8(x:V):V:=x.tmod 8
def axb x: -7<=t8 x/\t8 x<=7:=by unfold t8;rw[Int.tmod_eq_emod];split<;>omega
def Mz:E (E V):=[[-2,0,1],[1,0,1],[-2,0,0,1],[1,1,1],[-1,-1,0,1],[1,0,0,0,1],[1,0,-10,0,1],[-3,1]]
def CE{l b}(f:Z l<=4)(d:∀x∈l,-128<=x/\x<=127)(g:l≠[])(i:b=l++[1])(k:bD (lx<|b.map iQ)):cZ (yE b 4)/\∀x∈b,-128<=x/\x<=127:=by
 subst i;rw[akp l ⟨f,d⟩];refine⟨cZ.of ⟨f,d⟩ g k,λx a=>?_⟩;rcases bl.1 a with a|a
 .exact d x a
 .have:x=1:=by simpa using a
  subst this;decide
def axc{i}(a:i<8):cZ (yE (Mz.getD i []) 4)/\∀x∈Mz.getD i [],-128<=x/\x<=127:=by
 have:i=0\/i=1\/i=2\/i=3\/i=4\/i=5\/i=6\/i=7:=Y;rcases this with rfl|rfl|rfl|rfl|rfl|rfl|rfl|rfl
 .exact CE (l:=[-2,0]) S S S J au'
 .exact CE (l:=[1,0]) S S S J ava
 .exact CE (l:=[-2,0,0]) S S S J avb
 .exact CE (l:=[1,1]) S S S J avc
 .exact CE (l:=[-1,-1,0]) S S S J avd
 .exact CE (l:=[1,0,0,0]) S S S J ave
 .exact CE (l:=[1,0,-10,0]) S S S J avf
 .exact CE (l:=[-3]) S S S J avg
def axd k(b:E V)(t:0<=k/\k<=255)(T:∀x∈b,-128<=x/\x<=127):∃m,cZ m/\w O 11 [.a [.I .u8 k,.S I8 b]] (cS .q m):=by
 have s:Ff ((r 4 b).map t8):=⟨Iq,λx g=>by obtain⟨C,_,rfl⟩:=kd.1 g;have:=axb C;omega⟩;let ⟨v,qu,zI⟩:=aw' s;have n:=aim ((r 4 b).map t8++[1]) 4 S (λx g=>by
  rcases bl.1 g with g|g
  .exact s.sm x g
  .have:x=1:=by simpa using g
   subst this;decide)
 rw[akp _ s]at n;have u:af ((k.tdiv 2).tmod 8)<8:=by rw[wP t.1,k5 Y];omega
 let ⟨z,D⟩:=axc u;have l:=aim (Mz.getD (af<|(k.tdiv 2).tmod 8) []) 4 S D;obtain⟨m,p⟩:∃m,m=if k.tmod 2=0/\v=ae then((r 4 b).map t8++[1]).map iQ else yE (Mz.getD (af<|(k.tdiv 2).tmod 8) []) 4:=⟨_,J⟩
 refine⟨m,?_,?_⟩
 .rw[p];split
  next h=>let ⟨H,h2⟩:=zI h.2;exact cZ.of s H h2
  .exact z
 clear zI z;generalize ((r 4 b).map t8++[1]).map iQ=W at*;refine aK Tryz.func11<|axa 0 1 J J λA=>?_;have A:Z b*1<=140737488355328:=A;refine U J<|R<|gV I8 [] J J (M J<|kp ⟨[(1,.c<|.P 0 0),(3,.c<|.X 1000000)],[(1000000,.vec 53 I8<|(r 4 b).map t8),(0,.box 24 0 [.I .u8 k,.S I8 b])],10,[]⟩ ?_<|λd=>U J ?_);rotate_left
 .refine ay<|bq (α:=G) (λi=>⟨[(1,.c<|.P 0 0),(3,.c<|.X 1000000),(4,c i)],[(1000000,.vec 53 I8<|(r i b).map t8),(0,.box 24 0 [.I .u8 k,.S I8 b])],3,[]⟩) (λi=>i<=Z b/\i<=4) (λi=>Z b-i) 0 ⟨bg _,S⟩ aN ?_;rintro i ⟨o,K⟩;refine bI (R<|rg 13 J J (λh=>?_)<|λh=>?_)
  .have h:i<Z b:=by have h:(i:V)<(Z b:V):=aV h;omega
   refine M J<|F J (λh2=>?_)<|λh2=>?_
   .have h2:i<4:=by have h2:(i:V)<4:=aV h2;omega
    have f:=RY t8 0 b i h;rw[show I b i 0=I b (af (i:V)) I8.eP by rw[cC]]at f;refine aE<|bI<|ay<|cG<|rl I8 [t8 (I b (af (i:V)) I8.eP)] J J (ra J J J J J J J J J ?_ ?_<|M J ?_) (hp:=aH)
    .show(_+1+(_+1)/4+192)*1<=_;simp only[dj,iC];omega
    .show(_+1)*1<=_;simp only[dj,iC];omega
    .refine bP (rt J (hp:=aH)<|a4 (i+1) ⟨h,h2⟩ (Y:Z b-(i+1)<Z b-i)<|Wk.trans (wk (st':=⟨[(1,.c<|.P 0 0),(3,.c<|.X 4008000),(4,c ((i+1:G):V))],[(4008000,.vec 53 I8<|(r (i+1) b).map t8),(0,.box 24 0 [.I .u8 k,.S I8 b])],6,[]⟩) ⟨sR J,sR J,sE J ?_,j⟩ ⟨bE J ?_,bR J,j⟩)<|Wk.trans (gZ 1000000 4008000 J J J) aN)
     .rfl
     .rw[f]
   .have h2:i=4:=by have h2:¬(i:V)<4:=bc h2;omega
    subst h2;exact bs<|eD d aN
  .have h:i=Z b:=by have h:¬(i:V)<(Z b:V):=bc h;omega
   refine M J<|F J (λh2=>pO)<|λ_=>?_;have e:r i b=r 4 b:=by rw[jM Y,jM Y]
   exact bs<|eD d<|wk (bK J) ⟨⟨_,J,mb.of_eq xU⟩,bR J,j⟩
 refine R<|rl I8 [1] J J (ra J J J J J J J J J ?_ ?_<|M J ?_)
 .show(_+1+(_+1)/4+192)*1<=_;simp only[dj,iC];omega
 .show(_+1)*1<=_;simp only[dj,iC];omega
 refine dv 10002000 J J J<|R<|rc J J n<|M J<|afk (λ_:Unit=>⟨[(1,.c<|.P 0 0)],[(0,.box 24 0 [.I .u8 k,.S I8 b])],20,[]⟩) (λ_=>¬(k.tmod 2=0/\v=ae)) (λ_ N=>?_)<|λd=>R<|rg 37 J J (λh=>?_)<|λh=>?_;rotate_left
 .have h:k.tmod 2=0:=dw h;refine jF J J J J J qu<|M J ?_;cases v with
  |true=>
   rw[q ⟨h,J⟩]at p
   exact F J (λ_=>U J<|bX<|cY<|fK J<|by rw[p])<|λh=>gL
  |false=>exact F J (λh=>gL)<|λ_=>di<|eD (d ()<|λh=>by cases h.2) aN
 .have h:k.tmod 2≠0:=xl h;exact M J<|F J (λh=>gL)<|λ_=>di<|eD (d ()<|λQ=>h Q.1) aN
 refine R<|rl I8 [-2,0,1] J J (rl I8 [1,0,1] J J (rl I8 [-2,0,0,1] J J (rl I8 [1,1,1] J J (rl I8 [-1,-1,0,1] J J (rl I8 [1,0,0,0,1] J J (rl I8 [1,0,-10,0,1] J J (rl I8 [-3,1] J J (rl (.sl I8) Mz J J<|M J ?_))))))));rw[y N]at p;rw[<-p]at l;have B:IntKind.u8.wrap (k.tdiv 2)=k.tdiv 2:=by rw[wP t.1];simp only[IntKind.wrap,IntKind.bits,IntKind.signed];simp;omega
 rw[<-B]at l;refine R<|rc J J l (M J<|cN J) (hp:=?_);have L:0<=(k.tdiv 2).tmod 8:=by rw[wP t.1,k5 Y];omega
 simp only[Pr.an,Pr.h,num,ia,true_and,and_true];rw[B];show(2≠0/\8≠0)/\0<=(k.tdiv 2).tmod 8/\(k.tdiv 2).tmod 8<8;omega
def akq{m:E L}(g:2<=Z m)(i:Z m<=5)(x:E (V×V×V))(a:∀b∈x,o0 b):w O 12 [e RW x,e .q m] (e .q<|yG x<|Z m-2):=by
 refine aK Tryz.func12 ?_;have d:((Z m:V)-2)=((Z m-2:G):V):=Y;have f:w O 28 [e RW x,c<|(Z m:V)-2] (e .q<|yG x<|Z m-2):=by rw[d];exact avi x (Z m-2) Y a
 exact U J<|R<|rc J J f (M J<|cN J) (hp:=aH)
end Go.El
namespace Go.El
open Go Go.Proofs Go.RowKit
def SB{a:Type}(n:G)(f:G->a):a:=Nat.rec (motive:=λ_=>a) (f 0) (λk _=>f<|Nat.add k 1) n
def ZE{a:Type} n(f:G->a):SB n f=f n:=by cases n<;>rfl
def ZF{a:Type}(x:V)(f:V->a):a:=Int.rec (motive:=λ_=>a) (λn=>SB n<|λm=>f<|ZG m) (λn=>f<|Int.negSucc n) x
def axe{a:Type} x(f:V->a):ZF x f=f x:=by
 cases x with
 |ofNat n=>exact ZE n<|λm=>f<|ZG m
 |negSucc n=>rfl
def MA{a:Type}(l:E V):(E V->a)->a:=List.rec (motive:=λ_=>(E V->a)->a) (λf=>f []) (λx _ b f=>ZF x<|λy=>b<|λt=>f<|y::t) l
def SC{a:Type}:∀(l:E V)(f:E V->a),MA l f=f l
 |[],_=>rfl
 |x::l,f=>by show ZF x (λb=>MA l<|λt=>f<|b::t)=_;rw[axe,SC l]
def ZH:E C->aw (E V)
 |[]=>ad []
 | .I .u64 n::a=>(match ZH a with
  |some l=>ad<|n::l
  |none=>none)
 |_=>none
def SD(a:Ms):C->aw (E V)
 | .S (.int .u64) xs=>ad xs
 | .V (.slice none 0 0)=>ad []
 | .L id off len _=>(match bO id a with
  |some (.box _ _ cs)=>ZH<|(az off cs).take len
  |some (.fz _ cs)=>ZH<|(az off cs).take len
  |_=>none)
 |_=>none
def Fg(p x:V):Bool:=decide (0<=x)&&decide (x<p)
def ZI(p:V)(l:E V):Bool:=l.all<|Fg p
def akr{p}(a:0<p){l}(b:ZI p l=ae):rp p l:=by
 intro i;rw[aO];cases hl:l[i]? with
 |none=>exact⟨iZ _,a⟩
 |some x=>
  have:=nY.1 b x<|Ol hl
  simp[Fg]at this
  exact this
def aks:E AV->aw (E AV×AV)
 |[.c (.I .u64 a),.c<|.I .u64 n,.c<|.I .u64 p]=>(match Fg 18446744073709551616 a&&Fg 18446744073709551616 n&&decide (0<p)&&decide (p<=4294967296)with
  |true=>SB (wX (af a) (af n)<|af p)<|λb=>ad ([cU a,cU n,cU p],cU<|ZG b)
  |false=>none)
 |_=>none
def akt:E AV->aw (E AV×AV)
 |[.c (.I .u64 a),.c<|.I .u64 p]=>(match Fg p a&&decide (a≠0)&&decide (2<=p)&&decide (p<=2147483648)with
  |true=>SB (jR (af a)<|af p)<|λb=>ad ([cU a,cU p],.t [(ah,[.I .u64 (ZG b)]),(ah,[.I .i64 0])])
  |false=>none)
 |_=>none
def SE(a b:E V)(p:V):Bool:=Nat.ble (Z a) 1000&&Nat.ble (Z b) 1000&&decide (2<=p)&&decide (p<=2147483648)&&ZI p a&&ZI p b
def aku(d:Ms):E AV->aw (E AV×AV)
 |[.a [x,.I .u64 p],.a [f,.I .u64 g]]=>(match SD d x,SD d f with
  |some a,ad b=>(match decide (p=g)&&SE a b p with
   |true=>MA (db a b p)<|λl=>ad ([aP a p,aP b p],aP l p)
   |false=>none)
  |_,_=>none)
 |_=>none
def akv(d:Ms):E AV->aw (E AV×AV)
 |[.a [x,.I .u64 p],.a [f,.I .u64 g]]=>(match SD d x,SD d f with
  |some a,ad b=>(match decide (p=g)&&SE a b p&& !a.isEmpty&& !b.isEmpty&&decide (List.getD b (Z b-1) 0≠0)with
   |true=>MA (aW a b p).1<|λl=>MA (aW a b p).2<|λi=>ad ([aP a p,aP b p],.t [(ae,[.S ar l,.I .u64 p]),(ae,[.S ar i,.I .u64 p])])
   |false=>none)
  |_,_=>none)
 |_=>none
def ZJ(f:FuncId)(vs:E AV)(a:Ms):aw (E AV×AV):=
 match jk f 301 with
 |true=>aks vs
 |false=>(match jk f 291 with
  |true=>akt vs
  |false=>(match jk f 292 with
   |true=>aku a vs
   |false=>(match jk f 264 with
    |true=>akv a vs
    |false=>none)))
def akw{a b}{p}(d:SE a b p=ae):Z a<=1000/\Z b<=1000/\2<=p/\p<=2147483648/\rp p a/\rp p b:=by simp only[SE,cP,nr]at d;let ⟨⟨⟨⟨⟨f,h2⟩,g⟩,i⟩,k⟩,l⟩:=d;exact⟨c7 f,c7 h2,g,i,akr Y k,akr Y l⟩
def axf:∀f vs u g k,ZJ f vs u=ad (g,k)->w O f g k:=by
 intro f vs u g k h;unfold ZJ at h;split at h
 .rename_i i;rw[mi i];unfold aks at h;split at h
  .rename_i a n p;split at h
   next d=>simp[Fg]at d;rw[ZE]at h;cases h;have:=afB (af a) (af n) (af p) Y Y Y Y;rwa[xS (by omega:0<=a),xS (by omega:0<=n),xS (by omega:0<=p)]at this
   .cases h
  .cases h
 .split at h
  .rename_i i;rw[mi i];unfold akt at h;split at h
   .rename_i a p;split at h
    next d=>simp[Fg]at d;rw[ZE]at h;cases h;exact afG a p Y Y Y Y
    .cases h
   .cases h
  .split at h
   .rename_i i;rw[mi i];unfold aku at h;split at h
    .rename_i x p y q;split at h
     .rename_i a b _ _;split at h
      next d=>simp at d;let ⟨l,h2,v,m,s,t⟩:=akw d.2;rw[SC]at h;cases h;exact ar5 a b p l h2 Y m s t
      .cases h
     .cases h
    .cases h
   .split at h
    .rename_i i;rw[mi i];unfold akv at h;split at h
     .rename_i x p y q;split at h
      .rename_i a b _ _;split at h
       .rename_i d;simp at d;let ⟨⟨⟨⟨_,d⟩,A⟩,z⟩,hl⟩:=d;let ⟨l,h2,v,m,s,t⟩:=akw d;rw[SC,SC]at h;cases h;cases a with
        |nil=>simp at A
        |cons x B=>exact ar9 x B b p J l h2 v m s t (by intro e;rw[e]at z;simp at z) hl
       .cases h
      .cases h
     .cases h
    .cases h
end Go.El
end
