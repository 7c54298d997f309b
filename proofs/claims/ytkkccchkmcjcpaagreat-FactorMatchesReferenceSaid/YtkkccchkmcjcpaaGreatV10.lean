/- Contracts: integers of known size; integer polynomials of the reference. Own work; no condition. -/
import Derived.Test.YtkkccchkmcjcpaaGreatV7
import Derived.Test.YtkkccchkmcjcpaaGreatV9
import Derived.Test.YtkkccchkmcjcpaaGreatV6
set_option linter.all false
set_option maxHeartbeats 16000000
set_option maxRecDepth 100000
open Bool renaming true->ae,false->ah
open Go.El renaming rr->e,cS->N,vL->q,gy->L,cI->D,re->o,auI->z,y6->u,rb->t
open Go.IntKind renaming wrap->ao
open Go.Proofs.Tryz renaming prog->j
open Int renaming natAbs->aq,gcd->fh,ediv_mul_cancel->amL,mul_zero->Iz,le_of_eq->abB,natAbs_mul_self->am3
open List renaming getD->Y,length->G,range->be
open Nat renaming Coprime->M4,one_pos->Fs,dvd_mul_left_of_dvd->am8,blt->f',add_mul_div_right->anb
open Nat.Coprime renaming mul_right->amM
open Rat renaming divInt->iE,sub_eq_add_neg->amO,add_neg_cancel->amP
open _root_ renaming Nat->I,Int->Z,Rat->O,List->V
namespace Go.El
open Go Go.Proofs
def aw(n:I)(a:Z):Prop:=aq a<4294967296^n
def aw.sm{n}{a}(b:aw n a)(c:n<=1099511627776):Sm a:=by
 refine cQ (Ak (k:=n) ?_) c;have:((aq a:I):Z)<((4294967296^n:I):Z):=by have b:aq a<4294967296^n:=b;omega
 rwa[ot]at this
def aw.le{m n}{a}(b:aw m a)(k:m<=n):aw n a:=jD b<|fG A k
def aw.mul{m n}{a b}(c:aw m a)(k:aw n b):aw (m+n) (a*b):=by unfold aw at*;rw[qE,om];exact Lu c k
def aw.add{n}{a b}(c:aw n a)(k:aw n b):aw (n+1) (a+b):=by unfold aw at*;have:=MU a b;rw[fy];omega
def aw.neg{n}{a}(b:aw n a):aw n (-a):=by unfold aw at*;rwa[Int.natAbs_neg]
def aw.sub{n}{a b}(c:aw n a)(k:aw n b):aw (n+1) (a-b):=by rw[GZ];exact c.add k.neg
def aw.zero n:aw n 0:=by unfold aw;exact lN A
def aw.emod{n}{a m}(b:0<m)(c:aw n m):aw n (a%m):=by have d:=fS a (S:m≠0);have f:=gA a b;unfold aw at*;omega
def aw.ediv{n}{a m}(b:0<=a)(c:0<m)(d:aw n a):aw n (a/m):=by have f:=uh b (S:0<=m);have g:=KT m b;unfold aw at*;omega
def aw.lt{n}{a m}(b:0<=a)(c:a<m)(d:aw n m):aw n a:=by unfold aw at*;omega
def aw.one{a}(b:aq a<4294967296):aw 1 a:=by unfold aw;rwa[Nat.pow_one]
def aw.pow{n:I}{a:Z}(b:aw n a):∀k,aw (n*k+1) (a^k)
 |0=>by unfold aw;simp
 |k+1=>by rw[dK];exact((aw.pow b k).mul b).le (by rw[D3];omega)
def aa6 a b c v(g:∀i,aw c (Y a i 0))(l:∀i,aw v (Y b i 0)) n:∀k,k<=4294967296->aw (c+v+1) (lM (λi=>Y a i 0) (λi=>Y b i 0) n k):=by
 have d:∀k,aq (lM (λi=>Y a i 0) (λi=>Y b i 0) n k)<=k*4294967296^(c+v):=by
  intro k;induction k with
  |zero=>simp[lM]
  |succ k p=>
   have h:=(g k).mul<|l<|n-k
   unfold aw at h
   have m:=MU (lM (λi=>Y a i 0) (λi=>Y b i 0) n k)<|Y a k 0*Y b (n-k) 0
   rw[g7,iL]
   simp only[lM]
   omega
 intro k x;by_cases r:k=4294967296
 .subst r;unfold aw;have f:0<4294967296^(c+v):=lN A;have:∀k,aq (lM (λi=>Y a i 0) (λi=>Y b i 0) n k)<4294967296^(c+v)\/aq (lM (λi=>Y a i 0) (λi=>Y b i 0) n k)<k*4294967296^(c+v):=by
   intro k;induction k with
   |zero=>left;simp[lM];exact f
   |succ k p=>
    right
    have h:=(g k).mul<|l<|n-k
    unfold aw at h
    have m:=MU (lM (λi=>Y a i 0) (λi=>Y b i 0) n k)<|Y a k 0*Y b (n-k) 0
    have B:=d k
    rw[g7,iL]
    simp only[lM]
    omega
  rcases this 4294967296 with h|h
  .exact jD h<|fG A S
  .rwa[fy,fR]
 .have h:=d k;unfold aw;have f:0<4294967296^(c+v):=lN A;have m:k*4294967296^(c+v)<4294967296*4294967296^(c+v):=Lr S f;rw[fy,fR<|4294967296^(c+v)];omega
def aa7 a b g v(Q:G a<=1000)(R:G b<=1000)(F:g+v<=100000)(l:∀i,aw g (Y a i 0))(m:∀i,aw v (Y b i 0)):af j 43 [N .z a,N .z b] (N .z<|au<|mu a b):=by
 refine aD Tryz.func43 ?_;refine e J<|t<|gR .z [] J J (o J<|L<|e J ?_);generalize hA:(λi=>Y a i 0)=d;generalize p:(λi=>Y b i 0)=B;refine q<|aK (α:=I) (λn=>⟨[(0,N .z a),(1,N .z b),(5,.c<|.X 1000000),(6,D n)],[(1000000,.vec 44 .z<|(be n).map<|conv d B)],3,[]⟩) (λn=>n<=G a+G b-1) (λn=>G a+G b-n) 0 (aW _) aM ?_;intro n x;refine L<|e J ?_;refine z J (λh=>?_)<|λh=>?_
 .have h:n+1<G a+G b:=by have h:(n:Z)+1<G a+G b:=du;omega
  refine ai<|L<|q<|aO J J (kp 0 A A) J<|L<|e J ?_;refine q<|aK (α:=I) (λk=>⟨[(0,N .z a),(1,N .z b),(5,.c<|.X 1000000),(6,D n),(7,.c<|.P 4001000 0),(8,D k)],[(4001000,.box 44 0<|av .z<|lM d B n k),(1000000,.vec 44 .z<|(be n).map<|conv d B)],6,[]⟩) (λk=>k<=n+1) (λk=>n+1-k) 0 (aW _) (wk (aS J) ⟨bE J J,bR J,T⟩) ?_;intro k C;refine L<|e J ?_;refine z J (λh2=>?_)<|λh2=>?_
  .have h2:k<=n:=by have h2:(k:Z)<=n:=lj;omega
   have E:=aa6 a b g v l m n k S;rw[hA,p]at E;refine ai<|L<|q<|bs ?_;refine rc J J (G3 a k) ?_;refine rc J J (f:=115) (r:=aZ<|Y b (n-k) 0) (by have:=G3 b<|n-k;rw[(S:((n-k:I):Z)=(n:Z)-(k:Z))]at this;exact this) ?_;refine rc J J (lL (Y a k 0) (Y b (n-k) 0) ((l k).sm S)<|(m<|n-k).sm S) ?_;refine rc J J (zc (lM d B n k) (Y a k 0*Y b (n-k) 0) (E.sm S)<|((l k).mul<|m<|n-k).sm S)<|o J ?_;refine aT<|rt J<|aA (k+1) S (S:n+1-(k+1)<n+1-k)<|wk ⟨sR J,sR J,sR J,sR J,sR J,sE J J,T⟩ ⟨bE J ?_,bR J,T⟩;have H:lM d B n (k+1)=lM d B n k+Y a k 0*Y b (n-k) 0:=by simp only[lM,<-hA,<-p]
   rw[H];rfl
  .have h2:¬k<=n:=by have h2:¬(k:Z)<=n:=lj;omega
   have C:k=n+1:=S;subst C;refine aN<|ay ?_;refine bs<|rl .z [conv d B n] J J (ra J J J J J J J J J ?_ ?_<|o J ?_)
   .show(_+1+(_+1)/4+192)*32<=_;simp only[cL,uL];omega
   .show(_+1)*2<=_;simp only[cL,uL];omega
   refine aT<|rt J<|aA (n+1) S (S:G a+G b-(n+1)<G a+G b-n)<|Wk.trans (wk (st':=⟨[(0,N .z a),(1,N .z b),(5,.c<|.X 7003000),(6,D ((n+1:I):Z))],[(7003000,.vec 44 .z<|(be<|n+1).map<|conv d B)],9,[]⟩) ⟨sR J,sR J,sR J,sE J ?_,T⟩ ⟨bE J ?_,T⟩)<|Wk.trans (fp 1000000 7003000 J J J) aM
   .rfl
   .rw[nE,fe];rfl
 .have h:¬n+1<G a+G b:=by have h:¬(n:Z)+1<G a+G b:=du;omega
  have x:n=G a+G b-1:=S;refine aN<|ay<|cD 1000000 J J J<|aO J J (La _) J<|bq J ?_;unfold mu;rw[hA,p,<-x]
def aa8 a(p:I)(c:2<=p)(f:p<=2147483648)(d:Sm a):af j 89 [aZ a,cU p] (cU<|a%p):=by refine aD Tryz.func89 ?_;have b:=fS a (S:(p:Z)≠0);have g:=gA a (S:(0:Z)<p);refine e J<|t<|rc J J (kp p S S) (hp:=ak)<|rc J J (DK a p S d<|Sm.of S)<|o J ?_;refine aO J J (ajB (a%p) b S) J ?_;refine e J<|bq J<|bA ?_;exact wrap_u64 _ b S
def amG a(p:I)(c:2<=p)(f:p<=2147483648)(d:Sm a):af j 158 [aZ a,cU p] (cU<|a%p):=by refine aD Tryz.func158 ?_;have b:=fS a (S:(p:Z)≠0);have g:=gA a (S:(0:Z)<p);refine e J<|t<|rc J J (nL p S S) (hp:=ak)<|rc J J (v8 a p S d<|Sm.of S)<|o J ?_;refine aO J J (ake (a%p) b S) J ?_;refine e J<|bq J<|bA ?_;exact wrap_u64 _ b S
def S4 a(p:I)(r:G a<=1000)(b:2<=p)(g:p<=2147483648)(k:∀i,Sm (Y a i 0)):af j 96 [N .z a,cU p] (aP (au<|md p a) p):=by
 refine aD Tryz.func96 ?_;have l:=oU p a;refine e J<|t<|rm u (G a) J J J J J J (kH .u64) J ?_ ?_<|o J<|L<|e J ?_
 .show _*8<=_;omega
 .show _*1<=_;omega
 refine q<|aK (α:=I) (λi=>⟨[(0,N .z a),(1,cU p),(4,.c<|.P 0 0),(5,.c<|.X 1002000),(11,D<|G a),(12,D i)],[(0,.box 101 0 [.V (.slice none 0 0),.I .u64 0]),(1002000,.vec 25 u<|(md p a).take i++List.replicate (G a-i) 0)],3,[]⟩) (λi=>i<=G a) (λi=>G a-i) 0 (aW _) (wk (aS J) ⟨bE J J,bE J ?_,T⟩) ?_
 .simp
 intro i v;have m:G ((md p a).take i)=i:=bP;have n:G ((md p a).take i++List.replicate (G a-i) (0:Z))=G a:=bP;refine e J<|L<|z J (λh=>?_)<|λh=>?_
 .have h:i<G a:=by have h:(i:Z)<(G a:Z):=az h;omega
  have d:af j 158 [.a (av .z<|Y a (Int.toNat<|(i:Z)) 0),cU p] (cU<|Y a i 0%p):=by rw[aV];exact amG (Y a i 0) p b g<|k i
  refine ai<|L<|q<|e J<|bs<|rc J J d (hp:=ak)<|o J (hp:=ak)<|aT<|rt J<|aA (i+1) h ka<|wk (aS J) ⟨bE J J,bE J ?_,T⟩;refine aC (aH.vec 25 u) ?_;have f:=Lt ((md p a).take i) (G a-(i+1))<|Y a i 0%p;rw[m,(S:G a-(i+1)+1=G a-i)]at f;rw[aV,f,jK _ i S,Bn]
 .have h:i=G a:=by have h:¬(i:Z)<(G a:Z):=aL h;omega
  subst h;rw[gx,uz,iW,iI S];exact aN<|ay<|cD 1002000 J J J<|aO J J (DR (md p a) p S) J<|bU J
def MV p a:md p (md p a)=md p a:=by unfold md;rw[LS];exact DO λx _=>jJ x p
def MW a(p:I)(n:G a<=1000)(b:2<=p)(k:p<=2147483648)(l:∀i,Sm (Y a i 0)):af j 28 [N .z a,cU p] (N u<|au<|md p a):=by
 refine aD Tryz.func28 ?_;have m:=oU p a;have d:=pH (S:(0:Z)<(p:Z)) a;have g:=uO (md p a) p S S S<|λi=>(d i).1;rw[MV]at g;refine e J<|t<|gR u [] J J (o J<|L<|e J ?_);refine q<|aK (α:=I) (λi=>⟨[(0,N .z a),(1,cU p),(5,.c<|.X 1000000),(6,D i)],[(1000000,.vec 25 u<|(md p a).take i)],3,[]⟩) (λi=>i<=G a) (λi=>G a-i) 0 (aW _) aM ?_;intro i r;have v:G ((md p a).take i)=i:=bP;refine L<|e J<|z J (λh=>?_)<|λh=>?_
 .have h:i<G a:=by have h:(i:Z)<(G a:Z):=az h;omega
  have f:af j 89 [.a (av .z<|Y a (Int.toNat<|(i:Z)) 0),cU p] (cU<|Y a i 0%p):=by rw[aV];exact aa8 (Y a i 0) p b k<|l i
  refine ai<|L<|q<|bs<|rc J J f (hp:=ak) ?_;refine rl u [_] J J (ra J J J J J J J J J ?_ ?_<|o J ?_)
  .show(_+1+(_+1)/4+192)*8<=_;omega
  .show(_+1)*1<=_;omega
  refine aT<|rt J<|aA (i+1) h ka<|Wk.trans (wk (st':=⟨[(0,N .z a),(1,cU p),(5,.c<|.X 4008000),(6,D ((i+1:I):Z))],[(4008000,.vec 25 u<|(md p a).take<|i+1)],8,[]⟩) (aS J) ⟨bE J ?_,T⟩)<|Wk.trans (fp 1000000 4008000 J J J) aM;refine aC (aH.vec 25 u) ?_;rw[jK _ i S,Bn]
 .have h:i=G a:=by have h:¬(i:Z)<(G a:Z):=aL h;omega
  subst h;rw[iI S];exact aN<|ay<|cD 1000000 J J J<|aO J J g J<|bU J
def amH{m}(a:G (aj m)=1):(m:Z)=Y (aj m) 0 0:=by
 have:=eN m;rw[<-this];match hw:aj m,a with
 |[w],_=>show w+4294967296*0=w;omega
def Ex a:af j 221 [aZ a] (cB<|decide<|a=1):=by
 refine aD Tryz.func221 ?_;refine e J<|t<|rg 6 J J (λh=>?_)<|λh=>?_
 .have d:0<=a:=by have h:(!bK a)=ae:=h;simpa[bK]using h
  refine rg 12 J J (λb=>?_)<|λb=>?_
  .have b:G (aj<|aq a)=1:=by have b:(G (aj<|aq a):Z)=1:=eq_of_beq b;omega
   have f:G (de a)=1:=b;refine o J (bq J<|aC cB ?_) (hp:=?_)
   .show((Y (aj<|aq a) 0 0)==1)=decide (a=1);have:=amH b;by_cases c:a=1
    .subst c;rfl
    .rw[iX c];exact beq_eq_false_iff_ne.2<|λg=>c S
   .simp only[Pr.an,Pr.h,num,eO,true_and,and_true];first|done|omega
  .refine o J<|bq J<|aC cB ?_;rw[iX];intro c;subst c;cases b
 .have d:a<0:=by have h:(!bK a)=ah:=h;simpa[bK]using h
  refine rg 12 J J (λb=>by cases b)<|λb=>?_;refine o J<|bq J<|aC cB ?_;rw[iX S]
def BQ x a(d:Sm x)(f:Sm a):af j 150 [N .z [x,a]] (aZ<|x*a):=by
 refine aD Tryz.func150 ?_;refine e J<|aO J J (nL 1 A A) J<|L<|e J ?_;refine q<|aK (α:=I) (λi=>⟨[(7,N .z [x,a]),(2,.c<|.P 0 0),(3,.c<|.P 1001000 0),(8,D 2),(9,D i)],[(0,.box 44 0 [.B ah,.V<|.slice none 0 0]),(1001000,.box 44 0<|av .z (if i=0 then 1 else if i=1 then x else x*a))],3,[]⟩) (λi=>i<=2) (λi=>2-i) 0 A (wk (aS J) ⟨bE J J,bE J J,T⟩) ?_;intro i g;rcases(S:i=0\/i=1\/i=2)with b|b|b
 .subst b;refine e J<|L<|z J (λ_=>ai ?_)<|λh=>bS;refine L (q<|e J (q<|aO J J (Ex x) J<|z J (λh=>bN ?_)<|λh=>?_) (hp:=aa9))
  .have h:x=1:=az h;subst h;exact dy<|aT<|rt J (hp:=ak)<|aA 1 A A<|wk (aS J) ⟨bE J J,bE J J,T⟩
  .refine aO J J (Ex 1) J<|z J (λh=>?_)<|λh=>bS;exact rt J<|dy<|aT<|rt J (hp:=ak)<|aA 1 A A<|wk (aS J) ⟨bE J J,bE J J,T⟩
 .subst b;refine e J<|L<|z J (λ_=>ai ?_)<|λh=>bS;refine L (q<|e J (q<|aO J J (Ex a) J<|z J (λh=>bN ?_)<|λh=>?_) (hp:=aa9))
  .have h:a=1:=az h;subst h;refine dy<|aT<|rt J (hp:=ak)<|aA 2 A A<|wk (aS J) ⟨bE J J,bE J ?_,T⟩;show aH.box 44 0 (av .z x)=aH.box 44 0 (av .z<|x*1);rw[lA]
  .refine aO J J (Ex x) J (z J (λh=>?_)<|λh=>?_)
   .have h:x=1:=az h;subst h;refine rt J<|dy<|aT<|rt J (hp:=ak)<|aA 2 A A<|wk (aS J) ⟨bE J J,bE J ?_,T⟩;show aH.box 44 0 (av .z a)=aH.box 44 0 (av .z<|1*a);rw[j7]
   .exact bs<|rc J J (tb x a d f)<|o J<|dy<|aT<|rt J (hp:=ak)<|aA 2 A A<|wk (aS J) ⟨bE J J,bE J J,T⟩
 .subst b;refine e J<|L<|z J (λh=>bS)<|λ_=>?_;exact aN<|ay<|e J<|bU J
structure QS(k:I)(r:O):Prop where
 n:aw k r.num
 d:aw k (r.den:Z)
def QS.le{a k}{r}(b:QS a r)(c:a<=k):QS k r:=⟨b.n.le c,b.d.le c⟩
def Ii{a}:cq a<0↔a<0:=by unfold cq;split<;>(try split)<;>omega
def tE{a}:cq a=0↔a=0:=by unfold cq;split<;>(try split)<;>omega
def Ij{r}{n d}(b:r.num=n)(c:(r.den:Z)=d):AV.a [C.B (bK n),C.S al<|de n,C.B<|bK d,C.S al<|de d]=aQ r:=by subst b c;rfl
def S5{n d}(a:0<d):(iE n d).num=n/((fh n d:I):Z)/\((iE n d).den:Z)=d/((fh n d:I):Z):=by have:=DE n d S;rwa[M S]at this
def MY{n d}(a:0<d)(b:fh n d=1):(iE n d).num=n/\((iE n d).den:Z)=d:=by have:=S5 (n:=n) a;rwa[b,show(((1:I):Z))=1 from J,uI,uI]at this
def MZ n d(f:0<d)(g:Sm n)(a:Sm d):af j 258 [aZ n,aZ d] (aQ<|iE n d):=by
 refine aD Tryz.func258 ?_;let ⟨p1,i⟩:=S5 (n:=n) f;have k:fh n d≠0:=λl=>by have:=(Ba.1 l).2;omega
 have b:Sm ((fh n d:I):Z):=cQ (rJ<|show aq (((fh n d:I):Z))<=aq d from DF _ S) a;refine e J<|L<|aO J J (Ex d) J<|z J (λh=>?_)<|λ_=>ai ?_
 .have h:d=1:=az h;subst h;let ⟨c1,c⟩:=MY (n:=n) A<|Int.gcd_one_right ..;exact e J<|bc<|bt<|c9 J<|Ij c1 c
 refine aO J J (aa5 n d g a) J<|L<|t<|rc J J (Ex _)<|o J<|z J (λh=>?_)<|λ_=>ai ?_
 .have h:((fh n d:I):Z)=1:=az h;let ⟨c1,c⟩:=MY f<|Int.ofNat.inj h;exact e J<|bc<|bt<|c9 J<|Ij c1 c
 refine aO J J (v8 n _ S g b) J<|t<|rc J J (v8 d _ S a b)<|o J<|e J<|bq J<|Ij p1 i
def amI n d(b:0<d)(c:Sm n)(a:Sm d):af j 205 [aZ n,aZ d] (.t [(ae,av .q<|iE n d),(ah,[.I .i64 0])]):=by
 refine aD Tryz.func205 ?_;refine e J<|L<|aO J J (zi d) J<|z J (λh=>?_)<|λ_=>ai ?_
 .exfalso;have h:cq d=0:=eq_of_beq h;have:=tE.1 h;omega
 refine L<|aO J J (zi d) J<|z J (λh=>?_)<|λ_=>ai ?_
 .exfalso;have h:cq d<0:=az h;have:=Ii.1 h;omega
 exact aO J J (MZ n d b c a) J<|bU J
def den_pos(a:O):0<(a.den:Z):=by have:=a.den_nz;omega
def aa' a(b:Sm a.num):af j 77 [aQ a] (aQ<| -a):=by refine aD Tryz.func77 ?_;refine e J<|aO J J (Lj a.num b) J<|bq J<|Ij J J
def Ik a:af j 148 [aQ a] (D<|cq a.num):=by refine aD Tryz.func148 ?_;exact e J<|aO J J (zi a.num) J<|bU J
def amJ n:af j 279 [aZ n] (aQ (n:O)):=by refine aD Tryz.func279 ?_;exact e J<|aO J J (nL 1 A A) J<|bq J J
def M2 n(a: -9223372036854775808<=n)(b:n<=9223372036854775807):af j 247 [D n] (aQ (n:O)):=by refine aD Tryz.func247 ?_;exact e J<|t<|rc J J (nL n a b)<|rc J J (amJ n)<|o J<|bU J
def S6 a(d:a.num≠0)(f:Sm a.num)(g:Sm (a.den:Z)):af j 252 [aQ a] (.t [(ae,av .q a⁻¹),(ah,[.I .i64 0])]):=by
 refine aD Tryz.func252 ?_;have b:fh (a.den:Z) a.num=1:=by have:=a.reduced;rw[Int.gcd_comm];exact this
 refine e J<|L<|aO J J (zi a.num) J<|q<|e J<|z J (λh=>?_)<|λh=>?_
 .exfalso;have h:cq a.num=0:=eq_of_beq h;exact d<|tE.1 h
 refine e J<|z J (λh=>?_)<|λh=>?_
 .have h:cq a.num= -1:=eq_of_beq h;have h:a.num<0:=Ii.1 S;have c:(a⁻¹).num= -(a.den:Z)/\(((a⁻¹).den:I):Z)= -a.num:=by
   rw[Rat.inv_def];have:=DE (a.den:Z) a.num d;rw[s h,b]at this;rw[this.1,this.2];constructor
   .rw[show-(((1:I):Z))= -1 from J,A7,uI]
   .rw[show-(((1:I):Z))= -1 from J,A7,uI]
  refine t<|rc J J (Lj (a.den:Z) g)<|rc J J (Lj a.num f)<|o J<|bc ?_;repeat(first|refine bt ?_|refine eH ?_|refine gf ?_)
  refine c9 J ?_;show AV.t [(ae,[C.B (bK<| -(a.den:Z)),C.S al<|de<| -(a.den:Z),C.B<|bK<| -a.num,C.S al<|de<| -a.num]),(ah,[C.I .i64 0])]=_;rw[<-c.1,<-c.2];rfl
 .have h:¬cq a.num= -1:=fT h;have h:0<a.num:=by
   unfold cq at h;split at h
   .omega
   .omega
  have c:(a⁻¹).num=(a.den:Z)/\(((a⁻¹).den:I):Z)=a.num:=by rw[Rat.inv_def];exact MY h b
  refine bN<|aT ?_;refine e J<|bq J ?_;show AV.t [(ae,[C.B (bK (a.den:Z)),C.S al<|de (a.den:Z),C.B<|bK a.num,C.S al<|de a.num]),(ah,[C.I .i64 0])]=_;rw[<-c.1,<-c.2];rfl
def amK{k}a b(c:QS k a)(f:QS k b)(E:k<=100000000000):af j 280 [aQ a,aQ b] (aQ<|a+b):=by
 refine aD Tryz.func280 ?_;have p:=c.n.mul f.d;have r:=f.n.mul c.d;have v:=c.d.mul f.d;have x:=p.add r;have l:=c.n.sm S;have g:=c.d.sm S;have m:=f.n.sm S;have i:=f.d.sm S;have B:=Am (den_pos a)<|den_pos b;have C:iE (a.num*(b.den:Z)+b.num*(a.den:Z)) ((a.den:Z)*(b.den:Z))=a+b:=by have F:=den_pos a;have H:=den_pos b;rw[<-Rat.divInt_add_divInt _ _ S S,pU,pU]
 rw[<-C];refine e J<|t<|rl .z [a.num,(b.den:Z)] J J (rc J J (BQ _ _ l i)<|rl .z [b.num,(a.den:Z)] J J (rc J J (BQ _ _ m g)<|rc J J (zn _ _ (p.sm S)<|r.sm S)<|o J ?_));exact t<|rl .z [(a.den:Z),(b.den:Z)] J J (rc J J (BQ _ _ g i)<|rc J J (MZ _ _ B (x.sm S)<|v.sm S)<|o J<|bU J)
def abb{a b c d}(g:fh a b=1)(i:c∣a)(k:d∣b):fh c d=1:=by have f:((fh c d:I):Z)∣((fh a b:I):Z):=Int.dvd_coe_gcd (Ey (GS ..) i)<|Ey (K7 ..) k;rw[g]at f;have:=Int.ofNat_dvd.1 f;exact Il.1 this
def S7{n d}(a:0<d):(iE n d).num∣n/\(((iE n d).den:I):Z)∣d:=by let ⟨b,h2⟩:=S5 (n:=n) a;rw[b,h2];exact⟨⟨_,(amL<|GS ..).symm⟩,⟨_,(amL<|K7 ..).symm⟩⟩
def aw.dvd{n}{a b}(d:aw n a)(c:b∣a)(f:a≠0):aw n b:=by have:=pG S<|Hf.2 c;unfold aw at*;omega
def M3{k}{n d}(a:0<d)(b:aw k n)(c:aw k d):QS k (iE n d):=by
 let ⟨f,h2⟩:=S7 (n:=n) a;refine⟨?_,c.dvd h2 S⟩;by_cases e:n=0
 .subst e;rw[Rat.zero_divInt];exact aw.zero _
 .exact b.dvd f e
def QS.mul{k}{a b}(c:QS k a)(f:QS k b):QS (2*k) (a*b):=by
 have g:=den_pos a;have i:=den_pos b;have e:iE (a.num*b.num) ((a.den:Z)*(b.den:Z))=a*b:=by rw[<-Ez,pU,pU]
 rw[<-e];exact M3 (Am g i) ((c.n.mul f.n).le S)<|(c.d.mul f.d).le S
def QS.neg{k}{a}(b:QS k a):QS k (-a):=⟨b.n.neg,b.d⟩
def S8{k}a b(c:QS k a)(f:QS k b)(hk:k<=100000000000):af j 246 [aQ a,aQ b] (aQ<|a*b):=by
 refine aD Tryz.func246 ?_;have l:=c.n.sm S;have m:=c.d.sm S;have p:=f.n.sm S;have r:=f.d.sm S;have C:=M3 (n:=a.num) (den_pos b) c.n f.d;have E:=M3 (n:=b.num) (den_pos a) f.n c.d;let ⟨l1,l2⟩:=S7 (n:=a.num)<|den_pos b;let ⟨r1,F⟩:=S7 (n:=b.num)<|den_pos a;have v:=MZ a.num (b.den:Z) (den_pos b) l r;have x:=MZ b.num (a.den:Z) (den_pos a) p m;have H:iE a.num (b.den:Z)*iE b.num (a.den:Z)=a*b:=by rw[Ez,ew (b.den:Z),<-Ez,pU,pU]
 have K:fh a.num (a.den:Z)=1:=a.reduced;have P:fh b.num (b.den:Z)=1:=b.reduced;generalize iE a.num (b.den:Z)=L at*;generalize iE b.num (a.den:Z)=R at*;have B:fh (L.num*R.num) ((L.den:Z)*(R.den:Z))=1:=by have g:fh L.num (L.den:Z)=1:=L.reduced;have i:fh R.num (R.den:Z)=1:=R.reduced;have Q:=abb K l1 F;have U:=abb P r1 l2;have W:M4 (aq L.num) L.den:=g;have X:M4 (aq R.num) R.den:=i;have h:M4 (aq L.num) R.den:=Q;have q:M4 (aq R.num) L.den:=U;show Nat.gcd (aq<|L.num*R.num) (aq<|(L.den:Z)*(R.den:Z))=1;rw[qE,qE];exact Nat.Coprime.mul_left (amM W h)<|amM q X
 let ⟨g,i⟩:=MY (Am (den_pos L)<|den_pos R) B;rw[<-Ez,pU,pU,H]at g i;refine e J<|aO J J v J<|t<|rc J J x<|o J ?_;refine t<|rl .z [L.num,R.num] J J (rc J J (BQ _ _ (C.n.sm S)<|E.n.sm S)<|rl .z [(L.den:Z),(R.den:Z)] J J (rc J J (BQ _ _ (C.d.sm S)<|E.d.sm S)<|o J<|bq J<|Ij g i))
def eK(a b:O):Z:=if a<b then-1 else if b<a then 1 else 0
def abd{a b:O}(f:cq a.num<cq b.num):a<b:=by
 rw[Im];have c:=den_pos a;have g:=den_pos b;have d:(a.num<0/\0<=b.num)\/(a.num=0/\0<b.num):=by unfold cq at f;split at f<;>(try split at f)<;>(try split at f)<;>omega
 rcases d with⟨d,i⟩|⟨d,i⟩
 .have:=Int.mul_neg_of_neg_of_pos d g;have:=jm i<|zL c;omega
 .rw[d,ko];exact Am i c
def abe{k}a b(p:QS k a)(r:QS k b)(B:k<=100000000000):af j 79 [aQ a,aQ b] (D<|eK a b):=by
 refine aD Tryz.func79 ?_;have f:=p.n.sm S;have g:=p.d.sm S;have i:=r.n.sm S;have l:=r.d.sm S;have x:eK a b=cX (a.num*(b.den:Z)) (b.num*(a.den:Z)):=by unfold eK cX;simp only[Im]
 refine e J<|L<|t<|rc J J (Ik a)<|rc J J (Ik b)<|o J<|e J<|z J (λh=>?_)<|λh=>ai ?_
 .have h:cq a.num≠cq b.num:=nN h;refine L (e J<|z J (λc=>?_)<|λc=>ai ?_)
  .have c:cq a.num<cq b.num:=az c;refine e J<|bc<|bt<|bt<|c9 J<|aC D ?_;rw[eK,s<|abd c]
  .have c:¬cq a.num<cq b.num:=aL c;refine e J<|bc<|bt<|c9 J<|aC D ?_;have v:b<a:=abd S;have m:¬a<b:=λm=>by rw[Im]at v m;omega
   rw[eK,M m,s v]
 .rw[x];exact t<|rl .z [a.num,(b.den:Z)] J J (rc J J (BQ _ _ f l)<|rl .z [b.num,(a.den:Z)] J J (rc J J (BQ _ _ i g)<|rc J J (G7 _ _)<|o J<|bU J))
def abf(a:V Z){X:I}(b:∀i,aq (Y a i 0)<=X):∀i,jV a i<=i*X
 |0=>by simp[jV]
 |i+1=>by have:=abf a b i;have:=b i;rw[jV,g7];omega
def Io a{b}(c:∀i,aw b (Y a i 0)){i}(d:i<=13):aw (b+1) ((jV a i:I):Z):=by unfold aw at*;have f:=abf a (λi=>Cy<|c i) i;have g:=eB (4294967296^b) d;have k:=lN (n:=b) (A:0<4294967296);rw[lO,fy];omega
def S9 a E(R:E<=1000)(Q:G a<=13)(v:∀i,aw E (Y a i 0)):af j 33 [N .z a] (aZ (cO a:I)):=by
 refine aD Tryz.func33 ?_;refine e J<|aO J J (nL 0 A A) J<|L<|e J ?_;refine q<|aK (α:=I) (λi=>⟨[(0,N .z a),(2,.c<|.P 0 0),(3,.c<|.P 1001000 0),(11,N .z a),(12,D<|G a),(13,D i)],[(0,.box 44 0 [.B ah,.V<|.slice none 0 0]),(1001000,.box 44 0<|av .z ((jV a i:I):Z))],3,[]⟩) (λi=>i<=G a) (λi=>G a-i) 0 (aW _) (wk (aS J) ⟨bE J J,bE J J,T⟩) ?_;intro i K;refine e J<|L ?_;refine z J (λh=>?_)<|λh=>?_
 .have h:i<G a:=by simpa using h
  have C:Sm (Y a i 0):=(v i).sm S;have f:Sm ((aq (Y a i 0):I):Z):=aw.sm (n:=E) (by have:=v i;unfold aw at*;rwa[lO]) S;have d:Sm ((jV a i:I):Z):=(Io a v (by omega:i<=13)).sm S;refine ai<|L<|q<|e J<|L<|aO J J (zi<|Y a (Int.toNat (i:Z)) 0) J ?_;rw[aV];refine z J (λh2=>?_)<|λh2=>?_
  .have h2:Y a i 0<0:=akf lj;have l:((aq (Y a i 0):I):Z)= -(Y a i 0):=S;have b:=zn ((jV a i:I):Z) ((aq (Y a i 0):I):Z) d f;rw[l]at b;refine bs<|rc J J (Lj (Y a i 0) C)<|o J<|ay<|bs<|rc J J b<|o J ?_;refine aT (rt J<|aA (i+1) h ka<|wk ⟨sR J,sR J,sR J,sR J,sR J,sE J ?_,T⟩ ⟨bE J J,bE J ?_,T⟩)
   .exact aC D S
   .rw[<-l];rfl
  .have h2:¬Y a i 0<0:=λm=>by rw[akg m]at h2;cases h2
   have l:((aq (Y a i 0):I):Z)=Y a i 0:=S;have b:=zn ((jV a i:I):Z) ((aq (Y a i 0):I):Z) d f;rw[l]at b;refine ai<|bs<|rc J J b<|o J ?_;refine aT<|rt J<|aA (i+1) h ka<|wk ⟨sR J,sR J,sR J,sR J,sR J,sE J ?_,T⟩ ⟨bE J J,bE J ?_,T⟩
   .exact aC D S
   .rw[<-l];rfl
 .have h:¬i<G a:=by simpa using h
  have K:i=G a:=S;subst K;have d:Sm ((jV a (G a):I):Z):=(Io a v Q).sm S;refine aN<|ay<|aO J J (nL 2 A A) J<|L<|e J ?_;refine q<|aK (α:=I) (λk=>⟨[(0,N .z a),(2,.c<|.P 0 0),(3,.c<|.P 1001000 0),(6,.c<|.P 4001000 0),(7,D (if k=0 then(G a:Z)-1 else(G a:Z)-1-4096))],[(0,.box 44 0 [.B ah,.V<|.slice none 0 0]),(1001000,.box 44 0<|av .z ((if k=0 then jV a (G a)else cO a:I):Z)),(4001000,.box 44 0<|av .z 2)],6,[]⟩) (λk=>k<=1) (λk=>1-k) 0 (aW _) (wk (aS J) ⟨bE J J,bE J J,bE J J,T⟩) ?_;intro k U;refine L<|e J ?_;refine z J (λg=>?_)<|λg=>?_
  .have g:(if k=0 then(G a:Z)-1 else(G a:Z)-1-4096)>0:=by simpa using g
   have F:k=0:=by refine Decidable.by_contra<|λm=>?_;rw[M m]at g;omega
   subst F;rw[s J]at g;obtain⟨n,H⟩:∃n:I,G a=n+1:=⟨G a-1,S⟩;refine ai<|L<|q ?_;have p:=tb ((jV a (G a):I):Z) ((2^n:I):Z) d (Sm.of<|by have:2^n<=2^12:=fG A S;rw[lO];exact s8 this A);have r:af j 104 [aZ 2,.c<|.I .i64 (if(4096:Z)<n then 4096 else n)] (.t [(ae,av .z ((2^n:I):Z)),(ah,[.I .i64 0])]):=by rw[M S];exact ajO n S
   refine dc (st':=⟨[(0,N .z a),(2,.c<|.P 0 0),(3,.c<|.P 1001000 0),(6,.c<|.P 4001000 0),(7,D n)],[(0,.box 44 0 [.B ah,.V<|.slice none 0 0]),(1001000,.box 44 0<|av .z ((jV a (G a):I):Z)),(4001000,.box 44 0<|av .z 2)],7,[]⟩) (wk ⟨sR J,sR J,sR J,sR J,sE J ?_,T⟩ ⟨bE J J,bE J J,bE J J,T⟩) ?_
   .exact aC D (by rw[s J,H];omega)
   .refine aO J J r J (bs<|rc J J p<|o J<|aT<|rt J<|aA 1 (a8 _) A<|wk ⟨sR J,sR J,sR J,sR J,sE J ?_,T⟩ ⟨bE J J,bE J ?_,bE J J,T⟩)
    .exact aC D (by rw[M A,H];omega)
    .rw[M A,cO,H,eJ];rfl
  .have g:¬(if k=0 then(G a:Z)-1 else(G a:Z)-1-4096)>0:=by simpa using g
   refine aN<|ay<|e J<|bq J ?_;refine aC (λx:I=>aZ (x:Z)) ?_;split
   .rename_i m;rw[s m]at g;rw[cO,(S:G a-1=0),oo,kI]
   .rfl
def sq(f:I->O):I->O
 |0=>0
 |k+1=>sq f k+f k
def u5{f g:I->O}:∀{k:I},(∀i,i<k->f i=g i)->sq f k=sq g k
 |0,_=>rfl
 |k+1,a=>by rw[sq,sq,u5<|λi b=>a i S,a k S]
def M5{f:I->O}{k}(a:∀i,i<k->f i=0):sq f k=0:=by
 induction k with
 |zero=>rfl
 |succ k b=>rw[sq,b<|λi c=>a i S,a k S,pV]
def S'(f g:I->O):∀k,sq (λi=>f i+g i) k=sq f k+sq g k
 |0=>(pV 0).symm
 |k+1=>by simp only[sq,S' f g k];grind
def M6(c:O)(f:I->O):∀k,sq (λi=>c*f i) k=c*sq f k
 |0=>by simp only[sq];grind
 |k+1=>by simp only[sq,M6 c f k];grind
def amN c(f:I->O) k:sq (λi=>f i*c) k=sq f k*c:=by rw[Ip,<-M6];exact u5<|λi _=>Ip _ _
def abg(f:I->O):∀k,sq f (k+1)=f 0+sq (λi=>f<|i+1) k
 |0=>by simp only[sq];grind
 |k+1=>by rw[sq,abg f k,sq];grind
def abh(f:I->O):∀k,sq f k=sq (λi=>f<|k-1-i) k
 |0=>rfl
 |k+1=>by rw[sq,abh f k,abg<|λi=>f<|k+1-1-i];have:sq (λi=>f<|k+1-1-(i+1)) k=sq (λi=>f<|k-1-i) k:=u5 (λi _=>by congr 1;omega);rw[this,(S:k+1-1-0=k)];grind
def abi(F:I->I->O):∀n,sq (λi=>sq (λa=>F i a)<|i+1) n=sq (λa=>sq (λk=>F (a+k) a)<|n-a) n
 |0=>rfl
 |n+1=>by
  rw[sq,abi F n];have b:sq (λa=>sq (λk=>F (a+k) a)<|n+1-a) n=sq (λa=>sq (λk=>F (a+k) a) (n-a)+F n a) n:=by refine u5<|λa c=>?_;rw[(S:n+1-a=(n-a)+1),sq,(S:a+(n-a)=n)]
  rw[show sq (λa=>sq (λk=>F (a+k) a)<|n+1-a) (n+1)=sq (λa=>sq (λk=>F (a+k) a)<|n+1-a) n+sq (λk=>F (n+k) n) (n+1-n)from J,b,S'];rw[(S:n+1-n=1),show sq (λa=>F n a) (n+1)=sq (λa=>F n a) n+F n n from J,show sq (λk=>F (n+k) n) 1=0+F (n+0) n from J,jE];grind
def M7{f:I->O}{a:I}:∀{n:I},a<n->(∀i,i<n->i≠a->f i=0)->sq f n=f a
 |0,c,_=>by omega
 |n+1,c,b=>by
  rw[sq];by_cases d:a=n
  .subst d;rw[M5 (λi g=>b i S S),Iq]
  .rw[M7 (n:=n) S (λi g=>b i S),b n S S,pV]
def cvq(a B:I->O)(n:I):O:=sq (λi=>a i*B (n-i))<|n+1
structure Rx where
 v:I->O
 fin:∃n,∀i,n<=i->v i=0
namespace Rx
instance:CoeFun Rx (λ_=>I->O):=⟨λA=>A.v⟩
def ext{a B:Rx}(b:∀i,a i=B i):a=B:=by cases a;cases B;have e:=funext b;simp only at e;subst e;rfl
def abk{A B:I->O}{m n}(a:∀i,m<=i->A i=0)(b:∀i,n<=i->B i=0):∀i,m+n<=i+1->cvq A B i=0:=λi c=>M5 λj d=>by
 by_cases e:m<=j
 .rw[a j e,tG]
 .rw[b (i-j) S,jA]
instance:Add Rx:=⟨λA B=>⟨λi=>A i+B i,by obtain⟨m,a⟩:=A.2;obtain⟨n,b⟩:=B.2;exact⟨m+n,λi c=>by show A.v i+B.v i=0;rw[a i S,b i S,pV]⟩⟩⟩
instance:Mul Rx:=⟨λA B=>⟨cvq A.v B.v,by obtain⟨m,a⟩:=A.2;obtain⟨n,b⟩:=B.2;exact⟨m+n,λi c=>abk a b i S⟩⟩⟩
instance:Neg Rx:=⟨λA=>⟨λi=> -A i,by obtain⟨m,a⟩:=A.2;exact⟨m,λi b=>by show-A.v i=0;rw[a i b,Rat.neg_zero]⟩⟩⟩
def K(c:O):Rx:=⟨λi=>if i=0 then c else 0,1,λi a=>M S⟩
instance:_root_.Sub Rx:=⟨λx y=>x+ -y⟩
instance:OfNat Rx 0:=⟨⟨λ_=>0,0,λ_ _=>rfl⟩⟩
instance:OfNat Rx 1:=⟨K 1⟩
def eR(a B:Rx) i:(a+B) i=a i+B i:=rfl
def LF(a:Rx) i:(-a) i= -a i:=rfl
def xP(a B:Rx) i:(a-B) i=a i-B i:=(amO _ _).symm
def l0 i:(0:Rx) i=0:=rfl
def gG(a B:Rx) n:(a*B) n=sq (λi=>a i*B (n-i)) (n+1):=rfl
def sb c i:K c i=if i=0 then c else 0:=rfl
def iQ c b i:(K c*b) i=c*b i:=by rw[gG,M7 (a:=0) S<|λj _ d=>by rw[sb,M d,tG]];rfl
def add_comm(x a:Rx):x+a=a+x:=ext λi=>Rat.add_comm _ _
def add_assoc(x a b:Rx):x+a+b=x+(a+b):=ext λi=>Rat.add_assoc _ _ _
def mul_comm(a B:Rx):a*B=B*a:=by
 refine ext λn=>?_
 rw[gG,gG,abh];refine u5<|λi b=>?_;rw[Ip,(S:n-(n+1-1-i)=i)];rfl
def mul_assoc(a B C:Rx):a*B*C=a*(B*C):=by
 refine ext λn=>?_
 rw[gG,gG];have b:sq (λi=>(a*B) i*C (n-i)) (n+1)=sq (λi=>sq (λj=>a j*B (i-j)*C (n-i))<|i+1) (n+1):=u5 (λi _=>by rw[gG,amN]);rw[b,abi<|λi j=>a j*B (i-j)*C (n-i)];refine u5<|λj c=>?_;rw[gG,<-M6,(S:n+1-j=n-j+1)];refine u5<|λk d=>?_;rw[qV,(S:j+k-j=k),(S:n-(j+k)=n-j-k)]
def mul_add(a B C:Rx):a*(B+C)=a*B+a*C:=by
 refine ext λn=>?_
 rw[eR,gG,gG,gG,<-S'];exact u5 (λi _=>by rw[eR,Rat.mul_add])
def add_mul(x b a:Rx):(x+b)*a=x*a+b*a:=by rw[mul_comm,mul_add,mul_comm a x,mul_comm a b]
def zero_add(x:Rx):0+x=x:=ext λi=>Iq _
def add_zero(x:Rx):x+0=x:=by rw[add_comm,zero_add]
def one_mul(x:Rx):1*x=x:=ext λi=>(iQ 1 x i).trans<|wz _
def mul_one(x:Rx):x*1=x:=by rw[mul_comm,one_mul]
def zero_mul(x:Rx):0*x=0:=ext λn=>by rw[gG];exact M5 λi _=>by rw[l0,tG]
def mul_zero(x:Rx):x*0=0:=by rw[mul_comm,zero_mul]
def add_neg(x:Rx):x+ -x=0:=ext λi=>amP _
def neg_add(x:Rx): -x+x=0:=by rw[add_comm,add_neg]
def sub_def(x a:Rx):x-a=x+ -a:=rfl
instance:Std.Associative (α:=Rx) (·+·):=⟨add_assoc⟩
instance:Std.Commutative (α:=Rx) (·+·):=⟨add_comm⟩
instance:Std.Associative (α:=Rx) (·*·):=⟨mul_assoc⟩
instance:Std.Commutative (α:=Rx) (·*·):=⟨mul_comm⟩
def add_left_cancel{x a b:Rx}(c:x+a=x+b):a=b:=by have:=aC (-x+·) c;simpa only[<-add_assoc,neg_add,zero_add]using this
def kL(x a:Rx):x-a+a=x:=by rw[sub_def,add_assoc,neg_add,add_zero]
def xV(x a:Rx):x+a-a=x:=by rw[sub_def,add_assoc,add_neg,add_zero]
def D1{x a b:Rx}(c:x+a=b):x=b-a:=by rw[<-c,xV]
def sub_eq{x a b:Rx}(c:x=b+a):x-a=b:=by rw[c,xV]
def sub_self(x:Rx):x-x=0:=add_neg x
def sub_zero(x:Rx):x-0=x:=sub_eq (add_zero x).symm
def Bu{x a:Rx}(b:x-a=0):x=a:=by rw[<-kL x a,b,zero_add]
def sub_mul(x b a:Rx):(x-b)*a=x*a-b*a:=D1 (by rw[<-add_mul,kL])
def mul_sub(x a b:Rx):x*(a-b)=x*a-x*b:=by rw[mul_comm,sub_mul,mul_comm a,mul_comm b]
def neg_mul(x a:Rx): -x*a= -(x*a):=add_left_cancel (x:=x*a) (by rw[<-add_mul,add_neg,add_neg,zero_mul])
def neg_sub(x a:Rx): -(x-a)=a-x:=add_left_cancel (x:=x-a) (by rw[add_neg,sub_def,sub_def];have:x+ -a+(a+ -x)=(x+ -x)+(-a+a):=eT;rw[this,add_neg,neg_add,add_zero])
def RR(x c a b:Rx):(x+c)-(a+b)=(x-a)+(c-b):=sub_eq (by have:x-a+(c-b)+(a+b)=(x-a+a)+(c-b+b):=eT;rw[this,kL,kL])
instance:Dvd (Rx):=⟨λa b=>∃w,b=w*a⟩
def dvd_refl(a:Rx):a∣a:=⟨1,(one_mul a).symm⟩
def dvd_zero(a:Rx):a∣0:=⟨0,(zero_mul a).symm⟩
def dvd_trans{a b c:Rx}(d:a∣b)(k:b∣c):a∣c:=by obtain⟨w,rfl⟩:=d;obtain⟨v,rfl⟩:=k;exact⟨v*w,(mul_assoc v w a).symm⟩
def dvd_mul_left(a b:Rx):a∣b*a:=⟨b,J⟩
def dvd_mul_right(a b:Rx):a∣a*b:=⟨b,mul_comm a b⟩
def dz{a b}(d:a∣b)(c:Rx):a∣c*b:=dvd_trans d<|dvd_mul_left b c
def lQ{a b}(d:a∣b)(c:Rx):a∣b*c:=dvd_trans d<|dvd_mul_right b c
def dvd_add{a b c:Rx}(d:a∣b)(k:a∣c):a∣b+c:=by obtain⟨w,rfl⟩:=d;obtain⟨v,rfl⟩:=k;exact⟨w+v,(add_mul w v a).symm⟩
def dvd_neg{a b:Rx}(c:a∣b):a∣-b:=by obtain⟨w,rfl⟩:=c;exact⟨-w,(neg_mul w a).symm⟩
def dvd_sub{a b c:Rx}(d:a∣b)(k:a∣c):a∣b-c:=dvd_add d<|dvd_neg k
def uR{a b c:Rx}(d:a∣b+c)(k:a∣b):a∣c:=by have:=dvd_sub d k;rwa[add_comm b c,xV]at this
def D2{a b c:Rx}(d:a∣b-c)(k:a∣c):a∣b:=by have:=dvd_add d k;rwa[kL]at this
def kM{a b c:Rx}(d:a∣b-c):a∣c-b:=by rw[<-neg_sub];exact dvd_neg d
def pk(a:Rx):I->Rx
 |0=>1
 |n+1=>pk a n*a
def rT a:pk a 1=a:=one_mul a
def rU(a:Rx)(m:I):∀n,pk a (m+n)=pk a m*pk a n
 |0=>(mul_one _).symm
 |n+1=>by rw[<-qv,pk,pk,rU a m n,mul_assoc]
def rV(a:Rx)(m:I):∀n,pk a (m*n)=pk (pk a m) n
 |0=>rfl
 |n+1=>by rw[D3,rU,pk,rV a m n]
def qK(a b:Rx):∀n,pk (a*b) n=pk a n*pk b n
 |0=>(one_mul 1).symm
 |n+1=>by rw[pk,pk,pk,qK a b n];ac_rfl
def wg:∀n,pk (1:Rx) n=1
 |0=>rfl
 |n+1=>by rw[pk,wg n,one_mul]
def X(k:I):Rx:=⟨λi=>if i=k then 1 else 0,k+1,λi a=>M S⟩
def Ir k i:X k i=if i=k then 1 else 0:=rfl
def nP k b i:(X k*b) i=if k<=i then b (i-k)else 0:=by
 rw[gG];by_cases h:k<=i
 .rw[s h,M7 (a:=k) S (λj _ c=>by rw[Ir,M c,tG]),Ir,s J,wz]
 .rw[M h];exact M5 (λj c=>by rw[Ir,M S,tG])
def amQ:X 0=1:=rfl
def pE a b:K (a+b)=K a+K b:=ext λi=>by rw[eR,sb,sb,sb];split<;>grind
def eS a b:K (a*b)=K a*K b:=ext λi=>by rw[iQ,sb,sb];split<;>grind
def l3:K 0=0:=ext λi=>by rw[sb,l0];split<;>rfl
def l4:K 1=1:=rfl
def zy a:K (-a)= -K a:=add_left_cancel (x:=K a) (by rw[<-pE,amP,l3,add_neg])
def D4 a b:K (a-b)=K a-K b:=by rw[amO,pE,zy,sub_def]
def L9{a b}(c:K a=K b):a=b:=aC (λA:Rx=>A 0) c
def ov{c}(a:c≠0):K c⁻¹ *K c=1:=by rw[<-eS,pW c a,l4]
def lx(a:V O):Rx:=⟨λi=>Y a i 0,G a,λi b=>by rw[aF,lG b];rfl⟩
def kQ a i:lx a i=Y a i 0:=rfl
def tH:lx []=0:=ext λi=>rfl
def abl c:lx [c]=K c:=ext λi=>by
 cases i with
 |zero=>rfl
 |succ i=>rfl
def Is c a:lx (c::a)=K c+X 1*lx a:=ext λi=>by
 rw[eR,nP];cases i with
 |zero=>rw[M S];show c=K c 0+0;rw[sb,s J,pV]
 |succ i=>rw[s S];show Y a i 0=K c (i+1)+Y a i 0;rw[sb,M S,Iq]
def bY(a:V O):Prop:=a=[]\/Y a (G a-1) 0≠0
def EA:bY []:= .inl J
def kv(a:V O){i}(b:G a<=i):Y a i 0=0:=by rw[aF,lG b];rfl
def bY.top{a}(b:bY a){n}(c:G a=n+1):Y a n 0≠0:=by
 rcases b with b|b
 .subst b;simp at c
 .rwa[c,eJ]at b
def abm{a b:V O}(c:G a=G b)(d:∀i,Y a i 0=Y b i 0):a=b:=by refine lq c<|λi f g=>?_;have:=d i;rwa[aF,aF,bD f,bD g]at this
def BR{a b}(d:bY a)(f:bY b)(g:lx a=lx b):a=b:=by
 have c:∀i,Y a i 0=Y b i 0:=λi=>aC (λA:Rx=>A i) g
 refine abm ?_ c;rcases CE (G a) (G b)with e|e|e
 .exact absurd ((c<|G b-1).symm.trans<|kv a S)<|f.top S
 .exact e
 .exact absurd ((c<|G a-1).trans<|kv b S)<|d.top S
def Ta(b:I->O):∀n,(∀i,n<=i->b i=0)->∃a:V O,bY a/\G a<=n/\∀i,Y a i 0=b i
 |0,c=>⟨[],EA,a8 _,λi=>(c i<|aW _).symm⟩
 |n+1,c=>by
  by_cases d:b n=0
  .let ⟨a,g,h2,k⟩:=Ta b n (λi m=>by
    by_cases l:i=n
    .rw[l,d]
    .exact c i S)
   exact⟨a,g,S,k⟩
  .have f:∀i,Y ((be<|n+1).map b) i 0=b i:=λi=>by
    rw[aF,gj];by_cases d:i<n+1
    .rw[jW d];rfl
    .rw[lG bP];exact(c i S).symm
   refine⟨(be<|n+1).map b,.inr ?_,ax,f⟩;rw[f];simpa using d
def kc b:∃a,bY a/\lx a=b:=by let ⟨n,c⟩:=b.2;let ⟨a,d,_,f⟩:=Ta b.v n c;exact⟨a,d,ext f⟩
open Classical in
noncomputable def sz(a:Rx):I:=G<|Classical.choose<|kc a
def dH{a}(c:bY a):sz (lx a)=G a:=by have b:=qL<|kc<|lx a;rw[sz,BR b.1 c b.2]
def u6{n}{A}(b:∀i,n<=i->A i=0):sz A<=n:=by let ⟨a,c,h2,d⟩:=Ta A.v n b;rw[<-(ext d:lx a=A),dH c];exact h2
def nV{A}{i}(b:sz A<=i):A i=0:=by obtain⟨a,c,rfl⟩:=kc A;rw[dH c]at b;exact kv a b
def It{b}{n}(c:sz b=n+1):b n≠0:=by obtain⟨a,d,rfl⟩:=kc b;rw[dH d]at c;exact d.top c
def amR{a}{n}(b:a n≠0):n<sz a:=Iu λe=>b<|nV e
def kd:sz (0:Rx)=0:=Nat.le_zero.1<|u6 λ_ _=>rfl
def D7 c:sz (K c)<=1:=u6 λi a=>by rw[sb,M S]
def RU{a}(b:sz a=0):a=0:=ext λi=>nV S
def dX{a}(b:a≠0):0<sz a:=by
 rcases qF (sz a)with e|e
 .exact absurd (RU e) b
 .exact e
def RV a B:sz (a+B)<=max (sz a) (sz B):=u6 λi b=>by rw[eR,nV (A:=a) S,nV (A:=B) S,pV]
def RW a:sz (-a)<=sz a:=u6 λi b=>by rw[LF,nV b];rfl
def Bv a B:sz (a-B)<=max (sz a) (sz B):=by have b:=RV a<| -B;have c:=RW B;rw[sub_def];omega
def xS{b B:Rx}{m n}(c:∀i,m<i->b i=0)(d:∀i,n<i->B i=0):(b*B) (m+n)=b m*B n:=by
 rw[gG,M7 (a:=m) S<|λj f g=>?_]
 .rw[(S:m+n-m=n)]
 .by_cases e:m<j
  .rw[c j e,tG]
  .rw[d (m+n-j) S,jA]
def nn:(1:Rx)≠0:=λe=>by have:(1:Rx) 0=(0:Rx) 0:=oV;exact absurd this A
def dE{a B}(c:a≠0)(d:B≠0):sz (a*B)+1=sz a+sz B:=by
 have p:=dX c;have r:=dX d;obtain⟨m,f⟩:∃m,sz a=m+1:=⟨sz a-1,S⟩;obtain⟨n,g⟩:∃n,sz B=n+1:=⟨sz B-1,S⟩;have k:(a*B) (m+n)≠0:=by
  rw[xS (λi b=>nV S) (λi b=>nV S)];intro e;rcases zM.1 e with e|e
  .exact It f e
  .exact It g e
 have x:=amR k;have C:sz (a*B)<=m+n+1:=u6 λi b=>abk (A:=a.v) (B:=B.v) (m:=m+1) (n:=n+1) (λj l=>nV (A:=a) S) (λj l=>nV (A:=B) S) i S
 omega
def ts{c}(a:c≠0):K c≠0:=λe=>a<|L9<|e.trans l3.symm
def nQ{a B:Rx}(b:a≠0)(c:B≠0):a*B≠0:=λe=>by have h:=dE b c;rw[e,kd]at h;have d:=dX b;have f:=dX c;omega
def qN{A B C:Rx}(a:A≠0)(b:B*A=C*A):B=C:=by
 refine Bu ?_;refine dQ λc=>?_
 exact nQ c a (by rw[sub_mul,b,sub_self])
def np:sz (1:Rx)=1:=by have a:=D7 1;have b:=dX nn;rw[l4]at a;omega
def D8{d}(f:sz d=1):∃c:O,c≠0/\d=K c:=by
 obtain⟨a,b,rfl⟩:=kc d;rw[dH b]at f;match a,f,b with
 |[c],_,b=>exact⟨c,b.top (n:=0) J,abl c⟩
def tu{a}(b:sz a=1):∃B:Rx,B*a=1:=by obtain⟨c,d,rfl⟩:=D8 b;exact⟨_,ov d⟩
def xY{a B}(b:B*a=1):sz a=1:=by
 have c:a≠0:=λe=>nn (by rw[<-b,e,mul_zero])
 have d:B≠0:=λe=>nn (by rw[<-b,e,zero_mul])
 have f:=dE d c;rw[b,np]at f;have g:=dX c;have i:=dX d;omega
def dvd_one{a}(b:a∣1):sz a=1:=by let ⟨w,hw⟩:=b;exact xY hw.symm
def fV{a B}(d:a∣B)(b:B≠0):sz a<=sz B:=by
 obtain⟨w,rfl⟩:=d;have c:w≠0:=λe=>b Hz
 have f:a≠0:=λe=>b (by rw[e,mul_zero])
 have g:=dE c f;have pw:=dX c;omega
def rY{A B}(a:A∣B)(b:sz B<sz A):B=0:=
 dQ λc=>by have:=fV a c;omega
def abn{B:Rx}(b:B≠0):∀(n:I)(a:Rx),sz a<n->∃Q R,a=Q*B+R/\sz R<sz B
 |0,_,c=>by omega
 |n+1,a,c=>by
  by_cases d:sz a<sz B
  .exact⟨0,a,by rw[zero_mul,zero_add],d⟩
  .have r:=dX b;obtain⟨k,f⟩:∃k,sz B=k+1:=⟨sz B-1,S⟩;obtain⟨m,v⟩:∃m,sz a=m+k+1:=⟨sz a-k-1,S⟩;have g:sz (a-K (a (m+k)*(B k)⁻¹)*(X m*B))<n:=by
    have:sz (a-K (a (m+k)*(B k)⁻¹)*(X m*B))<=m+k:=u6 λi x=>by
     rw[xP,iQ,nP,s (S:m<=i)];by_cases l:i=m+k
     .rw[l,(S:m+k-m=k),qV,pW _<|It f,zN];grind
     .rw[nV (A:=a) (i:=i) S,nV (A:=B) (i:=i-m) S];grind
    omega
   let ⟨Q,R,h2,p⟩:=abn b n _ g;refine⟨K (a (m+k)*(B k)⁻¹)*X m+Q,R,?_,p⟩;rw[add_mul,add_assoc,<-h2,mul_assoc,add_comm,kL]
def RX a{B}(b:B≠0):∃Q R,a=Q*B+R/\sz R<sz B:=abn b _ a<|di _
def zz:∀(n:I)(b B:Rx),sz B<n->∃c U a,c∣b/\c∣B/\c=U*b+a*B
 |0,_,_,i=>by omega
 |n+1,b,B,i=>by
  by_cases d:B=0
  .subst d;exact⟨b,1,0,dvd_refl b,dvd_zero b,by rw[one_mul,mul_zero,add_zero]⟩
  .let ⟨Q,R,f,h2⟩:=RX b d;let ⟨c,U,a,g,k,l⟩:=zz n B R S;refine⟨c,a,U-a*Q,?_,g,?_⟩
   .rw[f];exact dvd_add (dz g Q) k
   .rw[l,f,mul_add,sub_mul];have:a*(Q*B)+a*R+(U*B-a*Q*B)=(U*B-a*Q*B+a*Q*B)+a*R:=eT;rw[this,kL]
def Co(a B:Rx):Prop:=∃U V,U*a+V*B=1
def Co.dvd{a B C}(b:Co a B)(k:a∣B*C):a∣C:=by
 let ⟨U,V,b⟩:=b;have:C=C*U*a+V*(B*C):=by have c:C*(U*a)+C*(V*B)=C*U*a+V*(B*C):=eT;rw[<-c,<-mul_add,b,mul_one]
 rw[this];exact dvd_add (dvd_mul_left a _)<|dz k V
def Co.Mb{a B C}(c:Co a B)(b:a∣C)(kb:B∣C):a*B∣C:=by obtain⟨w,rfl⟩:=kb;rw[mul_comm w B]at b;obtain⟨v,rfl⟩:=c.dvd b;exact⟨v,eT⟩
def bw(Q:Rx):Prop:=2<=sz Q/\∀A B,Q=A*B->sz A=1\/sz B=1
def bw.ne{Q}(a:bw Q):Q≠0:=λe=>by have:=a.1;rw[e,kd]at this;omega
def bw.or{Q}(c:bw Q) a:Q∣a\/Co Q a:=by
 let ⟨D,U,V,d,h2,f⟩:=zz _ Q a<|di _;let ⟨w,hw⟩:=d;rcases c.2 _ _ hw with e|e
 .let ⟨B,b⟩:=tu e;left;refine dvd_trans ⟨B,?_⟩ h2;rw[hw,<-mul_assoc,b,one_mul]
 .let ⟨B,b⟩:=tu e;right;refine⟨B*U,B*V,?_⟩;rw[<-b,f,mul_add,mul_assoc,mul_assoc]
def bw.uU{Q}(a:bw Q):¬Q∣1:=λe=>by have:=dvd_one e;have:=a.1;omega
def bw.nq{Q}(b:bw Q){a B}(k:Q∣a*B):Q∣a\/Q∣B:=by
 rcases b.or a with e|e
 .exact .inl e
 .exact .inr<|e.dvd k
def qO:∀(n:I)(a:Rx),sz a<n->2<=sz a->∃Q,bw Q/\Q∣a
 |0,_,k,_=>by omega
 |n+1,a,k,h2=>by
  by_cases c:bw a
  .exact⟨a,c,dvd_refl a⟩
  .have:∃B C,a=B*C/\¬(sz B=1\/sz C=1):=dQ λl=>c ⟨h2,λB C e=>dQ λd=>l ⟨B,C,e,d⟩⟩
   let ⟨B,C,e,d⟩:=this;have f:a≠0:=λe=>by rw[e,kd]at h2;omega
   have g:B≠0:=λb=>f (by rw[e,b,zero_mul])
   have i:C≠0:=λb=>f (by rw[e,b,mul_zero])
   have m:=dE g i;rw[<-e]at m;have v:=dX g;have x:=dX i;let ⟨Q,p,r⟩:=qO n B S S;exact⟨Q,p,by rw[e];exact lQ r C⟩
def xZ{a B}(d:a≠0)(f:∀Q,bw Q->Q∣a->Q∣B->False):Co a B:=by
 let ⟨D,U,V,b,h2,g⟩:=zz _ a B<|di _;have i:D≠0:=λe=>by let ⟨w,hw⟩:=b;rw[e,mul_zero]at hw;exact d hw
 have m:=dX i;by_cases e:sz D=1
 .let ⟨C,k⟩:=tu e;refine⟨C*U,C*V,?_⟩;rw[<-k,g,mul_add,mul_assoc,mul_assoc]
 .let ⟨Q,l,c⟩:=qO _ D (di _) S;exact(f Q l (dvd_trans c b)<|dvd_trans c h2).elim
end Rx
namespace Rx
def tx{a B C b:Rx}(c:a∣B)(k:C∣b):a*C∣B*b:=by obtain⟨w,rfl⟩:=c;obtain⟨v,rfl⟩:=k;exact⟨w*v,eT⟩
def tA{c}(a:c≠0):sz (K c)=1:=xY<|ov a
def Tb{a B}{c}(b:c≠0)(d:a∣K c*B):a∣B:=by
 have e:B=K c⁻¹ *(K c*B):=by rw[<-mul_assoc,ov b,one_mul]
 rw[e];exact dz d _
def bp(a:Rx):Rx:=⟨λi=>((i+1:I):O)*a (i+1),by let ⟨n,h⟩:=a.2;exact⟨n,λi b=>by rw[h (i+1) S,jA]⟩⟩
def qW a i:bp a i=((i+1:I):O)*a (i+1):=rfl
def HA x a:bp (x+a)=bp x+bp a:=ext λi=>by rw[qW,eR,eR,Rat.mul_add];rfl
def Eb c:bp (K c)=0:=ext λi=>by rw[qW,sb,M S,jA];rfl
def R0:bp 0=0:=by rw[<-l3,Eb,l3]
def amS:bp 1=0:=Eb 1
def By c x:bp (K c*x)=K c*bp x:=ext λi=>by rw[qW,iQ,iQ,qW];grind
def HB x:bp (X 1*x)=x+X 1*bp x:=ext λi=>by
 rw[qW,nP,eR,nP,s S,eJ];cases i with
 |zero=>rw[M S,pV];exact wz _
 |succ i=>
  rw[s S,eJ,qW,M8 (i+1) 1]
  grind
def HC(B:Rx):∀a:V O,bp (lx a*B)=bp (lx a)*B+lx a*bp B
 |[]=>by rw[tH,zero_mul,R0,zero_mul,zero_mul,zero_add]
 |c::a=>by have b:=HC B a;rw[Is,add_mul,HA,By,mul_assoc,HB,b,HA,Eb,zero_add,HB];simp only[add_mul,mul_add];ac_rfl
def uV b B:bp (b*B)=bp b*B+b*bp B:=by obtain⟨a,_,rfl⟩:=kc b;exact HC B a
def HD(Q:Rx):∀a,bp (pk Q<|a+1)=pk Q a*(K ((a+1:I):O)*bp Q)
 |0=>by rw[rT];show bp Q=1*(K 1*bp Q);rw[l4,one_mul,one_mul]
 |a+1=>by rw[show pk Q (a+1+1)=pk Q (a+1)*Q from J,uV,HD Q a,M8 (a+1) 1,pE,add_mul,mul_add];rw[show(K ((1:I):O):Rx)=1 from J,one_mul,show pk Q (a+1)=pk Q a*Q from J];ac_rfl
def abo{Q}(d:2<=sz Q):bp Q≠0:=λe=>by
 obtain⟨n,b⟩:∃n,sz Q=n+1+1:=⟨sz Q-2,S⟩;have c:=It b;have a:bp Q n=(0:Rx) n:=oV;rw[qW,l0]at a;rcases zM.1 a with a|a
 .have:n+1=0:=by exact_mod_cast a
  omega
 .exact c a
def Bz{Q}:sz (bp Q)<=sz Q-1:=u6 λi a=>by rw[qW,nV S,jA]
def bw.EB{Q}(a:bw Q):¬Q∣bp Q:=λb=>by have c:=a.1;have d:=Bz (Q:=Q);exact abo c<|rY b S
def Mo(a:Rx):Prop:=a (sz a-1)=1
def Mo.ne{a}(b:Mo a):a≠0:=λe=>by subst e;have c:(0:O)=1:=b;exact absurd c A
def Mo.at{a}(b:Mo a){n}(c:sz a=n+1):a n=1:=by have:=b;rwa[Mo,c,eJ]at this
def abp{a B}{m n}(c:sz a=m+1)(d:sz B=n+1):(a*B) (m+n)=a m*B n:=xS (λi b=>nV S)<|λi b=>nV S
def EC{a}(b:a≠0):∃n,sz a=n+1:=⟨sz a-1,by have:=dX b;omega⟩
def Mo.mul{a B}(b:Mo a)(k:Mo B):Mo (a*B):=by let ⟨m,hm⟩:=EC b.ne;let ⟨n,c⟩:=EC k.ne;have d:=dE b.ne k.ne;rw[Mo,(S:sz (a*B)-1=m+n),abp hm c,b.at hm,k.at c,wz]
def Mo.zO{a B}(b:Mo (a*B))(k:Mo B):Mo a:=by
 have c:a≠0:=λe=>b.ne Hz
 let ⟨m,hm⟩:=EC c;let ⟨n,d⟩:=EC k.ne;have g:=dE c k.ne;have f:=b.at (n:=m+n) S;rw[abp hm d,k.at d,zN]at f;rw[Mo,hm];exact f
def abq:Mo 1:=by have:sz (1:Rx)=1:=np;rw[Mo,this];rfl
def Mo.pk{a:Rx}(b:Mo a):∀n,Mo (pk a n)
 |0=>abq
 |n+1=>(Mo.pk b n).mul b
def Mo.unit{a}(d:Mo a)(b:sz a=1):a=1:=by obtain⟨c,g,rfl⟩:=D8 b;have f:=d.at b;rw[show c=1 from f];rfl
def Mo.eq{a B}(b:Mo a)(k:Mo B)(c:a∣B)(f:B∣a):a=B:=by have i:=fV c k.ne;have l:=fV f b.ne;obtain⟨w,rfl⟩:=c;have d:Mo w:=k.zO b;have m:=dE d.ne b.ne;have g:w=1:=d.unit S;rw[g,one_mul]
def Tc{a}(d:a≠0):∃c:O,c≠0/\Mo (K c*a):=by
 let ⟨n,g⟩:=EC d;have f:=It g;have b:(a n)⁻¹ ≠0:=λe=>by have:=pW _ f;rw[e,tG]at this;exact absurd this A
 refine⟨(a n)⁻¹,b,?_⟩;have i:=dE (ts b) d;rw[tA b]at i;rw[Mo,(S:sz (K (a n)⁻¹ *a)-1=n),iQ,pW _ f]
def bw.smul{Q}(h:bw Q){c}(b:c≠0):bw (K c*Q):=by
 have g:=dE (ts b) h.ne;rw[tA b]at g;refine⟨DX,λf B e=>?_⟩;have i:Q=(K c⁻¹ *f)*B:=by rw[mul_assoc,<-e,<-mul_assoc,ov b,one_mul]
 rcases h.2 _ _ i with d|d
 .left;have a:c⁻¹ ≠0:=λe=>by have:=pW _ b;rw[e,tG]at this;exact absurd this A
  have k:f≠0:=λl=>by rw[l,mul_zero,kd]at d;omega
  have:=dE (ts a) k;rw[tA a]at this;omega
 .exact .inr d
def bw.assoc{Q a}(b:bw Q)(k:bw a)(c:Q∣a):a∣Q:=by
 let ⟨w,hw⟩:=c;rcases k.2 _ _ hw with e|e
 .let ⟨C,d⟩:=tu e;exact⟨C,by rw[hw,<-mul_assoc,d,one_mul]⟩
 .have:=b.1;omega
def bw.eq{Q a}(c:bw Q)(k:bw a)(d:Mo Q)(f:Mo a)(b:Q∣a):Q=a:=d.eq f b<|c.assoc k b
def mult{Q:Rx}(b:bw Q):∀(n:I)(F:Rx),sz F<n->F≠0->∃e a,F=pk Q e*a/\¬Q∣a
 |0,_,a,_=>by omega
 |n+1,F,a,i=>by
  by_cases c:Q∣F
  .obtain⟨d,rfl⟩:=c;have f:d≠0:=λe=>i Hz
   have l:=dE f b.ne;have m:=b.1;obtain⟨e,g,rfl,k⟩:=mult b n d S f;exact⟨e+1,g,by rw[pk];ac_rfl,k⟩
  .exact⟨0,F,(one_mul F).symm,c⟩
def bw.pk{Q d:Rx}(a:bw Q):∀{n:I},Q∣pk d n->0<n/\Q∣d
 |0,b=>absurd b a.uU
 |n+1,b=>by
  rcases a.nq b with c|c
  .exact⟨S,(bw.pk a c).2⟩
  .exact⟨S,c⟩
structure FL(L:V (Rx×I)):Prop where
 fq:∀x∈L,bw x.1
 mo:∀x∈L,Mo x.1
 pos:∀x∈L,1<=x.2
 oY:L.Pairwise (λx a=>x.1≠a.1)
def FL.tail{x}{b}(a:FL (x::b)):FL b:=⟨λy hy=>a.fq y mV,λy hy=>a.mo y mV,λy hy=>a.pos y mV,(im.1 a.oY).2⟩
def FL.M9:∀{f:V (Rx×I)},f.Pairwise (λx i=>x.1≠i.1)->∀{x b:Rx×I},x∈f->b∈f->x≠b->x.1≠b.1
 |i::f,n,x,b,hx,k,c=>by
  let ⟨l,h2⟩:=im.1 n;rcases df.1 hx with m|d
  .rcases df.1 k with g|a
   .exact absurd (m.trans g.symm) c
   .rw[m];exact l b a
  .rcases df.1 k with g|a
   .rw[g];exact(l x d).symm
   .exact FL.M9 h2 d a c
def pF(c:I->I):V (Rx×I)->Rx
 |[]=>1
 |x::a=>pk x.1 (c x.2)*pF c a
def zP(c d:I->I):∀a,pF (λm=>c m+d m) a=pF c a*pF d a
 |[]=>(one_mul 1).symm
 |x::a=>by rw[pF,pF,pF,zP c d a,rU];ac_rfl
def wA{c d:I->I}:∀{a:V (Rx×I)},(∀x∈a,c x.2=d x.2)->pF c a=pF d a
 |[],_=>rfl
 |x::a,b=>by rw[pF,pF,b x ax,wA<|λf hy=>b f mV]
def oZ{c:I->I}:∀{a:V (Rx×I)},(∀x∈a,Mo x.1)->Mo (pF c a)
 |[],_=>abq
 |x::a,b=>((b x ax).pk _).mul<|oZ λd hy=>b d mV
def Na{c:I->I}:∀{a:V (Rx×I)},(∀x∈a,c x.2=0)->pF c a=1
 |[],_=>rfl
 |x::a,b=>by rw[pF,b x ax,Na<|λd hy=>b d mV];exact one_mul 1
def BS{c:I->I}:∀{a:V (Rx×I)}{x:Rx×I},x∈a->0<c x.2->x.1∣pF c a
 |g::a,x,b,hc=>by
  rw[pF];rcases df.1 b with rfl|b
  .obtain⟨d,f⟩:∃d,c x.2=d+1:=⟨c x.2-1,S⟩;rw[f,pk];exact lQ (dvd_mul_left _ _) _
  .exact dz (BS b hc) _
def wB{c:I->I}{Q:Rx}(a:bw Q):∀{b:V (Rx×I)},Q∣pF c b->∃x∈b,0<c x.2/\Q∣x.1
 |[],d=>absurd d a.uU
 |g::b,d=>by
  rcases a.nq d with f|f
  .exact⟨g,ax,a.pk f⟩
  .let ⟨x,h1,h2⟩:=wB a f;exact⟨x,zA,h2⟩
def FL.abr{x}{b}(a:FL (x::b)){c:I->I}:¬x.1∣pF c b:=λd=>by let ⟨y,h1,h2,f⟩:=wB (a.fq x ax) d;exact(im.1 a.oY).1 y h1<|(a.fq x ax).eq (a.fq y zA) (a.mo x ax) (a.mo y zA) f
def FL.EB{c:I->I}(k:∀m,c m<=1):∀{g:V (Rx×I)},FL g->∀{x:Rx×I},x∈g->c x.2=1->¬x.1∣bp (pF c g)
 |d::g,a,x,hx,l,f=>by
  have i:=a.fq d ax;rcases df.1 hx with rfl|b
  .rw[pF,l,rT,uV]at f;rcases i.nq (uR ((add_comm _ _).symm▸f)<|dvd_mul_right _ _)with e|e
   .exact i.EB e
   .exact a.abr e
  .have n:=FL.EB k a.tail b l;have p:=a.fq x hx;by_cases r:c d.2=0
   .rw[pF,r]at f;exact n (by rwa[show pk d.1 0=1 from J,one_mul]at f)
   .have v:c d.2=1:=by have:=k d.2;omega
    rw[pF,v,rT,uV]at f;rcases p.nq (uR f<|dz (BS b S) _)with e|e
    .exact(im.1 a.oY).1 x b (p.eq i (a.mo x hx) (a.mo d ax) e).symm
    .exact n e
def abt{c:I->I}(g:∀m,c m<=1){b:Rx}:∀{d:V (Rx×I)},FL d->(∀x∈d,c x.2=1->x.1∣b)->pF c d∣b
 |[],_,_=>⟨b,(mul_one b).symm⟩
 |a::d,f,i=>by
  have k:=abt g f.tail<|λx hx=>i x iB;rw[pF];by_cases n:c a.2=0
  .rw[n,show pk a.1 0=1 from J,one_mul];exact k
  .have l:c a.2=1:=by have:=g a.2;omega
   rw[l,rT];refine Co.Mb (xZ (f.mo a ax).ne λQ p r v=>?_) (i a ax l) k;exact f.abr<|dvd_trans (p.assoc (f.fq a ax) r) v
def Td:∀(n:I)(F:Rx),sz F<n->Mo F->∃l,FL l/\pF id l=F
 |0,_,P,_=>by omega
 |n+1,F,P,i=>by
  have W:=dX i.ne;by_cases e:sz F=1
  .exact⟨[],⟨ax,ax,ax,.nil⟩,(i.unit e).symm⟩
  .let ⟨Q,p,R⟩:=qO _ F (di _) S;let ⟨c,hc,hm⟩:=Tc p.ne;have m:=p.smul hc;have r:K c*Q∣F:=dvd_trans (p.assoc m<|dvd_mul_left _ _) R;generalize K c*Q=q at*;let ⟨e,g,k,B⟩:=mult m _ F (di _) i.ne;have U:1<=e:=by
    rcases qF e with b|b
    .subst b;rw[show pk q 0=1 from J,one_mul]at k;exact absurd (k▸r) B
    .exact b
   have C:Mo g:=by rw[k,mul_comm]at i;exact i.zO<|hm.pk e
   have X:sz g<sz F:=by have E:=dE (hm.pk e).ne C.ne;rw[<-k]at E;obtain⟨d,rfl⟩:∃d,e=d+1:=⟨e-1,S⟩;have f:=dE (hm.pk d).ne hm.ne;have v:=dX (hm.pk d).ne;have j:=m.1;rw[show pk q (d+1)=pk q d*q from J]at E;omega
   let ⟨l,f,v⟩:=Td n g S C;refine⟨(q,e)::l,⟨?_,?_,?_,im.2 ⟨λy H b=>?_,f.oY⟩⟩,?_⟩
   .intro x a;rcases df.1 a with rfl|a
    .exact m
    .exact f.fq x a
   .intro x a;rcases df.1 a with rfl|a
    .exact hm
    .exact f.mo x a
   .intro x a;rcases df.1 a with rfl|a
    .exact U
    .exact f.pos x a
   .refine B ?_;rw[<-v];have b:q=y.1:=b;rw[b];exact BS H<|f.pos y H
   .rw[pF,v];exact k.symm
structure zQ(D A B:Rx):Prop where
 mo:Mo D
 l:D∣A
 r:D∣B
 ex:∃U V,D=U*A+V*B
def kW(n:I):I->I:=λm=>if n<=m then 1 else 0
def kP(n:I):I->I:=λm=>if m=n then 1 else 0
def kG:I->I:=λm=>m-1
def Nb n:∀m,kW n m<=1:=λm=>by unfold kW;split<;>omega
def BT n:∀m,kP n m<=1:=λm=>by unfold kP;split<;>omega
def zR{n m}:kW n m=1↔n<=m:=by unfold kW;split<;>omega
def Iv{n m}:kP n m=1↔m=n:=by unfold kP;split<;>omega
def BU n a:pF (kW n) a=pF (kP n) a*pF (kW<|n+1) a:=by rw[<-zP];exact wA λx _=>by unfold kW kP;split<;>split<;>split<;>omega
def Iw{a}(b:FL a):pF id a=pF (kW 1) a*pF kG a:=by rw[<-zP];exact wA λx c=>by have:=b.pos x c;show x.2=kW 1 x.2+kG x.2;unfold kW kG;split<;>omega
def Yp(a:V (Rx×I))(n:I)(b:Rx):Prop:=∀x∈a,n<=x.2->x.1∣b-K ((x.2:O)-(n:O)+1)*bp (pF (kW n) a)
def abu:∀{b:V (Rx×I)},FL b->∃c,bp (pF id b)=c*pF kG b/\∀x∈b,x.1∣c-K (x.2:O)*bp (pF (kW 1) b)
 |[],_=>⟨0,by rw[zero_mul];exact amS,λx hx=>by simp at hx⟩
 | (a,m)::b,d=>by
  let ⟨c,i,h2⟩:=abu d.tail;have r:1<=m:=d.pos (a,m) ax;obtain⟨e,rfl⟩:∃e,m=e+1:=⟨m-1,S⟩;have k:pF (kW 1) ((a,e+1)::b)=a*pF (kW 1) b:=by rw[pF,zR.2 S,rT]
  have l:pF kG ((a,e+1)::b)=pk a e*pF kG b:=rfl;have n:pF id ((a,e+1)::b)=pk a e*a*pF id b:=rfl;refine⟨K ((e+1:I):O)*bp a*pF (kW 1) b+a*c,?_,?_⟩
  .rw[n,l,uV,i,show pk a e*a=pk a (e+1)from J,HD,Iw d.tail,show pk a (e+1)=pk a e*a from J,add_mul];ac_rfl
  .intro x hx;rw[k,uV];rcases df.1 hx with rfl|hx
   .refine⟨c-K ((e+1:I):O)*bp (pF (kW 1) b),?_⟩;show K ((e+1:I):O)*bp a*pF (kW 1) b+a*c-K ((e+1:I):O)*(bp a*pF (kW 1) b+a*bp (pF (kW 1) b))=_;rw[sub_mul];refine sub_eq ?_;rw[mul_add];have f:c*a-K ((e+1:I):O)*bp (pF (kW 1) b)*a+(K ((e+1:I):O)*(bp a*pF (kW 1) b)+K ((e+1:I):O)*(a*bp (pF (kW 1) b)))=(c*a-K ((e+1:I):O)*bp (pF (kW 1) b)*a+K ((e+1:I):O)*bp (pF (kW 1) b)*a)+K ((e+1:I):O)*(bp a*pF (kW 1) b):=eT;rw[f,kL];ac_rfl
   .have p:=h2 x hx;have g:x.1∣pF (kW 1) b:=BS hx (by rw[zR.2 (d.pos x iB)];omega);rw[mul_add,RR];refine dvd_add (dvd_sub (dz g _)<|dz (dz g _) _) ?_;have f:a*c-K (x.2:O)*(a*bp (pF (kW 1) b))=a*(c-K (x.2:O)*bp (pF (kW 1) b)):=by rw[mul_sub];congr 1;ac_rfl
    rw[f];exact dz p a
def x9{m:I}(a:m≠0):(m:O)≠0:=λe=>a (by exact_mod_cast e)
def abv{a}(b:FL a){f}(n:zQ f (pF id a) (bp<|pF id a)):f=pF kG a/\∃d,bp (pF id a)=d*f/\Yp a 1 d:=by
 let ⟨d,i,h2⟩:=abu b;have g:=Iw b;have k:Co (pF (kW 1) a) d:=xZ (oZ b.mo).ne λQ m q1 p=>by let ⟨x,c,F,r⟩:=wB m q1;have v:=dvd_trans (m.assoc (b.fq x c) r) p;have B:=D2 (kM<|h2 x c) v;exact FL.EB (Nb 1) b c (zR.2<|b.pos x c)<|Tb (x9<|by have:=b.pos x c;omega) B
 let ⟨C,E,l⟩:=k;let ⟨d1,d2,d3,U,V,d4⟩:=n;have e:f=pF kG a:=by
  refine d1.eq (oZ b.mo) ?_ ?_
  .have:pF kG a=C*pF id a+E*bp (pF id a):=by rw[g,<-g,i,<-mul_assoc,g,<-mul_assoc,<-add_mul,l,one_mul]
   rw[this];exact dvd_add (dz d2 _)<|dz d3 _
  .rw[d4,i];refine dvd_add (dz ?_ _)<|dz (dvd_mul_left _ _) _;rw[g];exact dvd_mul_left _ _
 refine⟨e,d,by rw[e];exact i,λx c _=>?_⟩;rw[show(x.2:O)-((1:I):O)+1=(x.2:O)by show(x.2:O)-1+1=_;grind];exact h2 x c
def amT{d}(g:FL d){n}{i r}(hy:Yp d n i)(hD:zQ r (pF (kW n) d) (i-bp (pF (kW n) d))):r=pF (kP n) d/\∃l,i-bp (pF (kW n) d)=l*r/\Yp d (n+1) l:=by
 have E:∀x∈d,n<=x.2->x.1∣(i-bp (pF (kW n) d))-K ((x.2:O)-(n:O))*bp (pF (kW n) d):=λx f p=>by
  have k:=hy x f p;rw[pE,add_mul,l4,one_mul]at k;have e:(i-bp (pF (kW n) d))-K ((x.2:O)-(n:O))*bp (pF (kW n) d)=i-(K ((x.2:O)-(n:O))*bp (pF (kW n) d)+bp (pF (kW n) d)):=by refine sub_eq ?_;refine sub_eq ?_;rw[add_assoc,kL]
  rw[e];exact k
 have j:pF (kP n) d∣i-bp (pF (kW n) d):=abt (BT n) g λx f q=>by have p:=Iv.1 q;have k:=E x f S;rw[p,Rat.sub_self,l3,zero_mul,sub_zero]at k;exact k
 let ⟨d1,d2,d3,U,V,d4⟩:=hD;have e:r=pF (kP n) d:=by
  refine d1.eq (oZ g.mo) ?_ ?_
  .have F:Co r (pF (kW<|n+1) d):=xZ d1.ne λQ o q1 s=>by
    let ⟨x,f,Y,H⟩:=wB o s;have p:n+1<=x.2:=zR.1 (by have:=Nb (n+1) x.2;omega);have P:x.1∣i-bp (pF (kW n) d):=dvd_trans (o.assoc (g.fq x f) H)<|dvd_trans q1 d3;have C:=D2 (kM<|E x f S) P;have t:(x.2:O)-(n:O)≠0:=λe=>by
     have:(x.2:O)=(n:O):=by grind
     have:x.2=n:=by exact_mod_cast this
     omega
    exact FL.EB (Nb n) g f (zR.2 S)<|Tb t C
   rw[BU,mul_comm]at d2;exact F.dvd d2
  .rw[d4];refine dvd_add (dz ?_ _)<|dz j _;rw[BU];exact dvd_mul_right _ _
 let ⟨l,v⟩:=j;refine⟨e,l,by rw[e];exact v,λx f p=>?_⟩;have k:=E x f S;rw[v,BU,uV,mul_add]at k;have H:x.1∣pF (kW<|n+1) d:=BS f (by rw[zR.2 p];omega);have P:x.1∣pF (kP n) d*(l-K ((x.2:O)-((n+1:I):O)+1)*bp (pF (kW<|n+1) d)):=by
  have B:(x.2:O)-((n+1:I):O)+1=(x.2:O)-(n:O):=by rw[M8];grind
  rw[B,mul_sub];have C:=dvd_add k<|dz (dz H<|bp<|pF (kP n) d)<|K<|(x.2:O)-(n:O);have u:l*pF (kP n) d-(K ((x.2:O)-(n:O))*(bp (pF (kP n) d)*pF (kW<|n+1) d)+K ((x.2:O)-(n:O))*(pF (kP n) d*bp (pF (kW<|n+1) d)))+K ((x.2:O)-(n:O))*(bp (pF (kP n) d)*pF (kW<|n+1) d)=pF (kP n) d*l-pF (kP n) d*(K ((x.2:O)-(n:O))*bp (pF (kW<|n+1) d)):=by
   refine D1 ?_;have w:∀a b c:Rx,a-(b+c)+b+c=a:=λa b c=>by rw[add_assoc,kL]
   have A:pF (kP n) d*(K ((x.2:O)-(n:O))*bp (pF (kW<|n+1) d))=K ((x.2:O)-(n:O))*(pF (kP n) d*bp (pF (kW<|n+1) d)):=eT;rw[A,w,mul_comm]
  rw[u]at C;exact C
 rcases(g.fq x f).nq P with B|B
 .let ⟨z,m,G,R⟩:=wB (g.fq x f) B;have J:z.2=n:=Iv.1 (by have:=BT n z.2;omega);have W:x.1=z.1:=(g.fq x f).eq (g.fq z m) (g.mo x f) (g.mo z m) R;exact absurd W (λM=>by
   have X:x≠z:=λN=>by subst N;omega
   have T:=g.oY;exact FL.M9 T f m X M)
 .exact B
end Rx
def bG:I->I
 |0=>1
 |n+1=>(n+1)*bG n
def Ix:∀n,0<bG n
 |0=>Fs
 |n+1=>xF (Nat.succ_pos n)<|Ix n
def u7:∀i a,ch (i+a) i*(bG i*bG a)=bG (i+a)
 |0,a=>by rw[dU,rR,bG,iL,iL]
 |i+1,0=>by rw[jE,Hg,show bG 0=1 from J,kI,iL]
 |i+1,a+1=>by
  have b:=u7 i<|a+1;have c:=u7 (i+1) a;rw[(S:i+1+(a+1)=(i+(a+1))+1),ch,show bG (i+(a+1)+1)=(i+(a+1)+1)*bG (i+(a+1))from J,g7];rw[(S:i+(a+1)=i+1+a)]at b⊢;have d:ch (i+1+a) i*(bG (i+1)*bG (a+1))=(i+1)*bG (i+1+a):=by rw[<-b,bG];ac_rfl
  have f:ch (i+1+a) (i+1)*(bG (i+1)*bG (a+1))=(a+1)*bG (i+1+a):=by rw[<-c,show bG (a+1)=(a+1)*bG a from J];ac_rfl
  rw[d,f,<-g7,(S:i+1+(a+1)=i+1+a+1)]
def sN(f:I->I):I->I
 |0=>0
 |k+1=>sN f k+f k
def abw{f g:I->I}:∀{k:I},(∀i,i<k->f i=g i)->sN f k=sN g k
 |0,_=>rfl
 |k+1,a=>by rw[sN,sN,abw<|λi b=>a i S,a k S]
def abx(f g:I->I):∀k,sN (λi=>f i+g i) k=sN f k+sN g k
 |0=>rfl
 |k+1=>by simp only[sN,abx f g k];omega
def Nc(f:I->I):∀k,sN f (k+1)=f 0+sN (λi=>f<|i+1) k
 |0=>by simp[sN]
 |k+1=>by rw[sN,Nc f k,sN];omega
def Te(f:I):∀a k,ch (a+f) k=sN (λb=>ch a b*ch f (k-b)) (k+1)
 |0,k=>by
  rw[Nc,rR,iL,dU,wb];have:sN (λi=>ch 0 (i+1)*ch f (k-(i+1))) k=0:=by
   have e:∀c,sN (λi=>ch 0 (i+1)*ch f (k-(i+1))) c=0:=λc=>by
    induction c with
    |zero=>rfl
    |succ n d=>rw[sN,d,zq 0 (n+1) S,vQ]
   exact e k
  rw[this];rfl
 |a+1,0=>by rw[rR,sN,sN,rR,rR]
 |a+1,k+1=>by
  rw[(S:a+1+f=a+f+1),ch,Te f a k,Te f a<|k+1,Nc<|λb=>ch (a+1) b*ch f (k+1-b),Nc<|λb=>ch a b*ch f (k+1-b)];have e:sN (λi=>ch (a+1) (i+1)*ch f (k+1-(i+1))) (k+1)=sN (λi=>ch a i*ch f (k-i)) (k+1)+sN (λi=>ch a (i+1)*ch f (k+1-(i+1))) (k+1):=by
   rw[<-abx];refine abw λi _=>?_
   rw[ch,g7,(S:k+1-(i+1)=k-i)]
  rw[e,rR,rR];omega
def ya{f:I->Z}{a:I}:∀{n:I},a<n->(∀i,i<n->i≠a->f i=0)->sm f n=f a
 |0,c,_=>by omega
 |n+1,c,b=>by
  rw[sm];by_cases d:a=n
  .subst d;rw[nk (λi g=>b i S S),zj]
  .rw[ya (n:=n) S (λi g=>b i S),b n S S,mT]
def aby(f:I->I):∀k,((sN f k:I):Z)=sm (λi=>((f i:I):Z)) k
 |0=>rfl
 |k+1=>by rw[sN,sm,uG,aby f k]
def tI(F:I->I->Z)(m:I):∀n,sm (λi=>sm (λa=>F i a) m) n=sm (λa=>sm (λi=>F i a) n) m
 |0=>(nk λ_ _=>rfl).symm
 |n+1=>by rw[sm,tI F m n,<-Bi];rfl
def Nd{f:I->Z}:∀{n:I},(∀i,i<n->0<=f i)->0<=sm f n
 |0,_=>gk _
 |n+1,a=>by
  have b:=Nd (f:=f) (n:=n) λi c=>a i S
  have d:=a n S;rw[sm];omega
def Iy{f g:I->Z}:∀{n:I},(∀i,i<n->f i<=g i)->sm f n<=sm g n
 |0,_=>gk _
 |n+1,a=>by
  have b:=Iy (f:=f) (g:=g) (n:=n) λi c=>a i S
  have d:=a n S;rw[sm,sm];omega
def Nf{f:I->Z}{a n}(c:a<n)(d:∀i,i<n->0<=f i):f a<=sm f n:=by
 have e:sm (λi=>if i=a then f a else 0) n=f a:=(ya c λi _ b=>M b).trans<|s J;rw[<-e];refine Iy λi b=>?_
 split
 .rename_i e;subst e;exact gk _
 .exact d i b
def s2(k l:I)(F:I->I->Z):Z:=sm (λa=>sm (λe=>F a e)<|l+1)<|k+1
def va{k l}{F c:I->I->Z}(d:∀a b,a<=k->b<=l->F a b=c a b):s2 k l F=s2 k l c:=gi λa f=>gi λb g=>d a b S S
def wC k l c(F:I->I->Z):s2 k l (λa b=>c*F a b)=c*s2 k l F:=by unfold s2;rw[<-th];exact gi λa _=>th _ _ _
def Tf k l c(F:I->I->Z):s2 k l (λa b=>F a b*c)=s2 k l F*c:=by rw[ew,<-wC];exact va λ_ _ _ _=>ew _ _
def Ng k l f g(F:I->I->I->I->Z):s2 k l (λa c=>s2 f g<|λb d=>F a c b d)=s2 f g (λb d=>s2 k l<|λa c=>F a c b d):=by
 unfold s2;have i:∀a,sm (λc=>sm (λb=>sm (λd=>F a c b d)<|g+1)<|f+1) (l+1)=sm (λb=>sm (λd=>sm (λc=>F a c b d)<|l+1)<|g+1) (f+1):=λa=>by rw[tI];exact gi λb _=>tI _ _ _
 rw[gi λa _=>i a,tI];exact gi λb _=>tI _ _ _
def amU{k l}{F c:I->I->Z}(d:∀a b,a<=k->b<=l->F a b<=c a b):s2 k l F<=s2 k l c:=Iy λa f=>Iy λb g=>d a b S S
def amV{k l}{F:I->I->Z}{a e}(c:a<=k)(g:e<=l)(b:∀a e,a<=k->e<=l->0<=F a e):F a e<=s2 k l F:=by refine tJ (Nf (f:=λe=>F a e) (a:=e) (n:=l+1) S λi d=>b a i c S) ?_;exact Nf (f:=λa=>sm (λe=>F a e)<|l+1) (a:=a) (n:=k+1) S λi d=>Nd λj m=>b i j S S
def amW{k l}{F:I->I->Z}{a d}(n:a<=k)(r:d<=l)(m:∀i b,i<=k->b<=l->¬(i=a/\b=d)->F i b=0):s2 k l F=F a d:=by unfold s2;rw[ya (a:=a) S λi v c=>nk λb p=>m i b S S λg=>c g.1];exact ya (f:=λd=>F a d) (a:=d) S λb p c=>m a b n S λg=>c g.2
def eta(b c a d:I):Z:=if b<=a/\c<=d/\a-b=d-c then((ch a b*ch d c*bG (a-b):I):Z)else 0
def abz{k l a e a' f}(ha:a<=k)(he:e<=l)(g:a'<=k)(hf:f<=l):(if a+f=a'+e then((bG (a+f):I):Z)else 0)=s2 k l (λb c=>((bG b*bG c:I):Z)*(eta b c a e*eta b c a' f)):=by
 by_cases h:a+f=a'+e
 .rw[s h,h,<-u7 a' e,<-h,Te f a a',fF,aby];have E:sm (λb=>((ch a b*ch f (a'-b):I):Z)) (a'+1)=sm (λb=>((ch a b*ch f (a'-b):I):Z)*(if b<=a' then 1 else 0)) (k+1):=by
   have F:∀n,a'<=n->sm (λb=>((ch a b*ch f (a'-b):I):Z)*(if b<=a' then 1 else 0)) (n+1)=sm (λb=>((ch a b*ch f (a'-b):I):Z)) (a'+1):=λn u=>by
    induction n with
    |zero=>
     have:a'=0:=S
     subst this
     exact gi λi H=>by rw[s S,lA]
    |succ n K=>
     by_cases P:a'<=n
     .rw[sm,K P,M S,dI,mT]
     .have:a'=n+1:=by omega
      subst this;exact gi λi H=>by rw[s S,lA]
   exact(F k g).symm
  rw[E,<-Rm];unfold s2;refine gi λb Q=>?_
  by_cases m:b<=a'/\b<=a/\a-b<=e
  .let ⟨m,h2,R⟩:=m;rw[s m,lA];rw[ya (a:=e-(a-b)) S λc r U=>?_]
   .have d:b<=a/\e-(a-b)<=e/\a-b=e-(e-(a-b)):=by omega
    have W:b<=a'/\e-(a-b)<=f/\a'-b=f-(e-(a-b)):=S;dsimp only;rw[eta,s d,eta,s W];have X:=u7 b<|a-b;have v:=u7 (e-(a-b))<|a-b;have x:=u7 b<|a'-b;have B:=u7 (e-(a-b))<|a'-b;have C:=u7 (a'-b)<|e-(a-b);rw[(S:b+(a-b)=a)]at X;rw[(S:e-(a-b)+(a-b)=e)]at v;rw[(S:b+(a'-b)=a')]at x;rw[(S:e-(a-b)+(a'-b)=f)]at B;rw[(S:a'-b+(e-(a-b))=f)]at C;have p:ch a b*ch f (a'-b)*(bG a'*bG e)=bG b*bG (e-(a-b))*(ch a b*ch e (e-(a-b))*bG (a-b)*(ch a' b*ch f (e-(a-b))*bG (a'-b))):=by rw[<-x,<-v];have j:ch f (a'-b)*(bG (a'-b)*bG (e-(a-b)))=ch f (e-(a-b))*(bG (e-(a-b))*bG (a'-b)):=C.trans B.symm;have o:ch a b*ch f (a'-b)*(ch a' b*(bG b*bG (a'-b))*(ch e (e-(a-b))*(bG (e-(a-b))*bG (a-b))))=ch a b*ch a' b*bG b*ch e (e-(a-b))*bG (a-b)*(ch f (a'-b)*(bG (a'-b)*bG (e-(a-b)))):=eT;rw[o,j];ac_rfl
    rw[<-fF,<-fF,<-fF,p]
   .have:¬(b<=a/\c<=e/\a-b=e-c):=by omega
    dsimp only;rw[eta,M this,ko,dI]
  .have q:((ch a b*ch f (a'-b):I):Z)*(if b<=a' then 1 else 0)=0:=by
    by_cases h2:b<=a'
    .by_cases R:b<=a
     .rw[zq f (a'-b) S,Et];simp
     .rw[zq a b S,vQ];simp
    .rw[M h2,dI]
   rw[q,ko];refine(nk λc r=>?_).symm;by_cases d:b<=a/\c<=e/\a-b=e-c
   .have:¬(b<=a'/\c<=f/\a'-b=f-c):=by omega
    dsimp only;rw[show eta b c a' f=0 by rw[eta,if_neg this],Iz,Iz]
   .dsimp only;rw[eta,if_neg d,Int.zero_mul,Iz]
 .rw[M h];unfold s2;refine(nk λb Q=>nk λc r=>?_).symm;by_cases d:b<=a/\c<=e/\a-b=e-c
  .have:¬(b<=a'/\c<=f/\a'-b=f-c):=by omega
   dsimp only;rw[show eta b c a' f=0 by rw[eta,if_neg this],Iz,Iz]
  .dsimp only;rw[eta,if_neg d,Int.zero_mul,Iz]
def abA a b:eta a b a b=1:=by rw[eta,s S,Hg,Hg,gx];rfl
def BV(x:Z):0<=x*x:=by
 rcases Int.le_total 0 x with h|h
 .exact jm h h
 .have:=jm (a:= -x) (b:= -x) S S;rwa[Int.neg_mul_neg]at this
def amX k l(m:I->I->Z):
  s2 k l (λc d=>((bG c*bG d:I):Z)*((bG (k-c)*bG (l-d):I):Z)*(m c d*m c d))<=
  s2 k l (λa b=>s2 k l<|λg f=>m a b*m g f*((if a+f=g+b then((bG (a+f):I):Z)else 0)*(if(k-a)+(l-f)=(k-g)+(l-b)then((bG ((k-a)+(l-f)):I):Z)else 0))):=by
 have v:s2 k l (λa b=>s2 k l<|λg f=>m a b*m g f*((if a+f=g+b then((bG (a+f):I):Z)else 0)*(if(k-a)+(l-f)=(k-g)+(l-b)then((bG ((k-a)+(l-f)):I):Z)else 0)))=
   s2 k l (λc d=>s2 k l<|λn p=>((bG c*bG d:I):Z)*((bG n*bG p:I):Z)*(s2 k l (λa b=>m a b*(eta c d a b*eta n p (k-a) (l-b)))*s2 k l (λa b=>m a b*(eta c d a b*eta n p (k-a) (l-b))))):=by
  have x:∀a b,a<=k->b<=l->s2 k l (λg f=>m a b*m g f*((if a+f=g+b then((bG (a+f):I):Z)else 0)*(if(k-a)+(l-f)=(k-g)+(l-b)then((bG ((k-a)+(l-f)):I):Z)else 0)))=s2 k l (λc d=>s2 k l<|λn p=>((bG c*bG d:I):Z)*((bG n*bG p:I):Z)*(m a b*(eta c d a b*eta n p (k-a) (l-b))*s2 k l (λa b=>m a b*(eta c d a b*eta n p (k-a) (l-b))))):=by
   intro a b B C;have E:∀g f,g<=k->f<=l->m a b*m g f*((if a+f=g+b then((bG (a+f):I):Z)else 0)*(if(k-a)+(l-f)=(k-g)+(l-b)then((bG ((k-a)+(l-f)):I):Z)else 0))=s2 k l (λc d=>s2 k l<|λn p=>((bG c*bG d:I):Z)*((bG n*bG p:I):Z)*(m a b*(eta c d a b*eta n p (k-a) (l-b))*(m g f*(eta c d g f*eta n p (k-g) (l-f))))):=by
    intro g f r F;rw[abz B C r F,abz (k:=k) (l:=l) (a:=k-a) (e:=l-b) (a':=k-g) (f:=l-f) S S S S,<-Tf,<-wC];refine va λc d _ _=>?_
    rw[<-wC,<-wC];refine va λn p _ _=>?_
    ac_rfl
   rw[va E,Ng];refine va λc d _ _=>?_
   rw[Ng];refine va λn p _ _=>?_
   rw[<-wC,<-wC]
  rw[va x,Ng]
  refine va λc d _ _=>?_
  rw[Ng]
  refine va λn p _ _=>?_
  rw[wC,Tf]
 rw[v]
 refine amU λc d H K=>?_
 refine tJ (abB ?_)<|amV (k:=k) (l:=l) (a:=k-c) (e:=l-d) S S λn p _ _=>jm (jm (nM _)<|nM _)<|BV _
 have P:s2 k l (λa b=>m a b*(eta c d a b*eta (k-c) (l-d) (k-a) (l-b)))=m c d:=by
  rw[amW H K λi j R U Q=>?_]
  .rw[abA,abA,lA,lA]
  .by_cases c1:c<=i/\d<=j/\i-c=j-d
   .have:¬(k-c<=k-i/\l-d<=l-j/\k-i-(k-c)=l-j-(l-d)):=by omega
    rw[show eta (k-c) (l-d) (k-i) (l-j)=0 by rw[eta,M this],dI,dI]
   .rw[eta,M c1,ko,dI]
 rw[P]
def Bw(n:I)(a:I->Z):Z:=sm (λi=>((bG i*bG (n-i):I):Z)*(a i*a i))<|n+1
def amY{b B:PS}{k l i}(p:∀c,k<c->b c=0)(r:∀c,l<c->B c=0):(b*B) i=s2 k l (λa f=>if a+f=i then b a*B f else 0):=by
 rw[PS.gG];unfold s2;have v:∀a,a<=i->b a*B (i-a)=sm (λf=>if a+f=i then b a*B f else 0) (l+1):=λa g=>by
  by_cases e:i-a<=l
  .rw[ya (a:=i-a) S λf _ x=>M S,s S]
  .rw[r (i-a) S,dI];exact(nk λf Q=>M S).symm
 rw[gi λa g=>v a S];have m:∀n,(∀a,n<=a->sm (λf=>if a+f=i then b a*B f else 0) (l+1)=0)->∀d,sm (λa=>sm (λf=>if a+f=i then b a*B f else 0)<|l+1) (n+d)=sm (λa=>sm (λf=>if a+f=i then b a*B f else 0)<|l+1) n:=λn C d=>by
  induction d with
  |zero=>rfl
  |succ d E=>rw[<-qv,sm,E,C _ S,mT]
 have F:∀a,i+1<=a->sm (λf=>if a+f=i then b a*B f else 0) (l+1)=0:=λa g=>nk λf _=>M S
 have H:∀a,k+1<=a->sm (λf=>if a+f=i then b a*B f else 0) (l+1)=0:=λa g=>nk λf _=>by rw[p a S,ko,ite_self]
 have K:=m _ F<|k+1;have P:=m _ H<|i+1;rw[<-K,<-P];congr 1;omega
def amZ{d B:PS}{k l}(x:∀g,k<g->d g=0)(E:∀g,l<g->B g=0):Bw k d*Bw l B<=Bw (k+l) (d*B):=by
 have v:=amX k l<|λa e=>d a*B e;have C:s2 k l (λt m=>((bG t*bG m:I):Z)*((bG (k-t)*bG (l-m):I):Z)*(d t*B m*(d t*B m)))=Bw k d*Bw l B:=by
  unfold Bw s2;rw[<-Rm];refine gi λt _=>?_
  rw[<-th];refine gi λm _=>?_
  simp only[fF];ac_rfl
 rw[C]at v;refine tJ v<|abB ?_;have F:Bw (k+l) (d*B)=s2 k l (λa f=>s2 k l<|λb e=>d a*B f*(d b*B e)*(if a+f=b+e then((bG (a+f)*bG (k+l-(a+f)):I):Z)else 0)):=by
  unfold Bw;have H:∀i,i<k+l+1->((bG i*bG (k+l-i):I):Z)*((d*B) i*(d*B) i)=s2 k l (λa f=>s2 k l<|λb e=>d a*B f*(d b*B e)*(if a+f=i then(if b+e=i then((bG i*bG (k+l-i):I):Z)else 0)else 0)):=λi _=>by
   rw[amY x E,<-Tf,<-wC];refine va λa f _ _=>?_
   rw[<-wC,<-wC];refine va λb e _ _=>?_
   by_cases c1:a+f=i
   .by_cases n:b+e=i
    .rw[s c1,s c1,s n,s n,ew]
    .rw[M n,M n,ite_self];simp only[dI]
   .rw[M c1,M c1,ko,dI,dI]
  rw[gi H];unfold s2;rw[tI];refine gi λa K=>?_
  rw[tI];refine gi λf P=>?_
  rw[tI];refine gi λb p=>?_
  rw[tI];refine gi λe Q=>?_
  rw[th];congr 1;rw[ya (a:=a+f) S λi _ r=>M λh=>r h.symm,s J];by_cases c:a+f=b+e
  .rw[s c.symm,s c]
  .rw[M λh=>c h.symm,M c]
 rw[F];unfold s2;refine gi λa K=>?_
 have R:∀(G:I->I->I->Z),sm (λe=>sm (λb=>sm (λf=>G e b f)<|l+1)<|k+1) (l+1)=sm (λf=>sm (λb=>sm (λe=>G e b f)<|l+1)<|k+1) (l+1):=λG=>by
  rw[tI];have U:sm (λb=>sm (λe=>sm (λf=>G e b f)<|l+1)<|l+1) (k+1)=sm (λb=>sm (λf=>sm (λe=>G e b f)<|l+1)<|l+1) (k+1):=gi λb _=>tI _ _ _
  rw[U,tI]
 rw[R];refine gi λf P=>gi λb p=>gi λe Q=>?_
 by_cases c:a+f=b+e
 .dsimp only;rw[s c,s S,s c,<-fF,(S:k-a+(l-f)=k+l-(a+f))];ac_rfl
 .dsimp only;rw[M c,M c,ko,dI,dI]
def abC{P:I->Prop}:∀n,P n->∃m,P m/\∀k,k<m->¬P k:=by
 intro n;induction n using Nat.strongRecOn with
 |ind n a=>
  intro h
  by_cases e:∃k,k<n/\P k
  .let ⟨k,b,h2⟩:=e;exact a k b h2
  .exact⟨n,h,λk c d=>e ⟨k,c,d⟩⟩
def am0{k}(f:2<=k):∃b,cE b/\b∣k:=by
 let ⟨m,⟨g,h2⟩,i⟩:=abC (P:=λd=>2<=d/\d∣k) k ⟨f,Nat.dvd_refl k⟩;refine⟨m,⟨g,λd c l n=>?_⟩,h2⟩;have a:d<m:=by have:d*2<=d*d:=jw d c;omega
 exact i d a ⟨c,ED (qH n) h2⟩
def abD(f:I->Z):∀k,((sm f k:Z):O)=sq (λi=>(f i:O)) k
 |0=>rfl
 |k+1=>by rw[sm,sq,Rat.intCast_add,abD f k]
namespace Rx
def ef(a:Rx):Prop:=∀i,a i=((a i).num:O)
def nu(a:Rx):PS:=λi=>(a i).num
def ef.of{a}(c:∀i,∃b:Z,a i=(b:O)):ef a:=λi=>by let ⟨b,d⟩:=c i;rw[d];rfl
def ef.at{a}(b:ef a) i:a i=((nu a i:Z):O):=b i
def ef.mul'{a B}(b:ef a)(c:ef B) i:(a*B) i=(((nu a*nu B) i:Z):O):=by rw[PS.gG,abD,gG];exact u5 λj _=>by rw[b.at,c.at,iF]
def ef.mul{a B}(b:ef a)(c:ef B):ef (a*B):=ef.of λi=>⟨_,b.mul' c i⟩
def Nh{a B}(b:ef a)(c:ef B):nu (a*B)=nu a*nu B:=PS.ext λi=>by show((a*B) i).num=_;rw[b.mul' c i];rfl
def ef.K(a:Z):ef (K (a:O)):=ef.of λi=>by
 rw[sb];split
 .exact⟨a,J⟩
 .exact⟨0,J⟩
def Tg{a}{i}(b:sz a<=i):nu a i=0:=by show(a i).num=0;rw[nV b];rfl
def ef.sub{a B}(b:ef a)(c:ef B):ef (a-B):=ef.of λi=>⟨nu a i-nu B i,by rw[xP,b.at,c.at,IA]⟩
def IB r:((r.den:I):O)*r=(r.num:O):=by
 have h:=pU r;rw[Th,BW,sc]at h;have b:=pW _<|x9<|Ti.1 r.den_pos;have a:((r.den:I):O)*r=((r.den:I):O)*((r.num:O)*((r.den:I):O)⁻¹):=by rw[h]
 rw[a];grind
def am1 b:∃a:I,0<a/\ef (K ((a:I):O)*b):=by
 have c:∀n,∃a:I,0<a/\∀i,i<n->∃z:Z,(a:O)*b i=(z:O):=by
  intro n;induction n with
  |zero=>exact⟨1,A,λi h=>absurd h S⟩
  |succ n f=>
   let ⟨a,d,h2⟩:=f
   refine⟨a*(b n).den,xF d (b n).den_pos,λi l=>?_⟩
   by_cases e:i=n
   .subst e;refine⟨(a:Z)*(b i).num,?_⟩;rw[iF,zS,qV,IB];rfl
   .let ⟨z,g⟩:=h2 i S;refine⟨z*((b n).den:Z),?_⟩;rw[iF,<-g,zS,sc];grind
 let ⟨n,k⟩:=b.fin;let ⟨a,d,h2⟩:=c n;refine⟨a,d,ef.of λi=>?_⟩;rw[iQ];by_cases e:i<n
 .exact h2 i e
 .exact⟨0,by rw[k i S,jA];rfl⟩
structure Dn(A:Rx)(m:I):Prop where
 pos:0<m
 int:ef (K ((m:I):O)*A)
 dvd:∀d:I,ef (K ((d:I):O)*A)->m∣d
def IC a:∃m,Dn a m:=by
 let ⟨D,f,h2⟩:=am1 a;let ⟨m,⟨b,c⟩,g⟩:=abC (P:=λd=>0<d/\ef (K ((d:I):O)*a)) D ⟨f,h2⟩;refine⟨m,b,c,λd i=>?_⟩;refine qH<|dQ λk=>?_;refine g (d%m) (fg _ b) ⟨S,?_⟩;have e:K ((d%m:I):O)*a=K ((d:I):O)*a-K (((d/m:I):Z):O)*(K ((m:I):O)*a):=by
  have l:((d:I):O)=((d/m:I):O)*((m:I):O)+((d%m:I):O):=by rw[<-zS,<-M8,fR,sZ]
  rw[<-mul_assoc,<-eS,<-sub_mul,<-D4,l,sc];congr 2;grind
 rw[e];exact i.sub<|(ef.K _).mul c
def Dn.abE{a}(g:Mo a){m}(c:Dn a m){b}(r:cE b):¬∀i,nu (K ((m:I):O)*a) i%(b:Z)=0:=λl=>by
 have v:=r.1;let ⟨n,B⟩:=EC g.ne;have C:nu (K ((m:I):O)*a) n=(m:Z):=by show((K ((m:I):O)*a) n).num=_;rw[iQ,g.at B,zN];rfl
 have E:b∣m:=xR.1<|C▸Bk (l n);let ⟨k,F⟩:=E;have d:0<k:=by
  have:=c.pos;rcases qF k with e|e
  .subst e;omega
  .exact e
 have H:ef (K ((k:I):O)*a):=ef.of λi=>by let ⟨w,hw⟩:=Bk<|l i;refine⟨w,?_⟩;have p:=c.int.at i;rw[hw,iQ,F,zS,iF,sc]at p;rw[iQ];have P:=pW _<|x9 (S:b≠0);have f:=aC (λx=>((b:I):O)⁻¹ *x) p;rw[<-qV,<-qV,<-qV,P]at f;rw[wz,wz]at f;exact f
 have:=pG d<|c.dvd k H;have:2*k<=b*k:=eB k v;omega
def abF{P E}(B:Mo P)(F:Mo E){a b c}(g:Dn P a)(l:Dn E b)(r:Dn (P*E) c):c=a*b:=by
 have C:ef (K ((a:I):O)*P*(K ((b:I):O)*E)):=g.int.mul l.int;have v:K ((a:I):O)*P*(K ((b:I):O)*E)=K ((a*b:I):O)*(P*E):=by rw[zS,eS];ac_rfl
 let ⟨k,H⟩:=r.dvd (a*b)<|v▸C;by_cases m:k=1
 .subst m;omega
 have Q:=xF g.pos l.pos;have R:0<k:=by
  rcases qF k with e|e
  .subst e;omega
  .exact e
 let ⟨q,n,p⟩:=am0 (k:=k) S;have U:∀i,(nu (K ((a:I):O)*P)*nu (K ((b:I):O)*E)) i%(q:Z)=0:=λi=>by have f:=g.int.mul' l.int i;rw[v,H,zS,eS,mul_comm (K _)<|K _,mul_assoc,iQ,r.int.at i,<-sc,<-iF]at f;rw[<-yb.1 f];exact Bj<|Ey (xR.2 p)<|Tj _ _
 have x:∀A:Rx,Dl (q:Z) (sz A) (nu A):=λA i W=>by rw[Tg W,dj]
 rcases Br (x<|K ((a:I):O)*P)with f|⟨d,_,d1,d2⟩
 .exact absurd (λi=>by have:=f.at i;rwa[PS.l0,dj]at this)<|g.abE B n
 rcases Br (x<|K ((b:I):O)*E)with f|⟨e,_,f1,f2⟩
 .exact absurd (λi=>by have:=f.at i;rwa[PS.l0,dj]at this)<|l.abE F n
 exact absurd (U<|d+e)<|Go.El.xS n d2 f2 d1 f1
def vb(n:I)(a:PS):Z:=sm (λi=>(aq (a i):Z))<|n+1
def abG(f:I->Z):∀n,(∀i,0<=f i)->sm (λi=>f i*f i) n<=sm f n*sm f n
 |0,_=>by simp[sm]
 |n+1,a=>by
  have c:=abG f n a;have b:=Nd (f:=f) (n:=n) λi _=>a i
  have d:=jm b<|a n;rw[sm,sm,nb,nc,nc,ew (f n)<|sm f n];omega
def am2 n(a:PS):Bw n a<=((bG n:I):Z)*(vb n a*vb n a):=by
 unfold Bw vb;have c:=abG (λi=>(aq (a i):Z)) (n+1)<|λ_=>nM _;refine tJ ?_<|ja c<|nM _;rw[<-th];refine Iy λi k=>?_
 have d:bG i*bG (n-i)<=bG n:=by
  have b:=u7 i<|n-i;rw[(S:i+(n-i)=n)]at b;have f:0<ch n i:=by
   rcases qF (ch n i)with e|e
   .rw[e,vQ]at b;have:=Ix n;omega
   .exact e
  rw[<-b];exact Le _ f
 have g:(aq (a i):Z)*(aq (a i):Z)=a i*a i:=by rw[<-fF,am3]
 rw[g];exact iU (ID.2 d)<|BV _
def abH n:∀k,ch n k<=2^n:=by
 induction n with
 |zero=>
  intro k
  cases k with
  |zero=>exact a8 _
  |succ k=>exact aW _
 |succ n a=>
  intro k
  have b:=lN (n:=n) (A:0<2)
  rw[fy]
  cases k with
  |zero=>rw[rR];omega
  |succ k=>
   have:=a k
   have:=a<|k+1
   rw[ch];omega
def am4{x b}(c:0<=b)(f:x*x<=b*b):(aq x:Z)<=b:=by
 refine dQ λg=>?_
 have i:((aq x:Z))*aq x=x*x:=by rw[<-fF,am3]
 have d:b<aq x:=S;have k:b*b<(aq x:Z)*aq x:=by have l:=ja (a:=b) (S:b<=(aq x:Z)) c;have m:=GV d (S:(0:Z)<aq x);omega
 omega
def abI{A B}{k l}(p:∀b,k<b->A b=0)(F:∀b,l<b->B b=0)(r:B l≠0) i:(aq (A i):Z)<=2^(k+l)*vb (k+l) (A*B):=by
 have c:0<=vb (k+l) (A*B):=Nd λ_ _=>nM _
 have d:(0:Z)<=2^(k+l):=zL<|kV abJ;by_cases H:k<i
 .rw[p i H];exact jm d c
 refine am4 (jm d c) ?_;have K:=tJ (amZ p F)<|am2 (k+l)<|A*B;have v:((bG l:I):Z)<=Bw l B:=by
  have:=Nf (f:=λi=>((bG i*bG (l-i):I):Z)*(B i*B i)) (a:=l) (n:=l+1) S λi _=>jm (nM _)<|BV _
  refine tJ ?_ this;rw[gx,show bG 0=1 from J,kI];have g:1<=B l*B l:=by have x:=BV<|B l;have C:B l*B l≠0:=DG r r;omega
  have:=ja g<|nM<|bG l;rwa[lA]at this
 have g:((bG i*bG (k-i):I):Z)*(A i*A i)<=Bw k A:=Nf (f:=λi=>((bG i*bG (k-i):I):Z)*(A i*A i)) (a:=i) (n:=k+1) S λi _=>jm (nM _)<|BV _
 have x:((bG i*bG (k-i):I):Z)*(A i*A i)*((bG l:I):Z)<=((bG (k+l):I):Z)*(vb (k+l) (A*B)*vb (k+l) (A*B)):=by refine tJ ?_ K;refine tJ (ja v<|jm (nM _)<|BV _) ?_;exact iU g<|tJ (nM _) v
 have C:bG (k+l)=bG i*bG (k-i)*bG l*(ch (k+l) k*ch k i):=by have P:=u7 k l;have E:=u7 i<|k-i;rw[(S:i+(k-i)=k)]at E;rw[<-P,<-E];ac_rfl
 have Q:ch (k+l) k*ch k i<=2^(k+l)*2^(k+l):=ly (abH _ _)<|cQ (abH _ _)<|fG abJ S;have R:0<bG i*bG (k-i)*bG l:=xF (xF (Ix _)<|Ix _)<|Ix _;generalize vb (k+l) (A*B)=m at*;have U:((bG i*bG (k-i)*bG l:I):Z)*(A i*A i)<=((bG i*bG (k-i)*bG l:I):Z)*((2^(k+l)*2^(k+l))*(m*m)):=by
  have W:((bG i*bG (k-i)*bG l:I):Z)*(A i*A i)=((bG i*bG (k-i):I):Z)*(A i*A i)*((bG l:I):Z):=by rw[fF];ac_rfl
  rw[W];refine tJ x ?_;rw[C,fF,jb];refine ja ?_<|nM _;refine iU ?_<|BV m;have:=ID.2 Q;rw[fF (2^(k+l)),ot]at this;exact this
 have X:=Int.le_of_mul_le_mul_left U<|Int.natCast_pos.2 R;refine tJ X<|abB ?_;ac_rfl
end Rx
def abK{p a}(b:2<=p)(c:1<=a):(p-1)^2^a%p=1:=by
 obtain⟨s,rfl⟩:∃s,a=s+1:=⟨a-1,S⟩;rw[fy,fR,wc,Bm];have e:(p-1)^2%p=1:=by obtain⟨m,rfl⟩:∃m,p=m+2:=⟨p-2,S⟩;rw[(S:m+2-1=m+1),Nat.pow_two,show(m+1)*(m+1)=1+(m+2)*m by simp only[g7,xQ];omega,Nat.add_mul_mod_self_left];exact nK S
 rw[e,Nat.one_pow];exact nK S
def am5(p c:I)(R:3<=p)(U:p<=2147483647)(W:p%2=1)(m:c^(p-1)%p≠1)(n:c<18446744073709551616):af j 122 [cU p,cU c] (cB ah):=by
 refine aD Tryz.func122 ?_;refine e J<|e J ?_;refine Yy (α:=I×I) (λx=>⟨[(0,cU p),(1,cU c),(5,cU x.1),(6,D x.2)],[],20,[]⟩) (λx=>x.1*2^x.2=p-1/\x.2<32/\x.1%2=1) ?_<|λr=>q<|aK (α:=I×I) (λx=>⟨[(0,cU p),(1,cU c),(5,cU x.1),(6,D x.2)],[],4,[]⟩) (λx=>x.1*2^x.2=p-1/\0<x.1) (λx=>x.1) (p-1,0) ⟨ax,(S:0<p-1)⟩ (wk ⟨sR J,sR J,sE J ?_,sR J,T⟩ T) ?_
 .rintro⟨a,b⟩ ⟨d,h2,X⟩;simp only at d h2 X;have s:1<=b:=by
   by_cases v:b=0
   .subst v;simp at d;omega
   .omega
  have N:a<=p-1:=by rw[<-d];exact Bb _<|lN A
  refine aO J J (Ri c a p n S S S) J ?_;rw[LO c a p S S];have F:=fg (c^a) (S:0<p);have k:(c^a%p)^2^b%p≠1:=by rw[<-Bm,<-wc,d];exact m
  generalize c^a%p=x at F k;have H:ao .u64 ((p:Z)-1)=((p-1:I):Z):=by rw[wrap_u64 _ S S];omega
  refine L<|t<|rg 23 J J (λh=>?_)<|λh=>?_
  .exfalso;have h:(x:Z)=1:=eq_of_beq h;have h:x=1:=S;rw[h,Nat.one_pow,nK S]at k;exact k J
  refine o J<|z J (λg=>?_)<|λg=>ai ?_
  .exfalso;have g:(x:Z)=ao .u64 ((p:Z)-1):=eq_of_beq g;rw[H]at g;have g:x=p-1:=S;exact k (by rw[g];exact abK S s)
  refine L<|e J<|q<|aK (α:=I×I) (λy=>⟨[(0,cU p),(7,cU y.2),(30,D<|(b:Z)-1),(31,D y.1)],[],30,[]⟩) (λy=>y.1<=b-1/\y.2<p/\y.2^2^(b-y.1)%p≠1) (λy=>b-1-y.1) (0,x) ⟨aW _,F,k⟩ aM ?_;rintro⟨i,x⟩ ⟨u,g2,K⟩;simp only at u g2 K;have B:∀C,x^2^(C+1)%p=(x*x%p)^2^C%p:=by intro C;rw[<-Bm,<-Nat.pow_two,<-wc];congr 2;rw[fy,fR]
  refine e J<|L<|z J (λl=>?_)<|λl=>?_
  .have l:i<b-1:=by have l:(i:Z)<(b:Z)-1:=az l;omega
   have P:(ao .u64<|(x:Z)*(x:Z)).tmod (p:Z)=((x*x%p:I):Z):=zo x x p g2 g2 S;have Q:(x*x%p)^2^(b-(i+1))%p≠1:=by rw[<-B,(S:b-(i+1)+1=b-i)];exact K
   refine ai<|L<|q<|e J (hp:=ak)<|e J<|z J (λf=>?_)<|λf=>bN<|aT ?_
   .exfalso;have f:(ao .u64<|(x:Z)*(x:Z)).tmod (p:Z)=ao .u64 ((p:Z)-1):=eq_of_beq f;rw[P,H]at f;have f:x*x%p=p-1:=S;exact Q (by rw[f];exact abK S S)
   .refine rt J (hp:=ak)<|aA (i+1,x*x%p) ⟨(S:i+1<=b-1),fg _ S,Q⟩ (S:b-1-(i+1)<b-1-i)<|wk ⟨sR J,sE J ?_,sR J,sR J,T⟩ T;exact bA P
  .exact aN<|ay<|e J<|bU J
 .refine bA ?_;show ao .u64 ((p:Z)-1)=((p-1:I):Z);rw[wrap_u64 _ S S];omega
 .rintro⟨a,b⟩ ⟨d,h2⟩;simp only at d h2;have E:b<32:=by
   by_cases v:b<32
   .exact v
   .have l:2^32<=2^b:=fG A S;have f:1*2^b<=a*2^b:=eB _ h2;omega
  have G:a<=p-1:=by rw[<-d];exact Bb _<|lN A
  refine L<|e J (hp:=ak)<|z J (λh=>?_)<|λh=>?_
  .have h:(a:Z).tmod 2=0:=eq_of_beq h;have M:(a:Z).tmod 2=((a%2:I):Z):=gU a 2;refine ai (q<|e J (hp:=ak)<|rt J (hp:=ak)<|dy<|aA (a/2,b+1) ⟨?_,(S:0<a/2)⟩ (S:a/2<a)<|wk ⟨sR J,sR J,sE J ?_,sR J,T⟩ T)
   .show a/2*2^(b+1)=p-1;rw[<-d,fy,fR (2^b) 2,<-xL];congr 1;omega
   .exact bA<|rO a S
  .have h:(a:Z).tmod 2≠0:=fT h;have M:(a:Z).tmod 2=((a%2:I):Z):=gU a 2;exact aN<|fH (r (a,b) ⟨d,E,(S:a%2=1)⟩) aM
def am6 n p(a:n<p)(g:p<=2147483647)(b:∀m:I,n<m->m<p->af j 60 [cU m] (cB ah))(c:af j 60 [cU p] (cB ae)):af j 256 [cU n] (.t [(ah,[.I .u64 p]),(ah,[.I .i64 0])]):=by
 refine aD Tryz.func256 ?_;refine e J<|L<|e J<|z J (λh=>?_)<|λh=>ai ?_
 .exfalso;have h:(n:Z)>=2147483647:=az h;omega
 refine e J<|L<|q<|aK (α:=I) (λm=>⟨[(0,cU m)],[],4,[]⟩) (λm=>n<m/\m<=p) (λm=>p-m) (n+1) ⟨di n,a⟩ (wk ⟨sE J ?_,T⟩ T) ?_
 .exact bA<|show ao .u64 ((n:Z)+1)=((n+1:I):Z)from(wrap_u64 _ S S).trans S
 rintro m ⟨d,g2⟩;by_cases f:m=p
 .subst f;refine L<|aO J J c J<|z J (λh=>bS)<|λ_=>?_;exact aN<|ay<|e J<|bU J
 .refine L<|aO J J (b m d S) J<|z J (λ_=>ai<|q<|rt J<|dy<|aA (m+1) ⟨S,S⟩ (S:p-(m+1)<p-m)<|wk ⟨sE J ?_,T⟩ T)<|λh=>bS;exact bA<|show ao .u64 ((m:Z)+1)=((m+1:I):Z)from(wrap_u64 _ S S).trans S
def am7(n:I)(g:2<n)(c:n<=2147483647)(b:n%2=0\/2^(n-1)%n≠1):af j 60 [cU n] (cB ah):=by
 refine aD Tryz.func60 ?_;refine e J<|L<|t<|rg 7 J J (λd=>?_)<|λd=>?_
 .exfalso;have d:(n:Z)<2:=az d;omega
 refine o J<|z J (λi=>?_)<|λk=>ai ?_
 .exact e J<|bc<|bt<|atR J
 refine L<|t<|rx J J T<|o J ?_;refine q<|aK (α:=Unit) (λ_=>⟨[(0,cU n),(11,.a [.I .u64 2,.I .u64 3,.I .u64 5,.I .u64 7]),(12,D 0)],[],8,[]⟩) (λ_=>True) (λ_=>0) () T aM ?_;rintro- -;refine e J<|L<|z J (λ_=>ai ?_)<|λh=>bS;refine L<|q<|t<|rx J J ?_<|o J<|L<|e J (hp:=ak) ?_
 .exact⟨Hi,Hj⟩
 refine z J (λh=>?_)<|λh=>ai ?_
 .refine e J<|bc ?_;repeat(first|refine bt ?_|refine eH ?_|refine gf ?_)
  refine c9 J<|aC cB ?_;show((n:Z)==2)=ah;exact beq_eq_false_iff_ne.2 S
 .have h:(n:Z).tmod 2≠0:=fT h;have l:(n:Z).tmod 2=((n%2:I):Z):=gU n 2;have f:n%2=1:=S;have b:2^(n-1)%n≠1:=by
   rcases b with b|b
   .omega
   .exact b
  refine aO J J (am5 n 2 S c f b A) J<|z J (λ_=>?_)<|λh=>bS;refine e J<|bc ?_;repeat(first|refine bt ?_|refine eH ?_|refine gf ?_)
  exact atR J
def iA:V I:=[1073741827,1073741831,1073741833,1073741839,1073741843,1073741857,1073741891,1073741909,1073741939,1073741953,1073741969,1073741971,
 1073741987,1073741993,1073742037,1073742053,1073742073,1073742077,1073742091,1073742113,1073742169,1073742203,1073742209,1073742223,
 1073742233,1073742259,1073742277,1073742289,1073742343,1073742353,1073742361,1073742391,1073742403,1073742463,1073742493,1073742517,
 1073742583,1073742623,1073742653,1073742667,1073742671,1073742673,1073742707,1073742713,1073742721,1073742731,1073742767,1073742773,
 1073742811,1073742851,1073742853,1073742881,1073742889,1073742913,1073742931,1073742937,1073742959,1073742983,1073743007,1073743037,
 1073743049,1073743051,1073743079,1073743091,1073743093,1073743123,1073743129,1073743141,1073743159,1073743163,1073743189,1073743199,
 1073743207,1073743243,1073743291,1073743303,1073743313,1073743327,1073743331,1073743337,1073743381,1073743387,1073743393,1073743397,
 1073743403,1073743417,1073743421,1073743427,1073743457,1073743459,1073743469,1073743501,1073743507,1073743513,1073743543,1073743577,
 1073743591,1073743633,1073743739,1073743757,1073743831,1073743861,1073743871]
def IE:I->I->I
 |0,l=>l+1
 |d+1,l=>IE d (2*l)*IE d (2*l+1)
def Tk:∀(d l x:I),x<2^d->2^d*l+x+1∣IE d l
 |0,l,x,h=>by have:x=0:=du;subst this;rw[oo,iL,jE];exact Nat.dvd_refl _
 |d+1,l,x,h=>by
  rw[fy]at h⊢;by_cases e:x<2^d
  .have:=Tk d (2*l) x e;rw[(eT:2^d*(2*l)=2^d*2*l)]at this;exact Nat.dvd_mul_right_of_dvd this _
  .have:=Tk d (2*l+1) (x-2^d) S;rw[show 2^d*(2*l+1)+(x-2^d)=2^d*2*l+x by rw[xQ,(eT:2^d*(2*l)=2^d*2*l)];omega]at this;exact am8 this _
def qX(l:V I):I:=l.foldr (·*·) 1
def am9{l}{x}(a:x∈l):x∣qX l:=by
 induction l with
 |nil=>cases a
 |cons y l b=>
  rcases df.1 a with rfl|a
  .exact Nat.dvd_mul_right _ _
  .exact am8 (b a) _
def am':Nat.gcd (qX iA) (IE 15 0)=1:=j8
def ana:(iA.all λp=>f' 1073741824 p&&f' p 1073743872)=ae:=j8
def wD{p}(a:p∈iA):1073741824<p/\p<1073743872:=by have:=rv.1 ana p a;rw[eG]at this;exact⟨cY this.1,cY this.2⟩
def abL{p}(a:p∈iA):cE p:=by
 let ⟨k,h2⟩:=wD a;refine⟨S,λd l c f=>?_⟩;have m:d<=32768:=by
  by_cases e:d<=32768
  .exact e
  .have:=ly (S:32769<=d) (S:32769<=d);omega
 have g:d∣IE 15 0:=by have:=Tk 15 0 (d-1) (S:d-1<32768);rwa[Et,dU,(S:d-1+1=d)]at this
 have i:d∣qX iA:=ED (qH f)<|am9 a;have b:=Nat.dvd_gcd i g;rw[am']at b;have:=pG A b;omega
def Ni:∀(b a:I)(f:I->I),b<a->(∀i,i<a->f i<b)->∃i c,i<c/\c<a/\f i=f c
 |0,a,f,p,k=>absurd (k 0 p) S
 |b+1,a,f,p,k=>by
  by_cases l:∃i,i<a/\f i=b
  .let ⟨i0,B,h2⟩:=l;by_cases r:∃i,i<a/\i≠i0/\f i=b
   .let ⟨i1,v,x,m⟩:=r;rcases Nj x with n|n
    .exact⟨i1,i0,n,B,by rw[m,h2]⟩
    .exact⟨i0,i1,n,v,by rw[m,h2]⟩
   .have g:∀i,i<a->i≠i0->f i<b:=λi d C=>by
     have:=k i d;have:f i≠b:=λl=>r ⟨i,d,C,l⟩
     omega
    let ⟨i,c,v,x,m⟩:=Ni b (a-1) (λi=>if i<i0 then f i else f (i+1)) S λi d=>by
     split
     .exact g i S S
     .exact g (i+1) S S
    refine⟨if i<i0 then i else i+1,if c<i0 then c else c+1,?_,?_,?_⟩
    .split<;>split<;>omega
    .split<;>omega
    .split<;>split<;>simp_all
  .exact Ni b a f S λi d=>by
    have:=k i d;have:f i≠b:=λE=>l ⟨i,d,E⟩
    omega
def abM{K:I}(k:0<K):∀(C i a:I),i<K^C->a<K^C->(∀c,c<C->i/K^c%K=a/K^c%K)->i=a
 |0,i,a,b,d,_=>by rw[oo]at b d;omega
 |C+1,i,a,b,d,f=>by
  have g:=f 0 S;rw[oo,Nat.div_one,Nat.div_one]at g;have l:=abM k C (i/K) (a/K) (Db<|by rwa[fy,fR]at b) (Db<|by rwa[fy,fR]at d) λc m=>by have:=f (c+1) S;rwa[fy,fR,<-Ra,<-Ra]at this
  rw[<-sZ i K,<-sZ a K,g,l]
def code(K:I)(v:I->I):I->I
 |0=>0
 |r+1=>code K v r+v r*K^r
def IF{K:I}(v:I->I):∀R,(∀r,r<R->v r<K)->code K v R<K^R
 |0,_=>Fs
 |R+1,a=>by
  have c:=IF v R λr d=>a r S
  have b:=eB (K^R) (show v R+1<=K from a R S);rw[g7,iL]at b;rw[code,fy,fR (K^R) K];omega
def Tl{K:I}(v a:I->I):∀R,(∀r,r<R->v r<K)->(∀r,r<R->a r<K)->code K v R=code K a R->∀r,r<R->v r=a r
 |0,_,_,_,r,c=>absurd c S
 |R+1,f,hw,d,r,c=>by
  have i:=IF v R λr c=>f r S
  have k:=IF a R λr c=>hw r S
  rw[code,code]at d;have b:0<K^R:=S;have g:v R=a R:=by
   have l:(code K v R+v R*K^R)/K^R=v R:=by rw[anb _ _ b,A6 i,dU]
   have m:(code K a R+a R*K^R)/K^R=a R:=by rw[anb _ _ b,A6 k,dU]
   rw[<-l,<-m,d]
  by_cases e:r=R
  .rw[e];exact g
  .exact Tl v a R (λr c=>f r S) (λr c=>hw r S) (by rw[g]at d;omega) r S
def abN{f:I->Z}{g:I->I}{X:I}:∀n,(∀i,i<n->(f i).natAbs<=g i*X)->(sm f n).natAbs<=sN g n*X
 |0,_=>by simp[sm]
 |n+1,a=>by
  have b:=abN n λi c=>a i S
  have d:=a n S;rw[sm,sN,g7];omega
def abO(f g:I->Z):∀k,sm (λi=>f i-g i) k=sm f k-sm g k
 |0=>rfl
 |k+1=>by simp only[sm,abO f g k];omega
def anc(d:I->I->Z) R W(H:∀r,r<R->sN (λc=>aq<|d r c) (R+1)<=W)(P:1<=W):
  ∃x:I->Z,(∃c,c<R+1/\x c≠0)/\(∀c,c<R+1->aq (x c)<=(2*W)^R)/\∀r,r<R->sm (λc=>d r c*x c) (R+1)=0:=by
 obtain⟨X,B⟩:∃X,X=(2*W)^R:=⟨_,J⟩
 let a:I->I->Z:=λi c=>((i/(X+1)^c%(X+1):I):Z)
 have f:∀i c,0<=a i c/\a i c<=X:=λi c=>by have:=fg (i/(X+1)^c) (S:0<X+1);show 0<=((i/(X+1)^c%(X+1):I):Z)/\((i/(X+1)^c%(X+1):I):Z)<=X;omega
 have k:∀i r,r<R->(sm (λc=>d r c*a i c)<|R+1).natAbs<=W*X:=λi r b=>by refine cQ (abN (g:=λc=>aq<|d r c) (X:=X) (R+1) λc _=>?_)<|eB X<|H r b;rw[qE];have:=f i c;exact jw _ S
 let v:I->I->I:=λi r=>(sm (λc=>d r c*a i c) (R+1)+((W*X:I):Z)).toNat
 have l:∀i r,r<R->v i r<2*W*X+1/\((v i r:I):Z)=sm (λc=>d r c*a i c) (R+1)+((W*X:I):Z):=λi r b=>by
  have m:=k i r b;have e:v i r=(sm (λc=>d r c*a i c) (R+1)+((W*X:I):Z)).toNat:=rfl;have q:2*W*X=W*X+W*X:=by rw[xL,Nat.two_mul]
  generalize sm (λc=>d r c*a i c) (R+1)=s at*;rw[e];omega
 have n:(2*W*X+1)^R<(X+1)^(R+1):=by
  have m:2*W*X+1<=2*W*(X+1):=by rw[xQ,kI];omega
  have C:=v5 m R;rw[Nat.mul_pow,<-B]at C;have E:X*(X+1)^R<(X+1)*(X+1)^R:=Lr S<|lN S;rw[fy,fR<|(X+1)^R];omega
 let ⟨i,j,m,C,E⟩:=Ni _ _ (λi=>code (2*W*X+1) (v i) R) n λi _=>IF (v i) R λr b=>(l i r b).1
 have Q:=Tl (v i) (v j) R (λr b=>(l i r b).1) (λr b=>(l j r b).1) E
 refine⟨λc=>a i c-a j c,?_,λc _=>?_,λr b=>?_⟩
 .refine dQ λU=>?_
  have:i=j:=abM (K:=X+1) S (R+1) i j S S λc h=>by
   have p:a i c-a j c=0:=dQ λp=>U ⟨c,h,p⟩
   have t:((i/(X+1)^c%(X+1):I):Z)-((j/(X+1)^c%(X+1):I):Z)=0:=p;omega
  omega
 .have F:=f i c;have o:=f j c;show(a i c-a j c).natAbs<=_;rw[<-B];omega
 .have F:=(l i r b).2;have o:=(l j r b).2;have e:sm (λc=>d r c*(a i c-a j c)) (R+1)=sm (λc=>d r c*a i c) (R+1)-sm (λc=>d r c*a j c) (R+1):=by rw[<-abO];exact gi λc _=>DD _ _ _
  rw[e];rw[Q r b]at F;omega
def BX(f g:PS)(n r c:I):Z:=if c<n then(if c<=r then f (r-c)else 0)else if c<2*n+1 then(if c-n<=r then g (r-(c-n))else 0)else(if r=0 then-1 else 0)
def abP(f:I->Z)(a:I):∀b,sm f (a+b)=sm f a+sm (λi=>f<|a+i) b
 |0=>by simp[sm]
 |b+1=>by rw[<-qv,sm,abP f a b,sm];omega
def abQ{f:I->I}{m:I}:∀n,(∀i,i<n->f i<=m)->sN f n<=n*m
 |0,_=>by simp[sN]
 |n+1,a=>by
  have b:=abQ n λi c=>a i S
  have d:=a n S;rw[sN,g7,iL];omega
def ane{f g}{n}{B}(F:1<=B)(P:∀i,n+1<i->f i=0)(Q:∀i,n<i->g i=0)(R:∀i,(f i).natAbs<=B)(U:∀i,(g i).natAbs<=B):
  ∃(b v:PS)(l:Z),(∀i,n<=i->b i=0)/\(∀i,n+1<=i->v i=0)/\b*f+v*g=PS.K l/\aq l<=(2*((2*n+2)*B))^(2*n+1)/\(l=0->v=0->b=0->False):=by
 let ⟨x,⟨c0,L,h2⟩,W,X⟩:=anc (BX f g n) (2*n+1) ((2*n+2)*B) (λr _=>abQ _ λc _=>by
  unfold BX;split
  .split
   .exact R _
   .exact aW _
  .split
   .split
    .exact U _
    .exact aW _
   .split
    .exact F
    .exact aW _) (by have:=ly (S:1<=2*n+2) F;omega)
 refine⟨λi=>if i<n then x i else 0,λi=>if i<n+1 then x (n+i)else 0,x (2*n+1),λi p=>M S,λi p=>M S,?_,W _ S,?_⟩
 .refine PS.ext λr=>?_
  have H:∀(h A:PS)(m k:I),(∀i,m<=i->A i=0)->(A*h) k=sm (λc=>(if c<=k then h (k-c)else 0)*A c) m:=λh A m k j=>by
   rw[PS.gG];have o:∀d,sm (λc=>(if c<=k then h (k-c)else 0)*A c) (k+1+d)=sm (λc=>(if c<=k then h (k-c)else 0)*A c) (k+1):=λd=>by
    induction d with
    |zero=>rfl
    |succ d C=>rw[<-qv,sm,C,M S,ko,mT]
   have q:∀d,sm (λc=>(if c<=k then h (k-c)else 0)*A c) (m+d)=sm (λc=>(if c<=k then h (k-c)else 0)*A c) m:=λd=>by
    induction d with
    |zero=>rfl
    |succ d C=>rw[<-qv,sm,C,j _ S,dI,mT]
   rw[<-q (k+1),AL m,o m];exact gi λc a=>by rw[s S,ew]
  rw[PS.eR,H f _ n r<|λi p=>M S,H g _ (n+1) r<|λi p=>M S];by_cases t:r<2*n+1
  .have E:=X r t;rw[(S:2*n+1+1=n+(n+1)+1),sm,abP]at E;have w:sm (λc=>BX f g n r c*x c) n=sm (λc=>(if c<=r then f (r-c)else 0)*(if c<n then x c else 0)) n:=gi λc a=>by rw[BX,s a,s a]
   have y:sm (λi=>BX f g n r (n+i)*x (n+i)) (n+1)=sm (λc=>(if c<=r then g (r-c)else 0)*(if c<n+1 then x (n+c)else 0)) (n+1):=gi λc a=>by rw[BX,M S,s S,s a,DT]
   rw[w,y,BX,M S,M S]at E;rw[PS.K,(S:2*n+1=n+(n+1))];split at E
   .rename_i e;rw[s e];omega
   .rename_i e;rw[M e];omega
  .rw[PS.K,M S,nk λc a=>?_,nk λc a=>?_]
   .rfl
   .split
    .exact(aC (·*_)<|Q _ S).trans<|ko _
    .rw[ko]
   .split
    .exact(aC (·*_)<|P _ S).trans<|ko _
    .rw[ko]
 .intro z G J;refine h2 ?_;by_cases c1:c0<n
  .have:=congrFun J c0;rwa[s c1]at this
  .by_cases N:c0<2*n+1
   .have:=congrFun G<|c0-n;rwa[s S,(S:n+(c0-n)=c0)]at this
   .rw[(S:c0=2*n+1)];exact z
def abR{D:I}:∀{l:V I},l.Nodup->(∀p∈l,cE p/\p∣D)->qX l∣D
 |[],_,_=>Nat.one_dvd D
 |p::l,v,d=>by
  let ⟨x,h2⟩:=yD.1 v;have g:=abR h2 λq i=>d q (by simp[i])
  have f:=(d p ax).1;have B:M4 p (qX l):=f.coprime λc=>by
   have k:∀{l:V I},(∀q∈l,cE q/\q∣D)->p∣qX l->p∈l:=by
    intro l;induction l with
    |nil=>intro _ c;have C:=f.1;have:=pG Fs c;omega
    |cons q l g=>
     intro m c
     rcases f.dvd_mul (a:=q) (b:=qX l) c with e|e
     .rcases(m q ax).1.wa e with n|n
      .have C:=f.1;omega
      .rw[n];simp
     .have:=g (λr E=>m r<|by simp[E]) e;simp[this]
   exact x<|k (λq i=>d q<|by simp[i]) c
  exact B.mul_dvd_of_dvd_of_dvd (d p ax).2 g
def anf:iA.Nodup:=by
 have h:(iA.zip<|iA.drop 1).all (λx=>f' x.1 x.2)=ae:=j8;have f:∀(l:V I),(l.zip<|List.drop 1 l).all (λx=>f' x.1 x.2)=ae->l.Pairwise (·<·):=by
  intro l;induction l with
  |nil=>intro _;exact .nil
  |cons a l i=>
   intro h
   cases l with
   |nil=>exact Ib _ _
   |cons b l=>
    have h:(((a,b)::((b::l).zip l)).all λx=>f' x.1 x.2)=ae:=h
    rw[List.all_cons,eG]at h
    have g:=i h.2
    refine im.2 ⟨λc k=>?_,g⟩
    have d:a<b:=cY h.1
    rcases df.1 k with e|e
    .rw[e];exact d
    .exact Nat.lt_trans d<|(im.1 g).1 c e
 exact(f iA h).imp λh=>Nat.ne_of_lt h
def yc:I:=2^3089
def ang:Nat.ble (yc+1) (qX iA)=ae:=j8
def abS{a b}(c:Nat.ble (a+1) b=ae):a<b:=Nat.lt_of_succ_le<|cY c
def anh:yc<qX iA:=abS ang
def ani{l}(c:l.Nodup)(d:∀p∈l,cE p)(f:yc<qX l){a}(r:a≠0)(g:aq a<=yc):∃p∈l,¬(p:Z)∣a:=dQ λi=>by
 have k:=abR (D:=aq a) c λp b=>⟨d p b,Tm.1<|dQ λm=>i ⟨p,b,m⟩⟩
 have n:=pG S k;exact absurd g<|Nat.not_le_of_lt<|jD f n
end Go.El
