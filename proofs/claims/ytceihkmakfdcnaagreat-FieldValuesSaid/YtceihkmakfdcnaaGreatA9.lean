/- Plain: Bombieri's inequality for products of integer polynomials. Own work; no condition. -/
import Derived.Test.YtceihkmakfdcnaaGreatA6
import Derived.Test.YtceihkmakfdcnaaGreatA8
import Derived.Test.YtceihkmakfdcnaaGreatA7
set_option linter.all false
set_option maxHeartbeats 16000000
set_option maxRecDepth 100000
open Bool renaming true->af
open Classical renaming choose->A2
open Int renaming mul_zero->HQ,le_of_eq->ZJ,natAbs->aC,natAbs_mul_self->ak7,toNat->ae
open List renaming getD->E,range->cc,length->Z,replicate->bp
open Nat renaming one_pos->BJ,dvd_mul_left_of_dvd->ak9,blt->dk,lt_or_gt_of_ne->ald,div_div_eq_div_mul->ale,add_mul_div_right->alf,testBit->m6
open Quotient renaming liftOn₂->aln,liftOn->alo
open _root_ renaming Nat->Y,Int->O,Rat->D,List->V
namespace Go.El
open Go Go.Proofs
def bA:Y->Y
 |0=>1
 |n+1=>(n+1)*bA n
def HO:∀n,0<bA n
 |0=>BJ
 |n+1=>ya (Nat.succ_pos n)<|HO n
def tu:∀i a,ch (i+a) i*(bA i*bA a)=bA (i+a)
 |0,a=>by rw[eF,qL,bA,hO,hO]
 |i+1,0=>by rw[jd,GV,show bA 0=1 from J,qD,hO]
 |i+1,a+1=>by
  have c:=tu i<|a+1;have d:=tu (i+1) a;rw[(G:i+1+(a+1)=(i+(a+1))+1),ch,show bA (i+(a+1)+1)=(i+(a+1)+1)*bA (i+(a+1))from J,fD];rw[(G:i+(a+1)=i+1+a)]at c⊢;have f:ch (i+1+a) i*(bA (i+1)*bA (a+1))=(i+1)*bA (i+1+a):=by rw[<-c,bA];ac_rfl
  have g:ch (i+1+a) (i+1)*(bA (i+1)*bA (a+1))=(a+1)*bA (i+1+a):=by rw[<-d,show bA (a+1)=(a+1)*bA a from J];ac_rfl
  rw[f,g,<-fD,(G:i+1+(a+1)=i+1+a+1)]
def sN(f:Y->Y):Y->Y
 |0=>0
 |k+1=>sN f k+f k
def ZE{f g:Y->Y}:∀{k:Y},(∀i,i<k->f i=g i)->sN f k=sN g k
 |0,_=>rfl
 |k+1,a=>by rw[sN,sN,ZE<|λi c=>a i G,a k G]
def ZF(f g:Y->Y):∀k,sN (λi=>f i+g i) k=sN f k+sN g k
 |0=>rfl
 |k+1=>by simp only[sN,ZF f g k];omega
def Ml(f:Y->Y):∀k,sN f (k+1)=f 0+sN (λi=>f<|i+1) k
 |0=>by simp[sN]
 |k+1=>by rw[sN,Ml f k,sN];omega
def R2(f:Y):∀a k,ch (a+f) k=sN (λt=>ch a t*ch f (k-t)) (k+1)
 |0,k=>by
  rw[Ml,qL,hO,eF,Dy];have:sN (λi=>ch 0 (i+1)*ch f (k-(i+1))) k=0:=by
   have e:∀c,sN (λi=>ch 0 (i+1)*ch f (k-(i+1))) c=0:=λc=>by
    induction c with
    |zero=>rfl
    |succ n d=>rw[sN,d,yi 0 (n+1) G,rM]
   exact e k
  rw[this];rfl
 |a+1,0=>by rw[qL,sN,sN,qL,qL]
 |a+1,k+1=>by
  rw[(G:a+1+f=a+f+1),ch,R2 f a k,R2 f a<|k+1,Ml<|λt=>ch (a+1) t*ch f (k+1-t),Ml<|λt=>ch a t*ch f (k+1-t)];have e:sN (λi=>ch (a+1) (i+1)*ch f (k+1-(i+1))) (k+1)=sN (λi=>ch a i*ch f (k-i)) (k+1)+sN (λi=>ch a (i+1)*ch f (k+1-(i+1))) (k+1):=by
   rw[<-ZF];refine ZE λi _=>?_
   rw[ch,fD,(G:k+1-(i+1)=k-i)]
  rw[e,qL,qL];omega
def wR{f:Y->O}{a:Y}:∀{n:Y},a<n->(∀i,i<n->i≠a->f i=0)->sm f n=f a
 |0,d,_=>by omega
 |n+1,d,c=>by
  rw[sm];by_cases g:a=n
  .subst g;rw[pB (λi k=>c i G G),Aw]
  .rw[wR (n:=n) G (λi k=>c i G),c n G G,qE]
def ZG(f:Y->Y):∀k,((sN f k:Y):O)=sm (λi=>((f i:Y):O)) k
 |0=>rfl
 |k+1=>by rw[sN,sm,wh,ZG f k]
def r6(F:Y->Y->O)(m:Y):∀n,sm (λi=>sm (λa=>F i a) m) n=sm (λa=>sm (λi=>F i a) n) m
 |0=>(pB λ_ _=>rfl).symm
 |n+1=>by rw[sm,r6 F m n,<-Ls];rfl
def Mm{f:Y->O}:∀{n:Y},(∀i,i<n->0<=f i)->0<=sm f n
 |0,_=>eO _
 |n+1,a=>by
  have c:=Mm (f:=f) (n:=n) λi d=>a i G
  have g:=a n G;rw[sm];omega
def HP{f g:Y->O}:∀{n:Y},(∀i,i<n->f i<=g i)->sm f n<=sm g n
 |0,_=>eO _
 |n+1,a=>by
  have c:=HP (f:=f) (g:=g) (n:=n) λi d=>a i G
  have k:=a n G;rw[sm,sm];omega
def Mn{f:Y->O}{a n}(d:a<n)(g:∀i,i<n->0<=f i):f a<=sm f n:=by
 have e:sm (λi=>if i=a then f a else 0) n=f a:=(wR d λi _ c=>b c).trans<|aq J;rw[<-e];refine HP λi c=>?_
 split
 .rename_i e;subst e;exact eO _
 .exact g i c
def s2(k l:Y)(F:Y->Y->O):O:=sm (λa=>sm (λe=>F a e)<|l+1)<|k+1
def tv{k l}{F d:Y->Y->O}(f:∀a c,a<=k->c<=l->F a c=d a c):s2 k l F=s2 k l d:=fM λa g=>fM λc i=>f a c G G
def uO k l c(F:Y->Y->O):s2 k l (λa d=>c*F a d)=c*s2 k l F:=by unfold s2;rw[<-yf];exact fM λa _=>yf _ _ _
def R3 k l c(F:Y->Y->O):s2 k l (λa d=>F a d*c)=s2 k l F*c:=by rw[ef,<-uO];exact tv λ_ _ _ _=>ef _ _
def Mp k l f g(F:Y->Y->Y->Y->O):s2 k l (λa c=>s2 f g<|λt d=>F a c t d)=s2 f g (λt d=>s2 k l<|λa c=>F a c t d):=by
 unfold s2;have i:∀a,sm (λc=>sm (λt=>sm (λd=>F a c t d)<|g+1)<|f+1) (l+1)=sm (λt=>sm (λd=>sm (λc=>F a c t d)<|l+1)<|g+1) (f+1):=λa=>by rw[r6];exact fM λt _=>r6 _ _ _
 rw[fM λa _=>i a,r6];exact fM λt _=>r6 _ _ _
def akY{k l}{F d:Y->Y->O}(f:∀a c,a<=k->c<=l->F a c<=d a c):s2 k l F<=s2 k l d:=HP λa g=>HP λc i=>f a c G G
def akZ{k l}{F:Y->Y->O}{a e}(d:a<=k)(m:e<=l)(c:∀a e,a<=k->e<=l->0<=F a e):F a e<=s2 k l F:=by refine r7 (Mn (f:=λe=>F a e) (a:=e) (n:=l+1) G λi g=>c a i d G) ?_;exact Mn (f:=λa=>sm (λe=>F a e)<|l+1) (a:=a) (n:=k+1) G λi g=>Mm λj p=>c i j G G
def ak0{k l}{F:Y->Y->O}{a g}(p:a<=k)(t:g<=l)(n:∀i c,i<=k->c<=l->¬(i=a/\c=g)->F i c=0):s2 k l F=F a g:=by unfold s2;rw[wR (a:=a) G λi u d=>pB λc r=>n i c G G λm=>d m.1];exact wR (f:=λg=>F a g) (a:=g) G λc r d=>n a c p G λm=>d m.2
def eta(t c a d:Y):O:=if t<=a/\c<=d/\a-t=d-c then((ch a t*ch d c*bA (a-t):Y):O)else 0
def ZH{k l a e a' f}(ha:a<=k)(he:e<=l)(g:a'<=k)(hf:f<=l):(if a+f=a'+e then((bA (a+f):Y):O)else 0)=s2 k l (λt c=>((bA t*bA c:Y):O)*(eta t c a e*eta t c a' f)):=by
 by_cases h:a+f=a'+e
 .rw[aq h,h,<-tu a' e,<-h,R2 f a a',eU,ZG];have B:sm (λt=>((ch a t*ch f (a'-t):Y):O)) (a'+1)=sm (λt=>((ch a t*ch f (a'-t):Y):O)*(if t<=a' then 1 else 0)) (k+1):=by
   have C:∀n,a'<=n->sm (λt=>((ch a t*ch f (a'-t):Y):O)*(if t<=a' then 1 else 0)) (n+1)=sm (λt=>((ch a t*ch f (a'-t):Y):O)) (a'+1):=λn o=>by
    induction n with
    |zero=>
     have:a'=0:=G
     subst this
     exact fM λi F=>by rw[aq G,mF]
    |succ n H=>
     by_cases K:a'<=n
     .rw[sm,H K,b G,gn,qE]
     .have:a'=n+1:=by omega
      subst this;exact fM λi F=>by rw[aq G,mF]
   exact(C k g).symm
  rw[B,<-QT];unfold s2;refine fM λt L=>?_
  by_cases m:t<=a'/\t<=a/\a-t<=e
  .let ⟨m,h2,M⟩:=m;rw[aq m,mF];rw[wR (a:=e-(a-t)) G λc r P=>?_]
   .have d:t<=a/\e-(a-t)<=e/\a-t=e-(e-(a-t)):=by omega
    have Q:t<=a'/\e-(a-t)<=f/\a'-t=f-(e-(a-t)):=G;dsimp only;rw[eta,aq d,eta,aq Q];have S:=tu t<|a-t;have u:=tu (e-(a-t))<|a-t;have v:=tu t<|a'-t;have x:=tu (e-(a-t))<|a'-t;have A:=tu (a'-t)<|e-(a-t);rw[(G:t+(a-t)=a)]at S;rw[(G:e-(a-t)+(a-t)=e)]at u;rw[(G:t+(a'-t)=a')]at v;rw[(G:e-(a-t)+(a'-t)=f)]at x;rw[(G:a'-t+(e-(a-t))=f)]at A;have p:ch a t*ch f (a'-t)*(bA a'*bA e)=bA t*bA (e-(a-t))*(ch a t*ch e (e-(a-t))*bA (a-t)*(ch a' t*ch f (e-(a-t))*bA (a'-t))):=by rw[<-v,<-u];have W:ch f (a'-t)*(bA (a'-t)*bA (e-(a-t)))=ch f (e-(a-t))*(bA (e-(a-t))*bA (a'-t)):=A.trans x.symm;have X:ch a t*ch f (a'-t)*(ch a' t*(bA t*bA (a'-t))*(ch e (e-(a-t))*(bA (e-(a-t))*bA (a-t))))=ch a t*ch a' t*bA t*ch e (e-(a-t))*bA (a-t)*(ch f (a'-t)*(bA (a'-t)*bA (e-(a-t)))):=fc;rw[X,W];ac_rfl
    rw[<-eU,<-eU,<-eU,p]
   .have:¬(t<=a/\c<=e/\a-t=e-c):=by omega
    dsimp only;rw[eta,b this,mD,gn]
  .have j:((ch a t*ch f (a'-t):Y):O)*(if t<=a' then 1 else 0)=0:=by
    by_cases h2:t<=a'
    .by_cases M:t<=a
     .rw[yi f (a'-t) G,Nat.mul_zero];simp
     .rw[yi a t G,rM];simp
    .rw[b h2,gn]
   rw[j,mD];refine(pB λc r=>?_).symm;by_cases d:t<=a/\c<=e/\a-t=e-c
   .have:¬(t<=a'/\c<=f/\a'-t=f-c):=by omega
    dsimp only;rw[show eta t c a' f=0 by rw[eta,if_neg this],HQ,HQ]
   .dsimp only;rw[eta,if_neg d,Int.zero_mul,HQ]
 .rw[b h];unfold s2;refine(pB λt L=>pB λc r=>?_).symm;by_cases d:t<=a/\c<=e/\a-t=e-c
  .have:¬(t<=a'/\c<=f/\a'-t=f-c):=by omega
   dsimp only;rw[show eta t c a' f=0 by rw[eta,if_neg this],HQ,HQ]
  .dsimp only;rw[eta,if_neg d,Int.zero_mul,HQ]
def ZI t a:eta t a t a=1:=by rw[eta,aq G,GV,GV,mr];rfl
def AX(x:O):0<=x*x:=by
 rcases Int.le_total 0 x with h|h
 .exact iL h h
 .have:=iL (a:= -x) (b:= -x) G G;rwa[Int.neg_mul_neg]at this
def ak1 k l(m:Y->Y->O):
  s2 k l (λt d=>((bA t*bA d:Y):O)*((bA (k-t)*bA (l-d):Y):O)*(m t d*m t d))<=
  s2 k l (λa c=>s2 k l<|λg f=>m a c*m g f*((if a+f=g+c then((bA (a+f):Y):O)else 0)*(if(k-a)+(l-f)=(k-g)+(l-c)then((bA ((k-a)+(l-f)):Y):O)else 0))):=by
 have u:s2 k l (λa c=>s2 k l<|λg f=>m a c*m g f*((if a+f=g+c then((bA (a+f):Y):O)else 0)*(if(k-a)+(l-f)=(k-g)+(l-c)then((bA ((k-a)+(l-f)):Y):O)else 0)))=
   s2 k l (λt d=>s2 k l<|λn p=>((bA t*bA d:Y):O)*((bA n*bA p:Y):O)*(s2 k l (λa c=>m a c*(eta t d a c*eta n p (k-a) (l-c)))*s2 k l (λa c=>m a c*(eta t d a c*eta n p (k-a) (l-c))))):=by
  have v:∀a c,a<=k->c<=l->s2 k l (λg f=>m a c*m g f*((if a+f=g+c then((bA (a+f):Y):O)else 0)*(if(k-a)+(l-f)=(k-g)+(l-c)then((bA ((k-a)+(l-f)):Y):O)else 0)))=s2 k l (λt d=>s2 k l<|λn p=>((bA t*bA d:Y):O)*((bA n*bA p:Y):O)*(m a c*(eta t d a c*eta n p (k-a) (l-c))*s2 k l (λa c=>m a c*(eta t d a c*eta n p (k-a) (l-c))))):=by
   intro a c x A;have B:∀g f,g<=k->f<=l->m a c*m g f*((if a+f=g+c then((bA (a+f):Y):O)else 0)*(if(k-a)+(l-f)=(k-g)+(l-c)then((bA ((k-a)+(l-f)):Y):O)else 0))=s2 k l (λt d=>s2 k l<|λn p=>((bA t*bA d:Y):O)*((bA n*bA p:Y):O)*(m a c*(eta t d a c*eta n p (k-a) (l-c))*(m g f*(eta t d g f*eta n p (k-g) (l-f))))):=by
    intro g f r C;rw[ZH x A r C,ZH (k:=k) (l:=l) (a:=k-a) (e:=l-c) (a':=k-g) (f:=l-f) G G G G,<-R3,<-uO];refine tv λt d _ _=>?_
    rw[<-uO,<-uO];refine tv λn p _ _=>?_
    ac_rfl
   rw[tv B,Mp];refine tv λt d _ _=>?_
   rw[Mp];refine tv λn p _ _=>?_
   rw[<-uO,<-uO]
  rw[tv v,Mp]
  refine tv λt d _ _=>?_
  rw[Mp]
  refine tv λn p _ _=>?_
  rw[uO,R3]
 rw[u]
 refine akY λt d F H=>?_
 refine r7 (ZJ ?_)<|akZ (k:=k) (l:=l) (a:=k-t) (e:=l-d) G G λn p _ _=>iL (iL (pO _)<|pO _)<|AX _
 have K:s2 k l (λa c=>m a c*(eta t d a c*eta (k-t) (l-d) (k-a) (l-c)))=m t d:=by
  rw[ak0 F H λi j M P L=>?_]
  .rw[ZI,ZI,mF,mF]
  .by_cases c1:t<=i/\d<=j/\i-t=j-d
   .have:¬(k-t<=k-i/\l-d<=l-j/\k-i-(k-t)=l-j-(l-d)):=by omega
    rw[show eta (k-t) (l-d) (k-i) (l-j)=0 by rw[eta,b this],gn,gn]
   .rw[eta,b c1,mD,gn]
 rw[K]
def Bw(n:Y)(A:Y->O):O:=sm (λi=>((bA i*bA (n-i):Y):O)*(A i*A i))<|n+1
def ak2{A B:PS}{k l i}(p:∀c,k<c->A c=0)(r:∀c,l<c->B c=0):(A*B) i=s2 k l (λa f=>if a+f=i then A a*B f else 0):=by
 rw[PS.eW];unfold s2;have t:∀a,a<=i->A a*B (i-a)=sm (λf=>if a+f=i then A a*B f else 0) (l+1):=λa g=>by
  by_cases e:i-a<=l
  .rw[wR (a:=i-a) G λf _ u=>b G,aq G]
  .rw[r (i-a) G,gn];exact(pB λf L=>b G).symm
 rw[fM λa g=>t a G];have m:∀n,(∀a,n<=a->sm (λf=>if a+f=i then A a*B f else 0) (l+1)=0)->∀d,sm (λa=>sm (λf=>if a+f=i then A a*B f else 0)<|l+1) (n+d)=sm (λa=>sm (λf=>if a+f=i then A a*B f else 0)<|l+1) n:=λn v d=>by
  induction d with
  |zero=>rfl
  |succ d x=>rw[<-qk,sm,x,v _ G,qE]
 have C:∀a,i+1<=a->sm (λf=>if a+f=i then A a*B f else 0) (l+1)=0:=λa g=>pB λf _=>b G
 have F:∀a,k+1<=a->sm (λf=>if a+f=i then A a*B f else 0) (l+1)=0:=λa g=>pB λf _=>by rw[p a G,mD,ite_self]
 have H:=m _ C<|k+1;have K:=m _ F<|i+1;rw[<-H,<-K];congr 1;omega
def ak3{A B:PS}{k l}(v:∀g,k<g->A g=0)(x:∀g,l<g->B g=0):Bw k A*Bw l B<=Bw (k+l) (A*B):=by
 have u:=ak1 k l<|λa e=>A a*B e;have C:s2 k l (λt s=>((bA t*bA s:Y):O)*((bA (k-t)*bA (l-s):Y):O)*(A t*B s*(A t*B s)))=Bw k A*Bw l B:=by
  unfold Bw s2;rw[<-QT];refine fM λt _=>?_
  rw[<-yf];refine fM λs _=>?_
  simp only[eU];ac_rfl
 rw[C]at u;refine r7 u<|ZJ ?_;have F:Bw (k+l) (A*B)=s2 k l (λa f=>s2 k l<|λd e=>A a*B f*(A d*B e)*(if a+f=d+e then((bA (a+f)*bA (k+l-(a+f)):Y):O)else 0)):=by
  unfold Bw;have H:∀i,i<k+l+1->((bA i*bA (k+l-i):Y):O)*((A*B) i*(A*B) i)=s2 k l (λa f=>s2 k l<|λd e=>A a*B f*(A d*B e)*(if a+f=i then(if d+e=i then((bA i*bA (k+l-i):Y):O)else 0)else 0)):=λi _=>by
   rw[ak2 v x,<-R3,<-uO];refine tv λa f _ _=>?_
   rw[<-uO,<-uO];refine tv λd e _ _=>?_
   by_cases c1:a+f=i
   .by_cases n:d+e=i
    .rw[aq c1,aq c1,aq n,aq n,ef]
    .rw[b n,b n,ite_self];simp only[gn]
   .rw[b c1,b c1,mD,gn,gn]
  rw[fM H];unfold s2;rw[r6];refine fM λa K=>?_
  rw[r6];refine fM λf L=>?_
  rw[r6];refine fM λd p=>?_
  rw[r6];refine fM λe M=>?_
  rw[yf];congr 1;rw[wR (a:=a+f) G λi _ r=>b λh=>r h.symm,aq J];by_cases c:a+f=d+e
  .rw[aq c.symm,aq c]
  .rw[b λh=>c h.symm,b c]
 rw[F];unfold s2;refine fM λa K=>?_
 have P:∀(m:Y->Y->Y->O),sm (λe=>sm (λd=>sm (λf=>m e d f)<|l+1)<|k+1) (l+1)=sm (λf=>sm (λd=>sm (λe=>m e d f)<|l+1)<|k+1) (l+1):=λm=>by
  rw[r6];have Q:sm (λd=>sm (λe=>sm (λf=>m e d f)<|l+1)<|l+1) (k+1)=sm (λd=>sm (λf=>sm (λe=>m e d f)<|l+1)<|l+1) (k+1):=fM λd _=>r6 _ _ _
  rw[Q,r6]
 rw[P];refine fM λf L=>fM λd p=>fM λe M=>?_
 by_cases c:a+f=d+e
 .dsimp only;rw[aq c,aq G,aq c,<-eU,(G:k-a+(l-f)=k+l-(a+f))];ac_rfl
 .dsimp only;rw[b c,b c,mD,gn,gn]
def ZK{P:Y->Prop}:∀n,P n->∃m,P m/\∀k,k<m->¬P k:=by
 intro n;induction n using Nat.strongRecOn with
 |ind n a=>
  intro h
  by_cases e:∃k,k<n/\P k
  .let ⟨k,c,h2⟩:=e;exact a k c h2
  .exact⟨n,h,λk d f=>e ⟨k,d,f⟩⟩
def ak4{k}(g:2<=k):∃c,dw c/\c∣k:=by
 let ⟨m,⟨i,h2⟩,l⟩:=ZK (P:=λd=>2<=d/\d∣k) k ⟨g,Nat.dvd_refl k⟩;refine⟨m,⟨i,λd f n p=>?_⟩,h2⟩;have a:d<m:=by have:d*2<=d*d:=jh d f;omega
 exact l d a ⟨f,DX (HR p) h2⟩
def ZL(f:Y->O):∀k,((sm f k:O):D)=sq (λi=>(f i:D)) k
 |0=>rfl
 |k+1=>by rw[sm,sq,Mi,ZL f k]
namespace Rx
def dj(A:Rx):Prop:=∀i,A i=((A i).num:D)
def nu(A:Rx):PS:=λi=>(A i).num
def dj.of{A}(c:∀i,∃a:O,A i=(a:D)):dj A:=λi=>by let ⟨a,d⟩:=c i;rw[d];rfl
def dj.at{A}(a:dj A) i:A i=((nu A i:O):D):=a i
def dj.mul'{A B}(a:dj A)(c:dj B) i:(A*B) i=(((nu A*nu B) i:O):D):=by rw[PS.eW,ZL,eW];exact th λj _=>by rw[a.at,c.at,fh]
def dj.mul{A B}(a:dj A)(c:dj B):dj (A*B):=dj.of λi=>⟨_,a.mul' c i⟩
def HS{A B}(a:dj A)(c:dj B):nu (A*B)=nu A*nu B:=PS.ext λi=>by show((A*B) i).num=_;rw[a.mul' c i];rfl
def dj.K(a:O):dj (K (a:D)):=dj.of λi=>by
 rw[nk];split
 .exact⟨a,J⟩
 .exact⟨0,J⟩
def yC{A}{i}(a:sz A<=i):nu A i=0:=by show(A i).num=0;rw[lU a];rfl
def dj.sub{A B}(a:dj A)(c:dj B):dj (A-B):=dj.of λi=>⟨nu A i-nu B i,by rw[yg,a.at,c.at,Ma]⟩
def Mq r:((r.den:Y):D)*r=(r.num:D):=by
 have h:=nh r;rw[L',ym,qV]at h;have c:=nT _<|wO<|R4.1 r.den_pos;have a:((r.den:Y):D)*r=((r.den:Y):D)*((r.num:D)*((r.den:Y):D)⁻¹):=by rw[h]
 rw[a];grind
def ak5 A:∃a:Y,0<a/\dj (K ((a:Y):D)*A):=by
 have c:∀n,∃a:Y,0<a/\∀i,i<n->∃z:O,(a:D)*A i=(z:D):=by
  intro n;induction n with
  |zero=>exact⟨1,T,λi h=>absurd h G⟩
  |succ n f=>
   let ⟨a,d,h2⟩:=f
   refine⟨a*(A n).den,ya d (A n).den_pos,λi l=>?_⟩
   by_cases e:i=n
   .subst e;refine⟨(a:O)*(A i).num,?_⟩;rw[fh,yD,oD,Mq];rfl
   .let ⟨z,g⟩:=h2 i G;refine⟨z*((A n).den:O),?_⟩;rw[fh,<-g,yD,qV];grind
 let ⟨n,k⟩:=A.fin;let ⟨a,d,h2⟩:=c n;refine⟨a,d,dj.of λi=>?_⟩;rw[fV];by_cases e:i<n
 .exact h2 i e
 .exact⟨0,by rw[k i G,fN];rfl⟩
structure Dn(A:Rx)(m:Y):Prop where
 pos:0<m
 int:dj (K ((m:Y):D)*A)
 dvd:∀d:Y,dj (K ((d:Y):D)*A)->m∣d
def HT A:∃m,Dn A m:=by
 let ⟨f,g,h2⟩:=ak5 A;let ⟨m,⟨a,c⟩,i⟩:=ZK (P:=λd=>0<d/\dj (K ((d:Y):D)*A)) f ⟨g,h2⟩;refine⟨m,a,c,λd k=>?_⟩;refine HR<|eQ λl=>?_;refine i (d%m) (fb _ a) ⟨G,?_⟩;have e:K ((d%m:Y):D)*A=K ((d:Y):D)*A-K (((d/m:Y):O):D)*(K ((m:Y):D)*A):=by
  have n:((d:Y):D)=((d/m:Y):D)*((m:Y):D)+((d%m:Y):D):=by rw[<-yD,<-Rat.natCast_add,gN,qx]
  rw[<-mul_assoc,<-eX,<-sub_mul,<-akp,n,qV];congr 2;grind
 rw[e];exact k.sub<|(dj.K _).mul c
def Dn.ZM{A}(g:Mo A){m}(c:Dn A m){a}(r:dw a):¬∀i,nu (K ((m:Y):D)*A) i%(a:O)=0:=λl=>by
 have t:=r.1;let ⟨n,u⟩:=DS g.ne;have v:nu (K ((m:Y):D)*A) n=(m:O):=by show((K ((m:Y):D)*A) n).num=_;rw[fV,g.at u,tq];rfl
 have B:a∣m:=wB.1<|v▸Dw (l n);let ⟨k,C⟩:=B;have d:0<k:=by
  have:=c.pos;rcases pq k with e|e
  .subst e;omega
  .exact e
 have F:dj (K ((k:Y):D)*A):=dj.of λi=>by let ⟨w,hw⟩:=Dw<|l i;refine⟨w,?_⟩;have p:=c.int.at i;rw[hw,fV,C,yD,fh,qV]at p;rw[fV];have H:=nT _<|wO (G:a≠0);have f:=a8 (λx=>((a:Y):D)⁻¹ *x) p;rw[<-oD,<-oD,<-oD,H]at f;rw[qP,qP]at f;exact f
 have:=uw d<|c.dvd k F;have:2*k<=a*k:=dT k t;omega
def ZN{P f}(B:Mo P)(F:Mo f){a g c}(m:Dn P a)(n:Dn f g)(u:Dn (P*f) c):c=a*g:=by
 have C:dj (K ((a:Y):D)*P*(K ((g:Y):D)*f)):=m.int.mul n.int;have v:K ((a:Y):D)*P*(K ((g:Y):D)*f)=K ((a*g:Y):D)*(P*f):=by rw[yD,eX];ac_rfl
 let ⟨k,H⟩:=u.dvd (a*g)<|v▸C;by_cases p:k=1
 .subst p;omega
 have L:=ya m.pos n.pos;have M:0<k:=by
  rcases pq k with e|e
  .subst e;omega
  .exact e
 let ⟨q,r,t⟩:=ak4 (k:=k) G;have Q:∀i,(nu (K ((a:Y):D)*P)*nu (K ((g:Y):D)*f)) i%(q:O)=0:=λi=>by have l:=m.int.mul' n.int i;rw[v,H,yD,eX,mul_comm (K _)<|K _,mul_assoc,fV,u.int.at i,<-qV,<-fh]at l;rw[<-wT.1 l];exact AA<|Ha (wB.2 t)<|Int.dvd_mul_right _ _
 have x:∀A:Rx,Dl (q:O) (sz A) (nu A):=λA i S=>by rw[yC S,gw]
 rcases DC (x<|K ((a:Y):D)*P)with l|⟨d,_,d1,d2⟩
 .exact absurd (λi=>by have:=l.at i;rwa[PS.lP,gw]at this)<|m.ZM B r
 rcases DC (x<|K ((g:Y):D)*f)with l|⟨e,_,f1,f2⟩
 .exact absurd (λi=>by have:=l.at i;rwa[PS.lP,gw]at this)<|n.ZM F r
 exact absurd (Q<|d+e)<|Go.El.AH r d2 f2 d1 f1
def na(n:Y)(A:PS):O:=sm (λi=>(aC (A i):O))<|n+1
def ZO(f:Y->O):∀n,(∀i,0<=f i)->sm (λi=>f i*f i) n<=sm f n*sm f n
 |0,_=>by simp[sm]
 |n+1,a=>by
  have d:=ZO f n a;have c:=Mm (f:=f) (n:=n) λi _=>a i
  have g:=iL c<|a n;rw[sm,sm,mX,nD,nD,ef (f n)<|sm f n];omega
def ak6 n(A:PS):Bw n A<=((bA n:Y):O)*(na n A*na n A):=by
 unfold Bw na;have c:=ZO (λi=>(aC (A i):O)) (n+1)<|λ_=>pO _;refine r7 ?_<|jR c<|pO _;rw[<-yf];refine HP λi k=>?_
 have d:bA i*bA (n-i)<=bA n:=by
  have a:=tu i<|n-i;rw[(G:i+(n-i)=n)]at a;have f:0<ch n i:=by
   rcases pq (ch n i)with e|e
   .rw[e,rM]at a;have:=HO n;omega
   .exact e
  rw[<-a];exact Ly _ f
 have g:(aC (A i):O)*(aC (A i):O)=A i*A i:=by rw[<-eU,ak7]
 rw[g];exact gG (Mr.2 d)<|AX _
def ZP n:∀k,ch n k<=2^n:=by
 induction n with
 |zero=>
  intro k
  cases k with
  |zero=>exact a7 _
  |succ k=>exact be _
 |succ n a=>
  intro k
  have c:=kh (n:=n) (T:0<2)
  rw[fF]
  cases k with
  |zero=>rw[qL];omega
  |succ k=>
   have:=a k
   have:=a<|k+1
   rw[ch];omega
def ak8{x c}(d:0<=c)(g:x*x<=c*c):(aC x:O)<=c:=by
 refine eQ λi=>?_
 have k:((aC x:O))*aC x=x*x:=by rw[<-eU,ak7]
 have f:c<aC x:=G;have l:c*c<(aC x:O)*aC x:=by have m:=jR (a:=c) (G:c<=(aC x:O)) d;have n:=GA f (G:(0:O)<aC x);omega
 omega
def ZQ{A B}{k l}(p:∀c,k<c->A c=0)(F:∀c,l<c->B c=0)(r:B l≠0) i:(aC (A i):O)<=2^(k+l)*na (k+l) (A*B):=by
 have d:0<=na (k+l) (A*B):=Mm λ_ _=>pO _
 have g:(0:O)<=2^(k+l):=Int.le_of_lt<|mW T;by_cases C:k<i
 .rw[p i C];exact iL g d
 refine ak8 (iL g d) ?_;have H:=r7 (ak3 p F)<|ak6 (k+l)<|A*B;have t:((bA l:Y):O)<=Bw l B:=by
  have:=Mn (f:=λi=>((bA i*bA (l-i):Y):O)*(B i*B i)) (a:=l) (n:=l+1) G λi _=>iL (pO _)<|AX _
  refine r7 ?_ this;rw[mr,show bA 0=1 from J,qD];have m:1<=B l*B l:=by have u:=AX<|B l;have v:B l*B l≠0:=yl r r;omega
  have:=jR m<|pO<|bA l;rwa[mF]at this
 have m:((bA i*bA (k-i):Y):O)*(A i*A i)<=Bw k A:=Mn (f:=λi=>((bA i*bA (k-i):Y):O)*(A i*A i)) (a:=i) (n:=k+1) G λi _=>iL (pO _)<|AX _
 have u:((bA i*bA (k-i):Y):O)*(A i*A i)*((bA l:Y):O)<=((bA (k+l):Y):O)*(na (k+l) (A*B)*na (k+l) (A*B)):=by refine r7 ?_ H;refine r7 (jR t<|iL (pO _)<|AX _) ?_;exact gG m<|r7 (pO _) t
 have v:bA (k+l)=bA i*bA (k-i)*bA l*(ch (k+l) k*ch k i):=by have K:=tu k l;have x:=tu i<|k-i;rw[(G:i+(k-i)=k)]at x;rw[<-K,<-x];ac_rfl
 have L:ch (k+l) k*ch k i<=2^(k+l)*2^(k+l):=ls (ZP _ _)<|cj (ZP _ _)<|fT T G;have M:0<bA i*bA (k-i)*bA l:=ya (ya (HO _)<|HO _)<|HO _;generalize na (k+l) (A*B)=S at*;have P:((bA i*bA (k-i)*bA l:Y):O)*(A i*A i)<=((bA i*bA (k-i)*bA l:Y):O)*((2^(k+l)*2^(k+l))*(S*S)):=by
  have Q:((bA i*bA (k-i)*bA l:Y):O)*(A i*A i)=((bA i*bA (k-i):Y):O)*(A i*A i)*((bA l:Y):O):=by rw[eU];ac_rfl
  rw[Q];refine r7 u ?_;rw[v,eU,iy];refine jR ?_<|pO _;refine gG ?_<|AX S;have:=Mr.2 L;rw[eU (2^(k+l)),s7]at this;exact this
 have W:=Int.le_of_mul_le_mul_left P<|Int.natCast_pos.2 M;refine r7 W<|ZJ ?_;ac_rfl
end Rx
def qX:V Y:=[1073741827,1073741831,1073741833,1073741839,1073741843,1073741857,1073741891,1073741909,1073741939,1073741953,1073741969,1073741971,
 1073741987,1073741993,1073742037,1073742053,1073742073,1073742077,1073742091,1073742113,1073742169,1073742203,1073742209,1073742223,
 1073742233,1073742259,1073742277,1073742289,1073742343,1073742353,1073742361,1073742391,1073742403,1073742463,1073742493,1073742517,
 1073742583,1073742623,1073742653,1073742667,1073742671,1073742673,1073742707,1073742713,1073742721,1073742731,1073742767,1073742773,
 1073742811,1073742851,1073742853,1073742881,1073742889,1073742913,1073742931,1073742937,1073742959,1073742983,1073743007,1073743037,
 1073743049,1073743051,1073743079,1073743091,1073743093,1073743123,1073743129,1073743141,1073743159,1073743163,1073743189,1073743199,
 1073743207,1073743243,1073743291,1073743303,1073743313,1073743327,1073743331,1073743337,1073743381,1073743387,1073743393,1073743397,
 1073743403,1073743417,1073743421,1073743427,1073743457,1073743459,1073743469,1073743501,1073743507,1073743513,1073743543,1073743577,
 1073743591,1073743633,1073743739,1073743757,1073743831,1073743861,1073743871]
def HU:Y->Y->Y
 |0,l=>l+1
 |d+1,l=>HU d (2*l)*HU d (2*l+1)
def R6:∀(d l x:Y),x<2^d->2^d*l+x+1∣HU d l
 |0,l,x,h=>by have:x=0:=dH;subst this;rw[py,hO,jd];exact Nat.dvd_refl _
 |d+1,l,x,h=>by
  rw[fF]at h⊢;by_cases e:x<2^d
  .have:=R6 d (2*l) x e;rw[(fc:2^d*(2*l)=2^d*2*l)]at this;exact Nat.dvd_mul_right_of_dvd this _
  .have:=R6 d (2*l+1) (x-2^d) G;rw[show 2^d*(2*l+1)+(x-2^d)=2^d*2*l+x by rw[yj,(fc:2^d*(2*l)=2^d*2*l)];omega]at this;exact ak9 this _
def pP(l:V Y):Y:=l.foldr (·*·) 1
def ak'{l}{x}(a:x∈l):x∣pP l:=by
 induction l with
 |nil=>cases a
 |cons y l c=>
  rcases bY.1 a with rfl|a
  .exact Nat.dvd_mul_right _ _
  .exact ak9 (c a) _
def ala:Nat.gcd (pP qX) (HU 15 0)=1:=dD
def alb:(qX.all λp=>dk 1073741824 p&&dk p 1073743872)=af:=dD
def ZR{p}(a:p∈qX):1073741824<p/\p<1073743872:=by have:=mq.1 alb p a;rw[cr]at this;exact⟨dc this.1,dc this.2⟩
def alc{p}(a:p∈qX):dw p:=by
 let ⟨l,h2⟩:=ZR a;refine⟨G,λd m f g=>?_⟩;have n:d<=32768:=by
  by_cases e:d<=32768
  .exact e
  .have:=ls (G:32769<=d) (G:32769<=d);omega
 have i:d∣HU 15 0:=by have:=R6 15 0 (d-1) (G:d-1<32768);rwa[Nat.mul_zero,eF,(G:d-1+1=d)]at this
 have k:d∣pP qX:=DX (HR g)<|ak' a;have c:=Nat.dvd_gcd k i;rw[ala]at c;have:=uw T c;omega
def Mt:∀(c a:Y)(f:Y->Y),c<a->(∀i,i<a->f i<c)->∃i d,i<d/\d<a/\f i=f d
 |0,a,f,r,l=>absurd (l 0 r) G
 |c+1,a,f,r,l=>by
  by_cases m:∃i,i<a/\f i=c
  .let ⟨i0,x,h2⟩:=m;by_cases t:∃i,i<a/\i≠i0/\f i=c
   .let ⟨i1,u,v,n⟩:=t;rcases ald v with p|p
    .exact⟨i1,i0,p,x,by rw[n,h2]⟩
    .exact⟨i0,i1,p,u,by rw[n,h2]⟩
   .have k:∀i,i<a->i≠i0->f i<c:=λi g A=>by
     have:=l i g;have:f i≠c:=λm=>t ⟨i,g,A,m⟩
     omega
    let ⟨i,d,u,v,n⟩:=Mt c (a-1) (λi=>if i<i0 then f i else f (i+1)) G λi g=>by
     split
     .exact k i G G
     .exact k (i+1) G G
    refine⟨if i<i0 then i else i+1,if d<i0 then d else d+1,?_,?_,?_⟩
    .split<;>split<;>omega
    .split<;>omega
    .split<;>split<;>simp_all
  .exact Mt c a f G λi g=>by
    have:=l i g;have:f i≠c:=λB=>m ⟨i,g,B⟩
    omega
def ZS{K:Y}(l:0<K):∀(C i a:Y),i<K^C->a<K^C->(∀c,c<C->i/K^c%K=a/K^c%K)->i=a
 |0,i,a,d,f,_=>by rw[py]at d f;omega
 |C+1,i,a,d,f,g=>by
  have k:=g 0 G;rw[py,Nat.div_one,Nat.div_one]at k;have m:=ZS l C (i/K) (a/K) (xN<|by rwa[fF,gN]at d) (xN<|by rwa[fF,gN]at f) λc n=>by have:=g (c+1) G;rwa[fF,gN,<-ale,<-ale]at this
  rw[<-qx i K,<-qx a K,k,m]
def code(K:Y)(v:Y->Y):Y->Y
 |0=>0
 |r+1=>code K v r+v r*K^r
def HV{K:Y}(v:Y->Y):∀a,(∀r,r<a->v r<K)->code K v a<K^a
 |0,_=>BJ
 |a+1,c=>by
  have f:=HV v a λr g=>c r G
  have d:=dT (K^a) (show v a+1<=K from c a G);rw[fD,hO]at d;rw[code,fF,gN (K^a) K];omega
def R7{K:Y}(v c:Y->Y):∀a,(∀r,r<a->v r<K)->(∀r,r<a->c r<K)->code K v a=code K c a->∀r,r<a->v r=c r
 |0,_,_,_,r,f=>absurd f G
 |a+1,i,hw,g,r,f=>by
  have l:=HV v a λr f=>i r G
  have m:=HV c a λr f=>hw r G
  rw[code,code]at g;have d:0<K^a:=G;have k:v a=c a:=by
   have n:(code K v a+v a*K^a)/K^a=v a:=by rw[alf _ _ d,Aq l,eF]
   have p:(code K c a+c a*K^a)/K^a=c a:=by rw[alf _ _ d,Aq m,eF]
   rw[<-n,<-p,g]
  by_cases e:r=a
  .rw[e];exact k
  .exact R7 v c a (λr f=>i r G) (λr f=>hw r G) (by rw[k]at g;omega) r G
def ZT{f:Y->O}{g:Y->Y}{X:Y}:∀n,(∀i,i<n->(f i).natAbs<=g i*X)->(sm f n).natAbs<=sN g n*X
 |0,_=>by simp[sm]
 |n+1,a=>by
  have c:=ZT n λi d=>a i G
  have k:=a n G;rw[sm,sN,fD];omega
def ZU(f g:Y->O):∀k,sm (λi=>f i-g i) k=sm f k-sm g k
 |0=>rfl
 |k+1=>by simp only[sm,ZU f g k];omega
def alg(M:Y->Y->O) a W(F:∀r,r<a->sN (λc=>aC<|M r c) (a+1)<=W)(H:1<=W):
  ∃x:Y->O,(∃c,c<a+1/\x c≠0)/\(∀c,c<a+1->aC (x c)<=(2*W)^a)/\∀r,r<a->sm (λc=>M r c*x c) (a+1)=0:=by
 obtain⟨X,u⟩:∃X,X=(2*W)^a:=⟨_,J⟩
 let d:Y->Y->O:=λi c=>((i/(X+1)^c%(X+1):Y):O)
 have k:∀i c,0<=d i c/\d i c<=X:=λi c=>by have:=fb (i/(X+1)^c) (G:0<X+1);show 0<=((i/(X+1)^c%(X+1):Y):O)/\((i/(X+1)^c%(X+1):Y):O)<=X;omega
 have l:∀i r,r<a->(sm (λc=>M r c*d i c)<|a+1).natAbs<=W*X:=λi r f=>by refine cj (ZT (g:=λc=>aC<|M r c) (X:=X) (a+1) λc _=>?_)<|dT X<|F r f;rw[pD];have:=k i c;exact jh _ G
 let v:Y->Y->Y:=λi r=>(sm (λc=>M r c*d i c) (a+1)+((W*X:Y):O)).toNat
 have m:∀i r,r<a->v i r<2*W*X+1/\((v i r:Y):O)=sm (λc=>M r c*d i c) (a+1)+((W*X:Y):O):=λi r f=>by
  have n:=l i r f;have e:v i r=(sm (λc=>M r c*d i c) (a+1)+((W*X:Y):O)).toNat:=rfl;have b:2*W*X=W*X+W*X:=by rw[yd,Nat.two_mul]
  generalize sm (λc=>M r c*d i c) (a+1)=s at*;rw[e];omega
 have p:(2*W*X+1)^a<(X+1)^(a+1):=by
  have n:2*W*X+1<=2*W*(X+1):=by rw[yj,qD];omega
  have A:=AY n a;rw[Nat.mul_pow,<-u]at A;have B:X*(X+1)^a<(X+1)*(X+1)^a:=QG G<|kh G;rw[fF,gN<|(X+1)^a];omega
 let ⟨i,j,n,A,B⟩:=Mt _ _ (λi=>code (2*W*X+1) (v i) a) p λi _=>HV (v i) a λr f=>(m i r f).1
 have L:=R7 (v i) (v j) a (λr f=>(m i r f).1) (λr f=>(m j r f).1) B
 refine⟨λc=>d i c-d j c,?_,λc _=>?_,λr f=>?_⟩
 .refine eQ λP=>?_
  have:i=j:=ZS (K:=X+1) G (a+1) i j G G λc Q=>by
   have t:d i c-d j c=0:=eQ λt=>P ⟨c,Q,t⟩
   have h:((i/(X+1)^c%(X+1):Y):O)-((j/(X+1)^c%(X+1):Y):O)=0:=t;omega
  omega
 .have C:=k i c;have S:=k j c;show aC (d i c-d j c)<=_;rw[<-u];omega
 .have C:=(m i r f).2;have S:=(m j r f).2;have e:sm (λc=>M r c*(d i c-d j c)) (a+1)=sm (λc=>M r c*d i c) (a+1)-sm (λc=>M r c*d j c) (a+1):=by rw[<-ZU];exact fM λc _=>Dk _ _ _
  rw[e];rw[L r f]at C;omega
def AZ(f g:PS)(n r c:Y):O:=if c<n then(if c<=r then f (r-c)else 0)else if c<2*n+1 then(if c-n<=r then g (r-(c-n))else 0)else(if r=0 then-1 else 0)
def ZW(f:Y->O)(a:Y):∀c,sm f (a+c)=sm f a+sm (λi=>f<|a+i) c
 |0=>by simp[sm]
 |c+1=>by rw[<-qk,sm,ZW f a c,sm];omega
def ZX{f:Y->Y}{m:Y}:∀n,(∀i,i<n->f i<=m)->sN f n<=n*m
 |0,_=>by simp[sN]
 |n+1,a=>by
  have c:=ZX n λi d=>a i G
  have g:=a n G;rw[sN,fD,hO];omega
def alh{f g}{n}{B}(F:1<=B)(L:∀i,n+1<i->f i=0)(M:∀i,n<i->g i=0)(P:∀i,(f i).natAbs<=B)(Q:∀i,(g i).natAbs<=B):
  ∃(u v:PS)(l:O),(∀i,n<=i->u i=0)/\(∀i,n+1<=i->v i=0)/\u*f+v*g=PS.K l/\aC l<=(2*((2*n+2)*B))^(2*n+1)/\(l=0->v=0->u=0->False):=by
 let ⟨x,⟨c0,I,h2⟩,S,W⟩:=alg (AZ f g n) (2*n+1) ((2*n+2)*B) (λr _=>ZX _ λc _=>by
  unfold AZ;split
  .split
   .exact P _
   .exact be _
  .split
   .split
    .exact Q _
    .exact be _
   .split
    .exact F
    .exact be _) (by have:=ls (G:1<=2*n+2) F;omega)
 refine⟨λi=>if i<n then x i else 0,λi=>if i<n+1 then x (n+i)else 0,x (2*n+1),λi p=>b G,λi p=>b G,?_,S _ G,?_⟩
 .refine PS.ext λr=>?_
  have H:∀(h A:PS)(m k:Y),(∀i,m<=i->A i=0)->(A*h) k=sm (λc=>(if c<=k then h (k-c)else 0)*A c) m:=λh A m k X=>by
   rw[PS.eW];have j:∀d,sm (λc=>(if c<=k then h (k-c)else 0)*A c) (k+1+d)=sm (λc=>(if c<=k then h (k-c)else 0)*A c) (k+1):=λd=>by
    induction d with
    |zero=>rfl
    |succ d t=>rw[<-qk,sm,t,b G,mD,qE]
   have o:∀d,sm (λc=>(if c<=k then h (k-c)else 0)*A c) (m+d)=sm (λc=>(if c<=k then h (k-c)else 0)*A c) m:=λd=>by
    induction d with
    |zero=>rfl
    |succ d t=>rw[<-qk,sm,t,X _ G,gn,qE]
   rw[<-o (k+1),J2 m,j m];exact fM λc a=>by rw[aq G,ef]
  rw[PS.eI,H f _ n r<|λi p=>b G,H g _ (n+1) r<|λi p=>b G];by_cases q:r<2*n+1
  .have C:=W r q;rw[(G:2*n+1+1=n+(n+1)+1),sm,ZW]at C;have s:sm (λc=>AZ f g n r c*x c) n=sm (λc=>(if c<=r then f (r-c)else 0)*(if c<n then x c else 0)) n:=fM λc a=>by rw[AZ,aq a,aq a]
   have w:sm (λi=>AZ f g n r (n+i)*x (n+i)) (n+1)=sm (λc=>(if c<=r then g (r-c)else 0)*(if c<n+1 then x (n+c)else 0)) (n+1):=fM λc a=>by rw[AZ,b G,aq G,aq a,GO]
   rw[s,w,AZ,b G,b G]at C;rw[PS.K,(G:2*n+1=n+(n+1))];split at C
   .rename_i e;rw[aq e];omega
   .rename_i e;rw[b e];omega
  .rw[PS.K,b G,pB λc a=>?_,pB λc a=>?_]
   .rfl
   .split
    .exact(a8 (·*_)<|M _ G).trans<|mD _
    .rw[mD]
   .split
    .exact(a8 (·*_)<|L _ G).trans<|mD _
    .rw[mD]
 .intro y z E;refine h2 ?_;by_cases c1:c0<n
  .have:=congrFun E c0;rwa[aq c1]at this
  .by_cases J:c0<2*n+1
   .have:=congrFun z<|c0-n;rwa[aq G,(G:n+(c0-n)=c0)]at this
   .rw[(G:c0=2*n+1)];exact y
def ZY{D:Y}:∀{l:V Y},l.Nodup->(∀p∈l,dw p/\p∣D)->pP l∣D
 |[],_,_=>Nat.one_dvd D
 |p::l,t,d=>by
  let ⟨u,h2⟩:=BV.1 t;have g:=ZY h2 λq i=>d q (by simp[i])
  have f:=(d p ay).1;have v:Nat.Coprime p (pP l):=f.coprime λc=>by
   have k:∀{l:V Y},(∀q∈l,dw q/\q∣D)->p∣pP l->p∈l:=by
    intro l;induction l with
    |nil=>intro _ c;have x:=f.1;have:=uw BJ c;omega
    |cons q l g=>
     intro m c
     rcases f.dvd_mul (a:=q) (b:=pP l) c with e|e
     .rcases(m q ay).1.Dx e with n|n
      .have x:=f.1;omega
      .rw[n];simp
     .have:=g (λr A=>m r<|by simp[A]) e;simp[this]
   exact u<|k (λq i=>d q<|by simp[i]) c
  exact v.mul_dvd_of_dvd_of_dvd (d p ay).2 g
def ali:qX.Nodup:=by
 have h:(qX.zip<|qX.drop 1).all (λx=>dk x.1 x.2)=af:=dD;have f:∀(l:V Y),(l.zip<|List.drop 1 l).all (λx=>dk x.1 x.2)=af->l.Pairwise (·<·):=by
  intro l;induction l with
  |nil=>intro _;exact .nil
  |cons a l i=>
   intro h
   cases l with
   |nil=>exact R8 _ _
   |cons b l=>
    have h:(((a,b)::((b::l).zip l)).all λx=>dk x.1 x.2)=af:=h
    rw[List.all_cons,cr]at h
    have g:=i h.2
    refine ju.2 ⟨λc k=>?_,g⟩
    have d:a<b:=dc h.1
    rcases bY.1 k with e|e
    .rw[e];exact d
    .exact Nat.lt_trans d<|(ju.1 g).1 c e
 exact(f qX h).imp λh=>Nat.ne_of_lt h
def wU:Y:=2^3089
def alj:Nat.ble (wU+1) (pP qX)=af:=dD
def Z0{a c}(d:Nat.ble (a+1) c=af):a<c:=Nat.lt_of_succ_le<|dc d
def alk:wU<pP qX:=Z0 alj
def alm{l}(d:l.Nodup)(f:∀p∈l,dw p)(g:wU<pP l){a}(t:a≠0)(i:aC a<=wU):∃p∈l,¬(p:O)∣a:=eQ λk=>by
 have m:=ZY (D:=aC a) d λp c=>⟨f p c,R9.1<|eQ λn=>k ⟨p,c,n⟩⟩
 have r:=uw G m;exact absurd i<|Nat.not_le_of_lt<|iz g r
def R'(p:O):Setoid {A:PS//bm p A}:=⟨λA B=>Cg p A.1 B.1,⟨λA=>Cg.refl p A.1,Cg.symm,Cg.trans⟩⟩
def Fx(p:O):Type:=Quotient<|R' p
namespace Fx
variable{p:O}
def mk(A:PS)(a:bm p A):Fx p:=Quotient.mk (R' p) ⟨A,a⟩
def mk_eq{A B}{a:bm p A}{k:bm p B}:mk A a=mk B k↔Cg p A B:=⟨λe=>Quotient.exact e,λe=>Quotient.sound (s:=R' p) e⟩
def ex x:∃A,∃a:bm p A,x=mk A a:=by refine Quotient.inductionOn x<|λA=>?_;exact⟨A.1,A.2,J⟩
instance:Add (Fx p):=⟨λx y=>aln x y (λA B=>mk (A.1+B.1)<|A.2.add B.2)<|λ_ _ _ _ h k=>mk_eq.2<|Cg.add h k⟩
instance:Mul (Fx p):=⟨λx y=>aln x y (λA B=>mk (A.1*B.1)<|A.2.mul B.2)<|λ_ _ _ _ h k=>mk_eq.2<|Cg.mul h k⟩
instance:Neg (Fx p):=⟨λx=>alo x (λA=>mk (-A.1) A.2.neg)<|λ_ _ h=>mk_eq.2<|Cg.neg h⟩
instance:_root_.Sub (Fx p):=⟨λx y=>x+ -y⟩
instance:OfNat (Fx p) 0:=⟨mk 0<|bm.zero p⟩
instance:OfNat (Fx p) 1:=⟨mk 1<|bm.one p⟩
def Z1{A B}{a:bm p A}{k:bm p B}:mk A a+mk B k=mk (A+B) (a.add k):=rfl
def Z2{A B}{a:bm p A}{k:bm p B}:mk A a*mk B k=mk (A*B) (a.mul k):=rfl
def mk_congr{A B}(a:A=B)(c:bm p A)(k:bm p B):mk A c=mk B k:=mk_eq.2<|Cg.of_eq a
def add_comm(x a:Fx p):x+a=a+x:=by obtain⟨A,h,rfl⟩:=ex x;obtain⟨B,k,rfl⟩:=ex a;exact mk_congr (PS.add_comm A B) _ _
def add_assoc(x a c:Fx p):x+a+c=x+(a+c):=by obtain⟨A,h,rfl⟩:=ex x;obtain⟨B,k,rfl⟩:=ex a;obtain⟨C,l,rfl⟩:=ex c;exact mk_congr (PS.add_assoc A B C) _ _
def mul_comm(x a:Fx p):x*a=a*x:=by obtain⟨A,h,rfl⟩:=ex x;obtain⟨B,k,rfl⟩:=ex a;exact mk_congr (PS.mul_comm A B) _ _
def mul_assoc(x a c:Fx p):x*a*c=x*(a*c):=by obtain⟨A,h,rfl⟩:=ex x;obtain⟨B,k,rfl⟩:=ex a;obtain⟨C,l,rfl⟩:=ex c;exact mk_congr (PS.mul_assoc A B C) _ _
def mul_add(x a c:Fx p):x*(a+c)=x*a+x*c:=by obtain⟨A,h,rfl⟩:=ex x;obtain⟨B,k,rfl⟩:=ex a;obtain⟨C,l,rfl⟩:=ex c;exact mk_congr (PS.mul_add A B C) _ _
def add_mul(x c a:Fx p):(x+c)*a=x*a+c*a:=by rw[mul_comm,mul_add,mul_comm a x,mul_comm a c]
def zero_add(x:Fx p):0+x=x:=by obtain⟨A,h,rfl⟩:=ex x;exact mk_congr (PS.zero_add A) ((bm.zero p).add h) h
def add_zero(x:Fx p):x+0=x:=by rw[add_comm,zero_add]
def one_mul(x:Fx p):1*x=x:=by obtain⟨A,h,rfl⟩:=ex x;exact mk_congr (PS.one_mul A) ((bm.one p).mul h) h
def mul_one(x:Fx p):x*1=x:=by rw[mul_comm,one_mul]
def zero_mul(x:Fx p):0*x=0:=by obtain⟨A,h,rfl⟩:=ex x;exact mk_congr (PS.zero_mul A) ((bm.zero p).mul h)<|bm.zero p
def mul_zero(x:Fx p):x*0=0:=by rw[mul_comm,zero_mul]
def add_neg(x:Fx p):x+ -x=0:=by obtain⟨A,h,rfl⟩:=ex x;exact mk_congr (PS.add_neg A) (h.add h.neg)<|bm.zero p
def neg_add(x:Fx p): -x+x=0:=by rw[add_comm,add_neg]
def sub_def(x a:Fx p):x-a=x+ -a:=rfl
instance:Std.Associative (α:=Fx p) (·+·):=⟨add_assoc⟩
instance:Std.Commutative (α:=Fx p) (·+·):=⟨add_comm⟩
instance:Std.Associative (α:=Fx p) (·*·):=⟨mul_assoc⟩
instance:Std.Commutative (α:=Fx p) (·*·):=⟨mul_comm⟩
def add_left_cancel{x a c:Fx p}(d:x+a=x+c):a=c:=by have:=a8 (-x+·) d;simpa only[<-add_assoc,neg_add,zero_add]using this
def kU(x a:Fx p):x-a+a=x:=by rw[sub_def,add_assoc,neg_add,add_zero]
def wI(x a:Fx p):x+a-a=x:=by rw[sub_def,add_assoc,add_neg,add_zero]
def Hi{x a c:Fx p}(d:x+a=c):x=c-a:=by rw[<-d,wI]
def sub_eq{x a c:Fx p}(d:x=c+a):x-a=c:=by rw[d,wI]
def sub_self(x:Fx p):x-x=0:=add_neg x
def sub_zero(x:Fx p):x-0=x:=sub_eq (add_zero x).symm
def DN{x a:Fx p}(c:x-a=0):x=a:=by rw[<-kU x a,c,zero_add]
def sub_mul(x c a:Fx p):(x-c)*a=x*a-c*a:=Hi (by rw[<-add_mul,kU])
def mul_sub(x a c:Fx p):x*(a-c)=x*a-x*c:=by rw[mul_comm,sub_mul,mul_comm a,mul_comm c]
def neg_mul(x a:Fx p): -x*a= -(x*a):=add_left_cancel (x:=x*a) (by rw[<-add_mul,add_neg,add_neg,zero_mul])
def mul_neg(x a:Fx p):x* -a= -(x*a):=by rw[mul_comm,neg_mul,mul_comm]
def neg_sub(x a:Fx p): -(x-a)=a-x:=add_left_cancel (x:=x-a) (by rw[add_neg,sub_def,sub_def];have:x+ -a+(a+ -x)=(x+ -x)+(-a+a):=fc;rw[this,add_neg,neg_add,add_zero])
def Hj(x a c:Fx p):(x-a)+(a-c)=x-c:=by rw[sub_def,sub_def,sub_def];have:x+ -a+(a+ -c)=x+ -c+(-a+a):=fc;rw[this,neg_add,add_zero]
def LY(x d a c:Fx p):(x+d)-(a+c)=(x-a)+(d-c):=sub_eq (by have:x-a+(d-c)+(a+c)=(x-a+a)+(d-c+c):=fc;rw[this,kU,kU])
instance:Dvd (Fx p):=⟨λa b=>∃w,b=w*a⟩
def dvd_refl(a:Fx p):a∣a:=⟨1,(one_mul a).symm⟩
def dvd_zero(a:Fx p):a∣0:=⟨0,(zero_mul a).symm⟩
def dvd_trans{a d c:Fx p}(f:a∣d)(k:d∣c):a∣c:=by obtain⟨w,rfl⟩:=f;obtain⟨v,rfl⟩:=k;exact⟨v*w,(mul_assoc v w a).symm⟩
def dvd_mul_left(a c:Fx p):a∣c*a:=⟨c,J⟩
def dvd_mul_right(a c:Fx p):a∣a*c:=⟨c,mul_comm a c⟩
def dV{a d}(f:a∣d)(c:Fx p):a∣c*d:=dvd_trans f<|dvd_mul_left d c
def lv{a d}(f:a∣d)(c:Fx p):a∣d*c:=dvd_trans f<|dvd_mul_right d c
def dvd_add{a d c:Fx p}(f:a∣d)(k:a∣c):a∣d+c:=by obtain⟨w,rfl⟩:=f;obtain⟨v,rfl⟩:=k;exact⟨w+v,(add_mul w v a).symm⟩
def dvd_neg{a c:Fx p}(d:a∣c):a∣-c:=by obtain⟨w,rfl⟩:=d;exact⟨-w,(neg_mul w a).symm⟩
def dvd_sub{a d c:Fx p}(f:a∣d)(k:a∣c):a∣d-c:=dvd_add f<|dvd_neg k
def wJ{a d c:Fx p}(f:a∣d+c)(k:a∣d):a∣c:=by have:=dvd_sub f k;rwa[add_comm d c,wI]at this
def nl{a d c:Fx p}(f:a∣d-c):a∣c-d:=by rw[<-neg_sub];exact dvd_neg f
def nR{a f c d:Fx p}(g:a∣f-c)(k:a∣c-d):a∣f-d:=by rw[<-Hj f c d];exact dvd_add g k
def LZ{a f c d g:Fx p}(i:a∣f-c)(k:a∣d-g):a∣(f+d)-(c+g):=by rw[LY];exact dvd_add i k
def pH{a f c d g:Fx p}(i:a∣f-c)(k:a∣d-g):a∣f*d-c*g:=by
 have:f*d-c*g=(f-c)*d+c*(d-g):=by rw[sub_mul,mul_sub,Hj]
 rw[this];exact dvd_add (lv i d)<|dV k c
def mJ(a c:Fx p):a∣c-c:=by rw[sub_self];exact dvd_zero a
def pk(a:Fx p):Y->Fx p
 |0=>1
 |n+1=>pk a n*a
def qQ(a:Fx p):pk a 1=a:=one_mul a
def wK(a:Fx p)(m:Y):∀n,pk a (m+n)=pk a m*pk a n
 |0=>(mul_one _).symm
 |n+1=>by rw[<-qk,pk,pk,wK a m n,mul_assoc]
def tj(a:Fx p)(m:Y):∀n,pk a (m*n)=pk (pk a m) n
 |0=>rfl
 |n+1=>by rw[Nat.mul_succ,wK,pk,tj a m n]
def tk(a c:Fx p):∀n,pk (a*c) n=pk a n*pk c n
 |0=>(one_mul 1).symm
 |n+1=>by rw[pk,pk,pk,tk a c n];ac_rfl
def AM:∀n,pk (1:Fx p) n=1
 |0=>rfl
 |n+1=>by rw[pk,AM n,one_mul]
def Z3{n}(a:0<n):pk (0:Fx p) n=0:=by obtain⟨m,rfl⟩:∃m,n=m+1:=⟨n-1,G⟩;rw[pk,mul_zero]
def HW{a d c:Fx p}(f:a∣d-c):∀n,a∣pk d n-pk c n
 |0=>mJ a 1
 |n+1=>pH (HW f n) f
def Mu{A:PS}(a:bm p A):∀n(k:bm p (pw A n)),mk (pw A n) k=pk (mk A a) n
 |0,_=>rfl
 |n+1,k=>by
  have c:bm p (pw A n):=by
   clear k;induction n with
   |zero=>exact bm.one p
   |succ n d=>exact d.mul a
  rw[pk,<-Mu a n c,Z2];rfl
def Mv{A:PS}(a:bm p A):∀n,bm p (pw A n)
 |0=>bm.one p
 |n+1=>(Mv a n).mul a
def K(c:O):Fx p:=mk (PS.K c)<|bm.K p c
def yE k:bm p (PS.X k):=⟨_,ajw p k⟩
def X:Fx p:=mk (PS.X 1)<|yE 1
def fx(a:V O):Fx p:=mk (ps a)<|bm.ps p a
def eX a c:(K (a*c):Fx p)=K a*K c:=mk_congr (PS.yh a c) _ _
def nP:(K 0:Fx p)=0:=mk_congr PS.nP _ _
def nS:(K 1:Fx p)=1:=rfl
def A0{a b}(c:a%p=b%p):(K a:Fx p)=K b:=mk_eq.2<|Cg.K c
def Rq{a c}(d:(K a:Fx p)=K c):a%p=c%p:=(mk_eq.1 d).at 0
def Z4(a:O):∀n,pk (K a:Fx p) n=K (a^n)
 |0=>by rw[ow,nS];rfl
 |n+1=>by rw[pk,Z4 a n,eZ,eX]
def jM:(fx []:Fx p)=0:=mk_congr AG _ _
def A1:(fx [1]:Fx p)=1:=mk_congr LC _ _
def Sa c:(fx [c]:Fx p)=K c:=mk_congr (PS.ext λi=>by
 cases i with
 |zero=>rfl
 |succ i=>rfl) _ _
def alp c a:ps (c::a)=PS.K c+PS.X 1*ps a:=PS.ext λi=>by
 rw[PS.eI,PS.mG];cases i with
 |zero=>rw[b G];show c=PS.K c 0+0;rw[PS.K,aq J];omega
 |succ i=>rw[aq G];show E a i 0=PS.K c (i+1)+E a i 0;rw[PS.K,b G];omega
def HX c a:(fx (c::a):Fx p)=K c+X*fx a:=mk_congr (alp c a) _ _
def Mw{a c}(d:Cg p (ps a) (ps c)):(fx a:Fx p)=fx c:=mk_eq.2 d
def uQ a c:(fx (cG a c p):Fx p)=fx a*fx c:=mk_eq.2<|DB a c p
def DY a:(fx (aS a):Fx p)=fx a:=mk_congr (pG a) _ _
def Z5 a:(fx (md p a):Fx p)=fx a:=mk_eq.2<|Yl p a
def Sb a c:(fx (aS<|fG a c p):Fx p)=fx a-fx c:=(show mk _ (bm.ps p _)=mk _ ((bm.ps p a).sub<|bm.ps p c)from mk_eq.2<|Yq a c p).trans<|mk_congr (PS.sub_def _ _) _<|(bm.ps p a).add (bm.ps p c).neg
def tx{a c}(d:bs p a)(f:bs p c)(g:(fx a:Fx p)=fx c):a=c:=LB d f<|mk_eq.1 g
def Z6{a c}(d:(fx a:Fx p)=fx c) i:E a i 0%p=E c i 0%p:=(mk_eq.1 d).at i
def iW(c:0<p)(A:Fx p):∃a,bs p a/\fx a=A:=by
 obtain⟨A,⟨n,f⟩,rfl⟩:=ex A;have d:∀i,E ((cc n).map λi=>A i%p) i 0=if i<n then A i%p else 0:=λi=>by
  rw[aV,iT];by_cases e:i<n
  .rw[aq e,kS e];rfl
  .rw[b e,jQ bX];rfl
 refine⟨aS<|(cc n).map λi=>A i%p,km c<|λi=>?_,?_⟩
 .rw[d];split
  .exact⟨g6 _ G,g7 _ c⟩
  .exact⟨eO _,c⟩
 .rw[DY];refine mk_eq.2<|Cg.of λi=>?_;rw[cw,d];split
  .rw[lR]
  .rw[f i G,gw]
open Classical in
noncomputable def sz(A:Fx p):Y:=if h:∃a,bs p a/\fx a=A then Z (A2 h)else 0
def cO{a}(c:bs p a):sz (fx a:Fx p)=Z a:=by have h:∃b,bs p b/\(fx b:Fx p)=fx a:=⟨a,c,J⟩;unfold sz;rw[dif_pos h];have d:=uC h;rw[tx d.1 c d.2]
def yF{n}(f:0<p){A}(c:bm p A)(g:Dl p n A):sz (mk A c)<=n:=by let ⟨a,d,e⟩:=iW f<|mk A c;rw[<-e,cO d];exact d.len<|g.cg (mk_eq.1 e).symm
def L1(c:0<p) a:sz (fx a:Fx p)<=Z a:=yF c _<|kj p a
def ko(a:0<p):sz (0:Fx p)=0:=by rw[<-jM,cO<|qN a];rfl
def Rt(a:0<p) c:sz (K c:Fx p)<=1:=yF a _<|QW p c
def Ru(d:0<p){A:Fx p}(c:sz A=0):A=0:=by obtain⟨a,f,rfl⟩:=iW d A;rw[cO f]at c;rw[fB c,jM]
def eL(a:0<p){A:Fx p}(c:A≠0):0<sz A:=by
 rcases pq (sz A)with e|e
 .exact absurd (Ru a e) c
 .exact e
def Rv(c:0<p)(A B:Fx p):sz (A+B)<=max (sz A) (sz B):=by obtain⟨a,d,rfl⟩:=iW c A;obtain⟨b,f,rfl⟩:=iW c B;rw[cO d,cO f];exact yF c _<|((kj p a).le G).add<|(kj p b).le G
def Rw(c:0<p)(A:Fx p):sz (-A)<=sz A:=by obtain⟨a,d,rfl⟩:=iW c A;rw[cO d];exact yF c _ (kj p a).neg
def Hm(a:0<p)(A B:Fx p):sz (A-B)<=max (sz A) (sz B):=by have c:=Rv a A<| -B;have d:=Rw a B;rw[sub_def];omega
end Fx
structure bq(p:Y):Prop where
 hp:dw p
 le:p<=2147483648
def bq.pos{p}(H:bq p):(0:O)<(p:O):=A3
def bq.one{p}(H:bq p):(1:O)%(p:O)=1:=by have:=H.hp.1;exact gk T G
namespace Fx
variable{p:Y}
def pK(H:bq p):(1:Fx p)≠0:=λe=>by rw[<-nS,<-nP]at e;have:=Rq e;rw[H.one,gw]at this;cases this
def pI(H:bq p){c}(a:c%(p:O)≠0):∃d,(K d*K c:Fx p)=1:=by have f:=g6 c (show(p:O)≠0 by have:=H.pos;omega);have g:=g7 c H.pos;have e:(K c:Fx p)=K (c%(p:O)):=A0 (by rw[lR]);refine⟨((iq (ae<|c%(p:O)) (ae ((p:Y):O)):Y):O),?_⟩;rw[e,<-eX,<-nS];refine A0 ?_;rw[ef,DD H.hp H.le f g a,H.one]
def uD(H:bq p){c}(f:c%(p:O)≠0):(K c:Fx p)≠0:=λe=>by let ⟨d,a⟩:=pI H f;rw[e,mul_zero]at a;exact pK H a.symm
def dG(H:bq p){A B:Fx p}(r:A≠0)(t:B≠0):sz (A*B)+1=sz A+sz B:=by
 obtain⟨a,f,rfl⟩:=iW H.pos A;obtain⟨b,g,rfl⟩:=iW H.pos B;have u:=eL H.pos r;have v:=eL H.pos t;rw[cO f]at u⊢;rw[cO g]at v⊢;obtain⟨n,i⟩:∃n,Z a=n+1:=⟨Z a-1,G⟩;obtain⟨m,k⟩:∃m,Z b=m+1:=⟨Z b-1,G⟩;have c:=kj (p:O) a;have d:=kj (p:O) b;rw[i]at c⊢;rw[k]at d⊢;have x:=yF H.pos ((bm.ps (p:O) a).mul<|bm.ps p b)<|c.mul d;rw[<-uQ,cO<|mH H.pos a b];have l:=AH H.hp c d (f.top i)<|g.top k;have C:=(DB a b (p:O)).at (n+m);have F:Z (cG a b (p:O))<=n+(m+1):=by have e:sz (fx (cG a b p):Fx p)=Z (cG a b p):=cO<|mH H.pos a b;rw[uQ]at e;rw[<-e];exact x
 by_cases e:Z (cG a b (p:O))<=n+m
 .exfalso;rw[<-C,cw,eK _ e,gw]at l;exact l J
 .omega
def pE(H:bq p){A B:Fx p}(a:A≠0)(c:B≠0):A*B≠0:=λe=>by have h:=dG H a c;rw[e,ko H.pos]at h;have d:=eL H.pos a;have f:=eL H.pos c;omega
def yt(H:bq p){A B C:Fx p}(a:A≠0)(c:B*A=C*A):B=C:=by
 refine DN ?_;refine eQ λd=>?_
 exact pE H d a (by rw[sub_mul,c,sub_self])
def qR(H:bq p):sz (1:Fx p)=1:=by have a:=Rt H.pos 1 (p:=(p:O));have c:=eL H.pos<|pK H;rw[nS]at a;omega
def DP(H:bq p){A:Fx p}(f:sz A=1):∃c:O,c%(p:O)≠0/\A=K c:=by
 obtain⟨a,d,rfl⟩:=iW H.pos A;rw[cO d]at f;match a,f,d with
 |[c],_,d=>exact⟨c,d.top (n:=0) J,Sa c⟩
def uE(H:bq p){A}(a:sz A=1):∃B:Fx p,B*A=1:=by obtain⟨c,f,rfl⟩:=DP H a;let ⟨d,g⟩:=pI H f;exact⟨_,g⟩
def wL(H:bq p){A B:Fx p}(a:B*A=1):sz A=1:=by
 have c:A≠0:=λe=>pK H (by rw[<-a,e,mul_zero])
 have d:B≠0:=λe=>pK H (by rw[<-a,e,zero_mul])
 have f:=dG H d c;rw[a,qR H]at f;have g:=eL H.pos c;have i:=eL H.pos d;omega
def dvd_one(H:bq p){A:Fx p}(a:A∣1):sz A=1:=by let ⟨w,hw⟩:=a;exact wL H hw.symm
def jy(H:bq p){A B:Fx p}(d:A∣B)(a:B≠0):sz A<=sz B:=by
 obtain⟨w,rfl⟩:=d;have c:w≠0:=λe=>a Hn
 have f:A≠0:=λe=>a (by rw[e,mul_zero])
 have g:=dG H c f;have pw:=eL H.pos c;omega
def uF(H:bq p){A B:Fx p}(a:A∣B)(c:sz B<sz A):B=0:=
 eQ λd=>by have:=jy H a d;omega
def Ry(H:bq p) A{B:Fx p}(i:B≠0):∃Q d,A=Q*B+d/\sz d<sz B:=by
 obtain⟨a,f,rfl⟩:=iW H.pos A;obtain⟨b,g,rfl⟩:=iW H.pos B;have c:b≠[]:=λe=>i (by rw[e,jM])
 let ⟨d1,d2,d3,d4,d5,d6⟩:=lu H.hp H.le f.1 g c;refine⟨fx (aU a b p).1,fx (aU a b p).2,mk_eq.2 d1,?_⟩;rw[cO g,cO<|d5 f];have:=cQ.2 c;omega
def AO(H:bq p):∀(n:Y)(A B:Fx p),sz B<n->∃c d a,c∣A/\c∣B/\c=d*A+a*B
 |0,_,_,l=>by omega
 |n+1,A,B,l=>by
  by_cases g:B=0
  .subst g;exact⟨A,1,0,dvd_refl A,dvd_zero A,by rw[one_mul,mul_zero,add_zero]⟩
  .let ⟨Q,f,i,h2⟩:=Ry H A g;let ⟨c,d,a,k,m,r⟩:=AO H n B f G;refine⟨c,a,d-a*Q,?_,k,?_⟩
   .rw[i];exact dvd_add (dV k Q) m
   .rw[r,i,mul_add,sub_mul];have:a*(Q*B)+a*f+(d*B-a*Q*B)=(d*B-a*Q*B+a*Q*B)+a*f:=fc;rw[this,kU]
def Co(A B:Fx p):Prop:=∃U V,U*A+V*B=1
def Co.symm{A B:Fx p}(a:Co A B):Co B A:=by let ⟨U,V,a⟩:=a;exact⟨V,U,by rw[add_comm];exact a⟩
def alq{a f}:Co (fx a:Fx p) (fx f)↔wF p (ps a) (ps f):=by
 constructor
 .rintro⟨U,V,h⟩;obtain⟨U,c,rfl⟩:=ex U;obtain⟨V,d,rfl⟩:=ex V;exact⟨U,V,c,d,mk_eq.1 (h:mk _ ((c.mul<|bm.ps p a).add<|d.mul<|bm.ps p f)=mk 1 (bm.one p))⟩
 .rintro⟨U,V,c,d,h⟩;exact⟨mk U c,mk V d,mk_eq.2 h⟩
def Co.dvd{A B C:Fx p}(a:Co A B)(k:A∣B*C):A∣C:=by
 let ⟨U,V,a⟩:=a;have:C=C*U*A+V*(B*C):=by have c:C*(U*A)+C*(V*B)=C*U*A+V*(B*C):=fc;rw[<-c,<-mul_add,a,mul_one]
 rw[this];exact dvd_add (dvd_mul_left A _)<|dV k V
def Co.alr{A B C:Fx p}(c:Co A B)(a:A∣C)(kb:B∣C):A*B∣C:=by obtain⟨w,rfl⟩:=kb;rw[mul_comm w B]at a;obtain⟨v,rfl⟩:=c.dvd a;exact⟨v,fc⟩
def Co.mul{A B C:Fx p}(a:Co A B)(k:Co A C):Co A (B*C):=by
 let ⟨U,V,a⟩:=a;let ⟨c,d,k⟩:=k;refine⟨U*c*A+U*(d*C)+V*B*c,V*d,?_⟩;have:(U*A+V*B)*(c*A+d*C)=1:=by rw[a,k,one_mul]
 rw[<-this];simp only[mul_add,add_mul];ac_rfl
def Co.unit{A B:Fx p}(H:bq p)(a:Co A B)(k:A∣B):sz A=1:=by let ⟨U,V,a⟩:=a;exact dvd_one H<|a▸dvd_add (dvd_mul_left A U) (dV k V)
def br(Q:Fx p):Prop:=2<=sz Q/\∀A B,Q=A*B->sz A=1\/sz B=1
def br.ne{Q:Fx p}(H:bq p)(a:br Q):Q≠0:=λe=>by have:=a.1;rw[e,ko H.pos]at this;omega
def br.or{Q}(H:bq p)(c:br Q)(A:Fx p):Q∣A\/Co Q A:=by
 let ⟨D,U,V,d,h2,f⟩:=AO H _ Q A<|dL _;let ⟨w,hw⟩:=d;rcases c.2 _ _ hw with e|e
 .let ⟨B,a⟩:=uE H e;left;refine dvd_trans ⟨B,?_⟩ h2;rw[hw,<-mul_assoc,a,one_mul]
 .let ⟨B,a⟩:=uE H e;right;refine⟨B*U,B*V,?_⟩;rw[<-a,f,mul_add,mul_assoc,mul_assoc]
def br.AP{Q:Fx p}(H:bq p)(a:br Q):¬Q∣1:=λe=>by have:=dvd_one H e;have:=a.1;omega
def br.nU{Q}(H:bq p)(a:br Q){A B:Fx p}(k:Q∣A*B):Q∣A\/Q∣B:=by
 rcases a.or H A with e|e
 .exact .inl e
 .exact .inr<|e.dvd k
def rY(H:bq p):∀(n:Y)(A:Fx p),sz A<n->2<=sz A->∃Q,br Q/\Q∣A
 |0,_,k,_=>by omega
 |n+1,A,k,h2=>by
  by_cases c:br A
  .exact⟨A,c,dvd_refl A⟩
  .have:∃B C,A=B*C/\¬(sz B=1\/sz C=1):=eQ λl=>c ⟨h2,λB C e=>eQ λd=>l ⟨B,C,e,d⟩⟩
   let ⟨B,C,e,d⟩:=this;have f:A≠0:=λe=>by rw[e,ko H.pos]at h2;omega
   have g:B≠0:=λa=>f (by rw[e,a,zero_mul])
   have i:C≠0:=λa=>f (by rw[e,a,mul_zero])
   have m:=dG H g i;rw[<-e]at m;have u:=eL H.pos g;have v:=eL H.pos i;let ⟨Q,r,t⟩:=rY H n B G G;exact⟨Q,r,by rw[e];exact lv t C⟩
def DQ(H:bq p){A B:Fx p}(d:A≠0)(f:∀Q,br Q->Q∣A->Q∣B->False):Co A B:=by
 let ⟨D,U,V,a,h2,g⟩:=AO H _ A B<|dL _;have i:D≠0:=λe=>by let ⟨w,hw⟩:=a;rw[e,mul_zero]at hw;exact d hw
 have m:=eL H.pos i;by_cases e:sz D=1
 .let ⟨C,k⟩:=uE H e;refine⟨C*U,C*V,?_⟩;rw[<-k,g,mul_add,mul_assoc,mul_assoc]
 .let ⟨Q,l,c⟩:=rY H _ D (dL _) G;exact(f Q l (dvd_trans c a)<|dvd_trans c h2).elim
def GW(H:bq p)(A B:Fx p):pk (A+B) p=pk A p+pk B p:=by obtain⟨A,a,rfl⟩:=ex A;obtain⟨B,c,rfl⟩:=ex B;rw[Z1,<-Mu (a.add c) _ (Mv (a.add c) _),<-Mu a _ (Mv a _),<-Mu c _ (Mv c _),Z1];exact mk_eq.2<|H.hp.GW A B
def Dz(H:bq p) c:pk (K c:Fx p) p=K c:=by have d:=g6 c (show(p:O)≠0 by have:=H.pos;omega);let ⟨a,f⟩:=Av d;have e:(K c:Fx p)=K (a:O):=A0 (by rw[<-f,lR]);rw[e,Z4];exact A0<|H.hp.Dz a
def Mx(H:bq p)(A B:Fx p):∀i,pk (A+B) (p^i)=pk A (p^i)+pk B (p^i)
 |0=>by simp only[py,qQ]
 |i+1=>by rw[fF,tj,tj,tj,Mx H A B i,GW H]
def Sc(H:bq p)(c:O):∀i,pk (K c:Fx p) (p^i)=K c
 |0=>qQ _
 |i+1=>by rw[fF,tj,Sc H c i,Dz H]
def ev:V (Fx p)->Fx p->Fx p
 |[],_=>1
 |c::cs,a=>c+a*ev cs a
def Z7(a:Fx p):∀(f:V (Fx p))(c:Fx p),∃g:V (Fx p),Z g=Z f/\∀d,ev (c::f) d=ev (c::f) a+(d-a)*ev g d
 |[],c=>⟨[],J,λd=>by show c+d*1=c+a*1+(d-a)*1;rw[mul_one,mul_one,mul_one,add_assoc,add_comm a,kU]⟩
 |i::f,c=>by let ⟨g,h1,h2⟩:=Z7 a f i;refine⟨ev (i::f) a::g,yw,λd=>?_⟩;show c+d*ev (i::f) d=c+a*ev (i::f) a+(d-a)*(ev (i::f) a+d*ev g d);rw[h2 d];generalize ev (i::f) a=w;generalize ev g d=v;rw[mul_add,mul_add,add_assoc c,<-add_assoc (a*w),<-add_mul a,add_comm a,kU];congr 2;ac_rfl
def roots(H:bq p){Q:Fx p}(l:br Q):∀(f:V (Fx p))(g:V (Fx p)),Z f<Z g->(∀d∈g,Q∣ev f d)->g.Pairwise (λa u=>¬Q∣a-u)->False
 |_,[],i,_,_=>by simp at i
 |[],d::_,_,i,_=>l.AP H<|i d ay
 |c::f,r::g,hl,i,hp=>by
  let ⟨ds,x,h2⟩:=Z7 r f c;let ⟨m,n⟩:=ju.1 hp;have v:=i r ay;have k:Z ds<Z g:=by simp only[eB]at hl;omega
  refine roots H l ds g k (λd hy=>?_) n;have t:=i d nV;rw[h2 d]at t;rcases l.nU H (wJ t v)with e|e
  .exact absurd (nl e)<|m d hy
  .exact e
termination_by f=>Z f
decreasing_by simp only[eB];omega
def Z8(a:Fx p):∀m,ev (bp m 0) a=pk a m
 |0=>rfl
 |m+1=>by rw[xx,ev,Z8 a m,zero_add,pk,mul_comm]
def als m(a:Fx p):ev (0:: -1::bp m 0) a=pk a (m+2)-a:=by rw[ev,ev,Z8,zero_add,mul_add,mul_neg,mul_one,pk,pk,sub_def,add_comm];congr 1;ac_rfl
def nr(p:Y):Y->Y->V O
 |0,_=>[]
 |n+1,k=>((k%p:Y):O)::nr p n (k/p)
def Z9(p:Y):∀n k,Z (nr p n k)=n
 |0,_=>rfl
 |n+1,k=>by rw[nr,eB,Z9 p n]
def My{p:Y}(a:0<p):∀n k l,k<p^n->l<p^n->(∀i,E (nr p n k) i 0%(p:O)=E (nr p n l) i 0%(p:O))->k=l
 |0,k,l,c,d,_=>by rw[py]at c d;omega
 |n+1,k,l,c,d,f=>by
  have g:=f 0;simp only[nr,List.getD_cons_zero]at g;have m:k%p=l%p:=by have:=fb k a;have:=fb l a;rw[gk G G,gk G G]at g;omega
  have r:=My a n (k/p) (l/p) (xN<|by rw[gN,<-fF];exact c) (xN<|by rw[gN,<-fF];exact d) (λi=>by simpa only[nr,Ov]using f (i+1));rw[<-qx k p,<-qx l p,m,r]
def Z'(H:bq p){Q:Fx p}{i:Y}(a:Q∣pk X (p^i)-X):∀l:V O,Q∣pk (fx l) (p^i)-fx l
 |[]=>by rw[jM,Z3<|kh A3,sub_self];exact dvd_zero Q
 |c::l=>by rw[HX,Mx H,Sc H,tk];exact LZ (mJ Q _)<|pH a<|Z' H a l
def aac(H:bq p){Q:Fx p}(l:br Q){i}(n:0<i)(L:i+1<sz Q):¬Q∣pk X (p^i)-X:=λh=>by
 have r:=H.hp.1;have c:0<p:=G;have t:2<=p^i:=cj r (by rw[<-Nat.pow_one p,<-GX,hO];exact fT c n);have u:p^i<p^(i+1):=RM G G;obtain⟨m,d⟩:∃m,p^i=m+2:=⟨p^i-2,G⟩;refine roots H l (0:: -1::bp m 0) ((cc<|p^i+1).map λk=>fx<|nr p (i+1) k) (by simp[d]) (λy v=>?_) ?_
 .rw[als,<-d];obtain⟨k,_,rfl⟩:=jW.1 v;exact Z' H h _
 .refine DZ.2<|Mz ?_ Jd;intro a b f g x A;have f:=oW.1 f;have g:=oW.1 g;have B:=uF H A (by have K:=Hm H.pos (fx (nr p (i+1) a):Fx p)<|fx<|nr p (i+1) b;have C:=L1 H.pos<|nr p (i+1) a;have F:=L1 H.pos<|nr p (i+1) b;rw[Z9]at C F;omega);have:=My c (i+1) a b G G<|λj=>Z6 (DN B) j;omega
end Fx
namespace Fx
variable{p:Y}
def pQ(F:Fx p):Prop:=∀Q,br Q->¬Q*Q∣F
def pQ.of_dvd{F a:Fx p}(c:pQ F)(k:a∣F):pQ a:=λQ d f=>c Q d<|dvd_trans f k
def wM{A B C a:Fx p}(c:A∣B)(k:C∣a):A*C∣B*a:=by obtain⟨w,rfl⟩:=c;obtain⟨v,rfl⟩:=k;exact⟨w*v,fc⟩
def uG(H:bq p){c}(a:c%(p:O)≠0):sz (K c:Fx p)=1:=by let ⟨d,f⟩:=pI H a;exact wL H f
end Fx
def pR(A:PS):PS:=λi=>((i:O)+1)*A (i+1)
def alu{p}{A B}(a:Cg p A B):Cg p (pR A) (pR B):=Cg.of λi=>by show((i:O)+1)*A (i+1)%p=((i:O)+1)*B (i+1)%p;rw[pC,a.at,<-pC]
def wV{p}{A}(a:bm p A):bm p (pR A):=by let ⟨n,a⟩:=a;exact⟨n,λi c=>Lv<|a (i+1) G⟩
def lW(p:Y)(a:V O)(k:Y):V O:=(cc k).map λj=>E a (j*p) 0
def A4(p:Y)(r:V O):PS:=λi=>if i%p=0 then E r (i/p) 0 else 0
namespace Fx
variable{p:Y}
def bt(A:Fx p):Fx p:=alo A (λA=>mk (pR A.1)<|wV A.2)<|λ_ _ h=>mk_eq.2<|alu h
def Ho(x a:Fx p):bt (x+a)=bt x+bt a:=by obtain⟨A,h,rfl⟩:=ex x;obtain⟨B,k,rfl⟩:=ex a;exact mk_congr (PS.ext λi=>by show((i:O)+1)*(A (i+1)+B (i+1))=_;rw[nD];rfl) _ _
def DR c:bt (K c:Fx p)=0:=mk_congr (PS.ext λi=>by show((i:O)+1)*PS.K c (i+1)=0;rw[PS.K,b G,gn]) _ _
def Rz:bt (0:Fx p)=0:=by have h:=DR (p:=p) 0;rwa[nP]at h
def Hp c(x:Fx p):bt (K c*x)=K c*bt x:=by obtain⟨A,h,rfl⟩:=ex x;exact mk_congr (PS.ext λi=>by show((i:O)+1)*(PS.K c*A) (i+1)=(PS.K c*pR A) i;rw[PS.eX,PS.eX,pR,Int.mul_left_comm]) (wV<|(bm.K p c).mul h)<|(bm.K p c).mul<|wV h
def Hq(x:Fx p):bt (X*x)=x+X*bt x:=by
 obtain⟨A,h,rfl⟩:=ex x;exact mk_congr (PS.ext λi=>by
  show((i:O)+1)*(PS.X 1*A) (i+1)=A i+(PS.X 1*pR A) i;rw[PS.mG,PS.mG,aq G,dE];cases i with
  |zero=>simp
  |succ i=>
   rw[aq G,dE,pR,mX,jS,uo];rfl) (wV<|(yE 1).mul h) (h.add<|(yE 1).mul<|wV h)
def Hr(B:Fx p):∀a:V O,bt (fx a*B)=bt (fx a)*B+fx a*bt B
 |[]=>by rw[jM,zero_mul,Rz,zero_mul,zero_mul,zero_add]
 |c::a=>by have d:=Hr B a;rw[HX,add_mul,Ho,Hp,mul_assoc,Hq,d,Ho,DR,zero_add,Hq];simp only[add_mul,mul_add];ac_rfl
def uH(H:bq p)(A B:Fx p):bt (A*B)=bt A*B+A*bt B:=by obtain⟨a,_,rfl⟩:=iW H.pos A;exact Hr B a
def Hs(H:bq p)(Q:Fx p):∀a,pk Q a∣bt (pk Q<|a+1)
 |0=>⟨bt<|pk Q 1,(mul_one _).symm⟩
 |a+1=>by show pk Q a*Q∣bt (pk Q (a+1)*Q);rw[uH H];exact dvd_add (wM (Hs H Q a)<|dvd_refl Q)<|dvd_mul_right _ _
def L2(H:bq p)(A:Fx p):sz (bt A)<=sz A-1:=by obtain⟨a,c,rfl⟩:=iW H.pos A;rw[cO c];exact yF H.pos (wV<|bm.ps p a)<|λi d=>Lv<|kj (p:O) a (i+1) G
def mult(H:bq p){Q:Fx p}(c:br Q):∀(n:Y)(F:Fx p),sz F<n->F≠0->∃e a,F=pk Q e*a/\¬Q∣a
 |0,_,a,_=>by omega
 |n+1,F,a,k=>by
  by_cases d:Q∣F
  .obtain⟨f,rfl⟩:=d;have i:f≠0:=λe=>k Hn
   have m:=dG H i<|c.ne H;have r:=c.1;obtain⟨e,g,rfl,l⟩:=mult H c n f G i;exact⟨e+1,g,by rw[pk];ac_rfl,l⟩
  .exact⟨0,F,(one_mul F).symm,d⟩
def A5(H:bq p){Q:Fx p}(c:Q≠0):∀a,pk Q a≠0
 |0=>pK H
 |a+1=>pE H (A5 H c a) c
def aad(H:bq p){F D W U V:Fx p}(i:F≠0)(c:F=W*D)(k:D=U*F+V*bt F):pQ W:=by
 intro Q d f;let ⟨e,h,a,g⟩:=mult H d _ F (dL _) i;cases e with
 |zero=>
  refine g ?_
  have a:F=1*h:=a
  rw[one_mul]at a
  rw[<-a,c]
  exact lv (dvd_trans (dvd_mul_left Q Q) f) D
 |succ e=>
  have l:pk Q e∣F:=by rw[a,pk];exact lv (dvd_mul_right _ _) h
  have m:pk Q e∣bt F:=by rw[a,uH H];exact dvd_add (lv (Hs H Q e) h)<|lv (by rw[pk];exact dvd_mul_right _ _)<|bt h
  have n:pk Q e∣D:=by rw[k];exact dvd_add (dV l U)<|dV m V
  have r:Q*Q*pk Q e∣F:=by rw[c];exact wM f n
  let ⟨v,t⟩:=r
  refine g ⟨v,?_⟩
  refine yt H (A5 H (d.ne H)<|e+1) ?_
  rw[mul_comm h,<-a,t,pk];ac_rfl
def aae:∀n,pk (X:Fx p) n=mk (PS.X n) (yE n)
 |0=>rfl
 |n+1=>by rw[pk,aae n];exact mk_congr (PS.Lt n 1).symm ((yE n).mul<|yE 1)<|yE<|n+1
def aaf(a:0<p) r:bm p (A4 p r):=⟨Z r*p,λi c=>by
 unfold A4;split
 .rw[eK r ((Nat.le_div_iff_mul_le a).2 c),gw]
 .exact gw _⟩
def aag(H:bq p)(a:0<p):∀r:V O,pk (fx r) p=mk (A4 p r) (aaf a r)
 |[]=>by rw[jM,Z3 a];exact mk_congr (PS.ext λi=>by unfold A4;split<;>rfl) (bm.zero p) _
 |c::r=>by
  rw[HX,GW H,Dz H,tk,aag H a r,aae];refine mk_congr (PS.ext λi=>?_) ((bm.K p c).add<|(yE p).mul<|aaf a r) _;rw[PS.eI,PS.mG];by_cases d:p<=i
  .obtain⟨f,rfl⟩:∃f,i=f+p:=⟨i-p,G⟩;rw[aq d,dE,PS.K,b G,Aw];unfold A4;rw[Nat.add_mod_right,Nat.add_div_right _ a];rfl
  .rw[b d,qE,PS.K];unfold A4;rw[ou G,Aq G];rfl
def cP(H:bq p){a}(d:bt (fx a:Fx p)=0){k}(t:Z a<=k*p):(fx a:Fx p)=pk (fx<|lW p a k) p:=by
 have f:0<p:=A3;have g:=mk_eq.1 (d:mk (pR<|ps a) (wV<|bm.ps p a)=mk 0 (bm.zero p));rw[aag H f];refine mk_eq.2<|Cg.of λi=>?_;unfold A4;by_cases e:i%p=0
 .rw[aq e];congr 1;have l:i/p*p=i:=by have:=qx i p;rw[gN];omega
  unfold lW;by_cases m:i/p<k
  .rw[aV,iT,kS m];show _=E a (i/p*p) 0;rw[l];rfl
  .rw[eK (List.map _ _) bX,cw,eK a];have:k*p<=i/p*p:=dT p G;omega
 .rw[b e,gw];cases i with
  |zero=>rw[Nat.zero_mod]at e;exact absurd J e
  |succ i=>
   have c:=g.at i
   rw[PS.lP,gw]at c
   refine eQ λn=>?_
   refine H.hp.pE (a:=(i:O)+1) (λr=>e ?_) n c
   have:((i+1:Y):O)%(p:O)=0:=by rw[wh];exact r
   omega
structure Mon(p:Y)(a:V O):Prop where
 c:bs p a
 ne:a≠[]
 one:a.getD (a.length-1) 0=1
def Mon.pos{a}(d:Mon p a):1<=Z a:=cQ.2 d.ne
def Mon.jN(H:bq p){a}(d:Mon p a):(fx a:Fx p)≠0:=λe=>by rw[<-jM]at e;exact d.ne<|tx d.c (qN H.pos) e
def Sd(H:bq p){a d}(r:Mon p a)(i:Mon p d)(F:Z d<=Z a):Mon p (aU a d p).1:=by
 let ⟨d1,d2,d3,d4,d5,d6⟩:=lu H.hp H.le r.c.1 i.c i.ne;have K:=i.pos;obtain⟨n,t⟩:∃n,Z d=n+1:=⟨Z d-1,G⟩;obtain⟨m,B⟩:∃m,Z a=m+n+1:=⟨Z a-1-n,G⟩;have k:(aU a d p).1.length=m+1:=G;have u:=kj (p:O) (aU a d p).1;have v:=kj (p:O) d;rw[k]at u;rw[t]at v;have l:=d1.at<|m+n;have f:=r.one;have g:=i.one;rw[B,dE]at f;rw[t,dE]at g;have C:(ps (aU a d p).2) (m+n)=0:=by rw[cw];exact eK _ G
 rw[PS.eI,C,qE,u.top v,cw,cw,cw,f,g,mF]at l;have x:=d2 m;rw[H.one,gk x.1 x.2]at l;have A:(aU a d p).1.getD ((aU a d p).1.length-1) 0=1:=by rw[k,dE];exact l.symm
 refine⟨⟨d2,.inr<|by rw[A];decide⟩,λe=>by rw[e]at k;simp at k,A⟩
def MA(H:bq p){a c}(f:bs p a)(g:bs p c)(d:c≠[]):(aU a c p).2=[]↔(fx c:Fx p)∣fx a:=by
 let ⟨d1,d2,d3,d4,d5,d6⟩:=lu H.hp H.le f.1 g d;have e:(fx a:Fx p)=fx (aU a c p).1*fx c+fx (aU a c p).2:=mk_eq.2 d1;have k:=cQ.2 d;constructor
 .intro h;rw[e,h,jM,add_zero];exact dvd_mul_left _ _
 .intro h;rw[e]at h;have i:=uF H (wJ h<|dvd_mul_left _ _) (by rw[cO (d5 f),cO g];omega);rw[<-jM]at i;exact tx (d5 f) (qN H.pos) i
def AS(H:bq p){a c}(f:bs p a)(g:bs p c)(d:c≠[])(i:(fx c:Fx p)∣fx a):(fx a:Fx p)=fx (aU a c p).1*fx c:=by let ⟨d1,d2,d3,d4,d5,d6⟩:=lu H.hp H.le f.1 g d;have e:(fx a:Fx p)=fx (aU a c p).1*fx c+fx (aU a c p).2:=mk_eq.2 d1;rwa[(MA H f g d).2 i,jM,add_zero]at e
def MB(H:bq p){a c}(f:bs p a)(g:bs p c)(d:c≠[]):(fx c:Fx p)∣fx (aU a c p).2-fx a:=by let ⟨d1,_⟩:=lu H.hp H.le f.1 g d;have e:(fx a:Fx p)=fx (aU a c p).1*fx c+fx (aU a c p).2:=mk_eq.2 d1;refine nl ?_;rw[e,wI];exact dvd_mul_left _ _
def aah(H:bq p):∀(k:Y)(f g:V O),bs p f->bs p g->Z g<k->(fx (oC p k f g):Fx p)∣fx f/\(fx (oC p k f g):Fx p)∣fx g/\∃c a,(fx (oC p k f g):Fx p)=c*fx f+a*fx g
 |0,_,_,_,_,m=>by omega
 |k+1,f,g,i,hg,m=>by
  rw[oC];split
  .rename_i d;subst d;exact⟨dvd_refl _,by rw[jM];exact dvd_zero _,1,0,by rw[one_mul,zero_mul,add_zero]⟩
  .rename_i d;let ⟨d1,d2,d3,d4,d5,d6⟩:=lu H.hp H.le i.1 hg d;have n:=cQ.2 d;have l:(fx f:Fx p)=fx (aU f g p).1*fx g+fx (aU f g p).2:=mk_eq.2 d1;let ⟨i1,i2,c,a,i3⟩:=aah H k g (aU f g p).2 hg (d5 i) G;refine⟨by rw[l];exact dvd_add (dV i1 _) i2,i1,a,c-a*fx (aU f g p).1,?_⟩;rw[i3,l,mul_add,sub_mul];have:a*(fx (aU f g p).1*fx g)+a*fx (aU f g p).2+(c*fx g-a*fx (aU f g p).1*fx g)=(c*fx g-a*fx (aU f g p).1*fx g+a*fx (aU f g p).1*fx g)+a*fx (aU f g p).2:=fc;rw[this,kU]
def MC(H:bq p){a}(g:bs p a)(f:a≠[]):Mon p (kT p a)/\Z (kT p a)=Z a/\(fx (kT p a):Fx p)∣fx a/\(∃c,(fx (kT p a):Fx p)=K c*fx a)/\(fx a:Fx p)=K (E a (Z a-1) 0)*fx (kT p a):=by
 let ⟨m1,d,i,k,l⟩:=Q7 H.hp H.le g f;have m:=cQ.2 f;have e:(fx a:Fx p)=K (E a (Z a-1) 0)*fx (kT p a):=by rw[mul_comm];exact mk_eq.2 l
 refine⟨⟨m1,λe=>by rw[e]at d;simp at d;omega,by rw[d];exact i⟩,d,⟨_,e⟩,⟨((iq (ae<|E a (Z a-1) 0) (ae ((p:Y):O)):Y):O),?_⟩,e⟩;rw[mul_comm];exact mk_eq.2 k
def yG(H:bq p){f g}(a:bs p f)(m:bs p g)(d:f≠[]):Mon p (fH p f g)/\(fx (fH p f g):Fx p)∣fx f/\(fx (fH p f g):Fx p)∣fx g/\∃i k,(fx (fH p f g):Fx p)=i*fx f+k*fx g:=by
 let ⟨l,h2,i,k,r⟩:=aah H (Z g+1) f g a m<|dL _;let ⟨t,_,_⟩:=Q6 H.hp H.le (Z g+1) f g a m<|dL _;have u:oC p (Z g+1) f g≠[]:=λe=>by rw[e,jM]at l;let ⟨w,hw⟩:=l;rw[mul_zero,<-jM]at hw;exact d<|tx a (qN H.pos) hw
 let ⟨m1,x,n,⟨c,v⟩,_⟩:=MC H t u;exact⟨m1,dvd_trans n l,dvd_trans n h2,K c*i,K c*k,by rw[fH,v,r,mul_add,mul_assoc,mul_assoc]⟩
end Fx
def yH(a d:V O)(i:Y):Y->V O->V O
 |0,r=>r
 |c+1,r=>(yH a d i c r).set (i+c)<|E (yH a d i c r) (i+c) 0+E a i 0*E d c 0
def wW(a c:V O):Y->V O
 |0=>bp (Z a+Z c-1) 0
 |i+1=>yH a c i (Z c)<|wW a c i
def r8(a c:V O)(m:O):V O:=(wW a c<|Z a).map (·%m)
def Se(a d:V O)(i:Y)(r:V O):∀c,Z (yH a d i c r)=Z r
 |0=>rfl
 |c+1=>by rw[yH,rH,Se a d i r c]
def Sf(a c:V O):∀i,Z (wW a c i)=Z a+Z c-1
 |0=>by simp[wW]
 |i+1=>by rw[wW,Se,Sf a c i]
def aai(a d:V O)(i:Y)(r:V O):∀c,i+c<=Z r->ps (yH a d i c r)=ps r+PS.K (E a i 0)*PS.X i*ps (List.take c d)
 |0,_=>by rw[yH,G7,PS.mul_zero,PS.add_zero]
 |c+1,g=>by rw[yH,G5 _ (by rw[Se];omega),G6,PS.mul_add,<-PS.add_assoc,aai a d i r c G];congr 1;rw[show∀x f:O,x+f-x=f by intros;omega];rw[PS.yh,PS.Lt];ac_rfl
def aaj(a c:V O):∀i,i<=Z a->ps (wW a c i)=ps (List.take i a)*ps c
 |0,_=>by rw[wW,LD,G7,PS.zero_mul]
 |i+1,f=>by have d:=aai a c i (wW a c i) (Z c) (by rw[Sf];omega);rw[fv]at d;rw[wW,d,aaj a c i G,G6,PS.add_mul]
def Sg a c m:Cg m (ps<|r8 a c m) (ps a*ps c):=by have h:=aaj a c (Z a)<|a7 _;rw[fv]at h;rw[<-h];exact Yl m _
def Sh a c m:Z (r8 a c m)=Z a+Z c-1:=by rw[r8,cR,Sf]
def ME{a d:V O}(g:Z a=Z d)(i:∀c,c<Z a->E a c 0=E d c 0):a=d:=by refine sL g<|λc f k=>?_;have:=i c f;rw[aV,aV,cH f,cH k]at this;exact this
def alv a c{m}(d:0<m) k:0<=E (r8 a c m) k 0/\E (r8 a c m) k 0<m:=by rw[r8,getD_map<|gw m];exact⟨g6 _ G,g7 _ d⟩
def Si a c i:E (kQ a c) i 0=if i<Z a+Z c-1 then conv (λi=>E a i 0) (λi=>E c i 0) i else 0:=by
 unfold kQ;rw[aV,iT];split
 .rename_i h;rw[kS h];rfl
 .rename_i h;rw[jQ bX];rfl
def HY a c:Z (kQ a c)=Z a+Z c-1:=by simp[kQ]
def aak a c(d:a≠[])(f:c≠[]):ps (kQ a c)=ps a*ps c:=PS.ext λi=>by
 have g:=cQ.2 d;have k:=cQ.2 f;rw[cw,Si];show _=conv (λi=>E a i 0) (λi=>E c i 0) i
 split
 .rfl
 .symm;refine QB _ _ i (i+1) λj l=>?_
  by_cases e:j<Z a
  .show E a j 0*E c (i-j) 0=0;rw[eK c G,gn]
  .show E a j 0*E c (i-j) 0=0;rw[eK a G,mD]
def alw a c(d:a≠[])(f:c≠[]):E (kQ a c) (Z (kQ a c)-1) 0=E a (Z a-1) 0*E c (Z c-1) 0:=by have k:=cQ.2 d;have l:=cQ.2 f;rw[HY,Si,aq G,(G:Z a+Z c-1-1=(Z a-1)+(Z c-1))];exact aiO (λi g=>eK a G)<|λi g=>eK c G
def aal a c u v(d:∀i,aJ u (E a i 0))(f:∀i,aJ v (E c i 0))(g:Z a<=1000)(k:Z c<=1000) i:aJ (u+v+1) (E (kQ a c) i 0):=by
 rw[Si];split
 .exact Yw a c u v d f i (i+1) G
 .exact aJ.zero _
def aL(a:V O):Prop:=a≠[]/\E a (Z a-1) 0=1
def aL.can{a}(c:aL a):can a:= .inr (by rw[c.2];decide)
def aL.trim{a}(c:aL a):aS a=a:=ux c.can
def aL.aam{a c}(d:aL a)(f:aL c):aL (kQ a c):=by have i:=cQ.2 d.1;have k:=cQ.2 f.1;refine⟨λe=>?_,by rw[alw a c d.1 f.1,d.2,f.2];rfl⟩;have g:=HY a c;rw[e]at g;simp at g;omega
def aL.md{p}(d:1<p){a}(c:aL a):aL (md p a):=by refine⟨λe=>c.1 (fB<|by rw[<-wC p a,e];rfl),?_⟩;rw[wC,GZ,c.2];exact gk T d
namespace Rx
def zx(a:V O):Rx:=lx (a.map λx:O=>(x:D))
def kq a i:zx a i=((E a i 0:O):D):=by show E (a.map λx:O=>(x:D)) i 0=_;rw[aV,iT,aV];cases a[i]? <;>rfl
def A6 a:dj (zx a):=dj.of λi=>⟨_,kq a i⟩
def MF a:nu (zx a)=ps a:=PS.ext λi=>by show(zx a i).num=_;rw[kq];rfl
def alx{a}(c:can a):bS (a.map λx:O=>(x:D)):=by
 rcases c with c|c
 .subst c;exact .inl J
 .right;rw[cR];intro e;have d:=kq a<|Z a-1;rw[show zx a (Z a-1)=0 from e]at d;exact c<|Rat.intCast_eq_zero_iff.1 d.symm
def kr{a}(c:can a):sz (zx a)=Z a:=by rw[zx,gQ<|alx c,cR]
def aL.can{a}(c:aL a):can a:= .inr (by rw[c.2];decide)
def ns{a}(c:aL a):Mo (zx a):=by rw[Mo,kr<|aL.can c,kq,c.2];rfl
def aly{a c}(g:can a)(k:can c)(d:zx a=zx c):a=c:=by
 have l:∀i,E a i 0=E c i 0:=λi=>by
  have e:zx a i=zx c i:=by rw[d]
  rw[kq,kq]at e;exact wT.1 e
 refine ME ?_ λj _=>l j
 have f:=kr g;rw[d,kr k]at f;exact f.symm
def MG{A}(d:dj A):∃a,can a/\zx a=A:=by
 obtain⟨a,c,rfl⟩:=iW A;have e:∀i,E (a.map Rat.num) i 0=(E a i 0).num:=λi=>by rw[aV,iT,aV];cases a[i]? <;>rfl
 refine⟨a.map Rat.num,?_,ext λi=>?_⟩
 .rcases c with c|c
  .subst c;exact .inl J
  .right;rw[cR,e];exact λf=>c<|DK.1 f
 .rw[kq,e];exact(d i).symm
def MH{a}(f:can a)(c:Mo (zx a)):aL a:=by have d:=c;rw[Mo,kr f,kq]at d;refine⟨λe=>?_,wT.1 (d.trans Rat.intCast_one.symm)⟩;subst e;exact c.ne<|show zx []=0 from pJ
def MI{a d c}(f:zx a*zx d=zx c):ps a*ps d=ps c:=by rw[<-MF,<-MF,<-HS (A6 a) (A6 d),f,MF]
def wX(A:PS){n:Y}(a:∀i,n<=i->A i=0):Rx:=⟨λi=>(A i:D),n,λi c=>by rw[a i c];rfl⟩
def MJ A{n}(a:∀i,n<=i->A i=0):dj (wX A a):=λ_=>rfl
def MK A{n}(a:∀i,n<=i->A i=0):nu (wX A a)=A:=rfl
def alz{A B}(a:dj A)(c:dj B)(d:nu A=nu B):A=B:=ext λi=>by rw[a.at,c.at,d]
def aan{A B}(a:dj A)(c:dj B):dj (A+B)/\nu (A+B)=nu A+nu B:=by
 have e:∀i,(A+B) i=(((nu A+nu B) i:O):D):=λi=>by rw[eI,a.at,c.at,<-Mi];rfl
 exact⟨dj.of λi=>⟨_,e i⟩,PS.ext λi=>by show((A+B) i).num=_;rw[e];rfl⟩
def Sj a:dj (bt<|zx a)/\nu (bt<|zx a)=pR (ps a):=by
 have e:∀i,bt (zx a) i=((pR (ps a) i:O):D):=λi=>by rw[pM,kq];show _=((((i:O)+1)*ps a (i+1):O):D);rw[fh];rfl
 exact⟨dj.of λi=>⟨_,e i⟩,PS.ext λi=>by show(bt (zx a) i).num=_;rw[e];rfl⟩
def alA{l}(hn:l.Nodup)(S:∀p∈l,bq p)(hb:wU<pP l){A}{n}(hl:Z A=n+2)(W:aL A)(r:Co (zx A) (bt<|zx A)){B}(h1B:1<=B)(hB:∀i,aC (E A i 0)<=B)(f:(2*((2*n+2)*((n+1)*B)))^(2*n+1)<=wU):
  ∃p∈l,Fx.Co (Fx.fx A:Fx (p:Y)) (Fx.bt<|Fx.fx A):=by
 have X:∀i,n+1<i->ps A i=0:=λi a=>eK A G
 have g:∀i,n<i->pR (ps A) i=0:=λi a=>by show _*ps A (i+1)=0;rw[X (i+1) G,gn]
 have t:B<=(n+1)*B:=by have:=dT B (G:1<=n+1);omega
 let ⟨u,v,k,u1,v1,e,q,x⟩:=alh (B:=(n+1)*B) G X g (λi=>cj (hB i) t) (λi=>by
  by_cases a:n<i
  .rw[g i a];exact be _
  .show aC (((i:O)+1)*ps A (i+1))<=_;rw[pD];exact ls G<|hB _)
 have s:=ns W
 have w:sz (zx A)=n+2:=by rw[kr (aL.can W),hl]
 have C:k≠0:=λy=>by
  subst y;have F:wX u u1*zx A+wX v v1*bt (zx A)=0:=by have b:=(MJ u u1).mul<|A6 A;have h:=(MJ v v1).mul (Sj A).1;refine alz (aan b h).1 (λ_=>rfl) ?_;rw[(aan b h).2,HS (MJ u u1)<|A6 A,HS (MJ v v1) (Sj A).1,MK,MK,MF,(Sj A).2,e,PS.nP];rfl
  have j:zx A∣wX v v1*bt (zx A):=by refine wJ ?_<|dvd_mul_left (zx A)<|wX u u1;rw[F];exact dvd_zero _
  rw[mul_comm]at j;have z:=r.dvd j;have o:wX v v1=0:=uF z (by have:=tn (A:=wX v v1) (n:=n+1) (λi a=>by show((v i:O):D)=0;rw[v1 i a];rfl);omega);rw[o,zero_mul,add_zero]at F;have I:wX u u1=0:=eQ λN=>pE N s.ne F
  refine x J ?_ ?_
  .rw[<-MK v v1,o];rfl
  .rw[<-MK u u1,I];rfl
 let ⟨p,m,L⟩:=alm hn (λp m=>(S p m).hp) hb C<|cj q f
 refine⟨p,m,?_⟩
 have H:=S p m
 have M:bm p u:=⟨n,λi a=>by rw[u1 i a,gw]⟩
 have P:bm p v:=⟨n+1,λi a=>by rw[v1 i a,gw]⟩
 let ⟨d,R⟩:=Fx.pI H (c:=k)<|λT=>L<|Dw T
 refine⟨Fx.K d*Fx.mk u M,Fx.K d*Fx.mk v P,?_⟩
 have Q:(Fx.mk u M*Fx.fx A+Fx.mk v P*Fx.bt (Fx.fx A):Fx p)=Fx.K k:=Fx.mk_congr e ((M.mul<|bm.ps p A).add<|P.mul<|wV<|bm.ps p A)<|bm.K p k
 rw[Fx.mul_assoc,Fx.mul_assoc,<-Fx.mul_add,Q]
 exact R
end Rx
def ML{a b m}(c:a%m=b%m):dq a m=dq b m:=by unfold dq;rw[c]
def yI{m}(c:0<m) a:dq a m%m=a%m:=by
 unfold dq;split
 .rw[wE,lR,Int.emod_self,Am,lR]
 .exact lR _ _
def aao{m}(a:1<m):dq 1 m=1:=by unfold dq;rw[gk T a,b G]
def alB m(a:0<m):dq 0 m=0:=by unfold dq;rw[gw,b G]
def pS F{m}(a:0<m) i:(F.map (dq · m)).getD i 0=dq (E F i 0) m:=getD_map (f:=(dq · m)) (alB m a) F i
def alC{F a}{m}(c:0<m)(d:Z F=Z a)(f:∀i,E F i 0%m=E a i 0%m):F.map (dq · m)=a.map (dq · m):=ME (by rw[cR,cR,d]) λj _=>by rw[pS F c,pS a c];exact ML<|f j
def A7{F}{m}(c:1<m)(a:aL F):aL (F.map (dq · m)):=by refine⟨λe=>a.1<|List.map_eq_nil_iff.1 e,?_⟩;rw[cR,pS F G,a.2];exact aao c
open Fx
def aap{p}(H:bq p){c}{d}(f:bm p c)(k:c d=1)(l:∀i,d<i->c i=0):sz (mk c f)=d+1:=by
 have m:sz (mk c f)<=d+1:=yF H.pos f λi r=>by rw[l i G,gw]
 let ⟨a,n,e⟩:=iW H.pos<|mk c f;have g:=(mk_eq.1 (e:mk (ps a) (bm.ps p a)=mk c f)).at d;rw[<-e,cO n]at m⊢;by_cases hl:Z a<=d
 .rw[cw,eK a hl,k,gw,H.one]at g;cases g
 .omega
def Sk{p}{A}{n}(a:∀i,n<=i->A i=0):bm p A:=⟨n,λi c=>by rw[a i c,gw]⟩
structure MD(d:Y)(a:PS):Prop where
 one:a d=1
 z:∀i,d<i->a i=0
def MD.MM{d}{a}(c:MD d a) p:bm p a:=Sk (n:=d+1) λi f=>c.z i G
def aaq{p:Y}(H:bq p){a g K k:PS}{d v:Y}(m:MD d a)(r:MD d g)(x:MD v K)(u:MD v k)(B:Co (mk a<|m.MM p) (mk K<|x.MM p))(c1:Cg p a g)(c2:Cg p K k):∀c,1<=c->Cg ((p:O)^c) (a*K) (g*k)->Cg ((p:O)^c) a g/\Cg ((p:O)^c) K k
 |0,F,_=>absurd F G
 |1,_,_=>by rw[eZ,ow,jS];exact⟨c1,c2⟩
 |c+1+1,_,F=>by
  have hp:=H.hp.1;have C:Cg ((p:O)^(c+1)) (a*K) (g*k):=Cg.of λi=>by have l:=r9 ((a*K) i) (show((p:O)^(c+1))∣(p:O)^(c+1+1)from⟨p,eZ _ _⟩);have L:=r9 ((g*k) i) (show((p:O)^(c+1))∣(p:O)^(c+1+1)from⟨p,eZ _ _⟩);rw[<-l,F.at,L]
  let ⟨i1,i2⟩:=aaq H m r x u B c1 c2 (c+1) G C;obtain⟨q,eq⟩:∃q,q=(p:O)^(c+1):=⟨_,J⟩;have X:q≠0:=by rw[eq];exact Int.ne_of_gt<|mW G
  rw[<-eq]at i1 i2;rw[eZ,<-eq]at F⊢;let ⟨U,b⟩:=i1.symm;let ⟨V,o⟩:=i2.symm;have zU:∀i,d<=i->U i=0:=λi s=>by
   have l:g i=a i+q*U i:=by rw[b,PS.eI,PS.eX]
   have L:g i=a i:=by
    by_cases v:i=d
    .subst v;rw[m.one,r.one]
    .rw[m.z i G,r.z i G]
   have M:q*U i=0:=G;exact(Int.mul_eq_zero.1 M).resolve_left X
  have zV:∀i,v<=i->V i=0:=λi s=>by
   have l:k i=K i+q*V i:=by rw[o,PS.eI,PS.eX]
   have L:k i=K i:=by
    by_cases y:i=v
    .subst y;rw[x.one,u.one]
    .rw[x.z i G,u.z i G]
   have M:q*V i=0:=G;exact(Int.mul_eq_zero.1 M).resolve_left X
  have P:bm p U:=Sk zU;have D:bm p V:=Sk zV;have E:(p:O)∣q:=by rw[eq,eZ];exact A8 _ _
  have I:Cg p (a*V+U*K) 0:=Cg.QU λi=>by
   have l:=F.symm.dvd i;have y:g*k=a*K+PS.K q*(a*V+U*K)+PS.K q*(PS.K q*(U*V)):=by rw[b,o];simp only[PS.mul_add,PS.add_mul];ac_rfl
   rw[y,PS.eI,PS.eI,PS.eX,PS.eX,PS.eX]at l;let ⟨w,hw⟩:=l;have L:q*((a*V+U*K) i+q*(U*V) i)=q*(p*w):=by rw[nD,<-iy q (p:O) w,<-hw];omega
   have M:=Int.eq_of_mul_eq_mul_left X L;let ⟨z,hz⟩:=E;refine⟨w-z*(U*V) i,?_⟩;rw[PS.lP,Am,Dk,<-M,hz,iy];omega
  have f:=m.MM p;have Q:=x.MM p;have N:mk a f*mk V D+mk U P*mk K Q=0:=mk_eq.2 I;have d1:mk a f∣mk U P*mk K Q:=wJ (by rw[N];exact dvd_zero _)<|dvd_mul_right _ _;have sG:sz (mk a f)=d+1:=aap H f m.one m.z;have u0:mk U P=0:=by
   refine uF H (B.dvd<|by rw[mul_comm];exact d1) ?_;have:=yF H.pos P (n:=d) λi s=>by rw[zU i s,gw]
   omega
  rw[u0,zero_mul,add_zero]at N;have R:mk a f≠0:=λe0=>by rw[e0,ko H.pos]at sG;omega
  have v0:mk V D=0:=eQ λhv=>pE H R hv N
  have S:∀{A T W:PS}(Z:bm p W),T=A+PS.K q*W->mk W Z=0->Cg (q*p) A T:=λ{A T W} Z hA hW0=>Cg.symm (Cg.QU λi=>by have l:=(mk_eq.1 (hW0:mk W Z=mk 0 (bm.zero p))).dvd i;rw[PS.lP,Am]at l;let ⟨t,ht⟩:=l;refine⟨t,?_⟩;rw[hA,PS.eI,PS.eX,ht,iy];omega)
  exact⟨S P b u0,S D o v0⟩
def bC(a:Y->Bool):Y->V (V O)->V (V O)
 |_,[]=>[]
 |i,f::l=>if a i then f::bC a (i+1) l else bC a (i+1) l
def jO(m:O)(g:V O):V (V O)->V O
 |[]=>g
 |f::l=>jO m (r8 g f m) l
def oE:V (V O)->PS
 |[]=>1
 |f::l=>ps f*oE l
def dn:V (V O)->Y
 |[]=>0
 |f::l=>(Z f-1)+dn l
def aar(a:Y->Bool):∀(l r:V (V O))(i:Y),bC a i (l++r)=bC a i l++bC a (i+Z l) r
 |[],r,i=>rfl
 |f::l,r,i=>by rw[mc,bC,bC,aar a l r<|i+1,eB,(G:i+1+Z l=i+(Z l+1))];split<;>rfl
def aas(m:O):∀(l r:V (V O))(g:V O),jO m g (l++r)=jO m (jO m g l) r
 |[],_,_=>rfl
 |f::l,r,g=>aas m l r<|r8 g f m
def wY{c:Y->Bool}{x:V O}:∀{l:V (V O)}{i:Y},x∈bC c i l->x∈l
 |[],_,a=>a
 |f::l,i,a=>by
  rw[bC]at a;split at a
  .rcases bY.1 a with rfl|a
   .simp
   .simp[wY a]
  .simp[wY a]
def HZ{d:Y->Bool}{c:V O->V O->Prop}:∀{l:V (V O)}{i:Y},l.Pairwise c->(bC d i l).Pairwise c
 |[],_,a=>a
 |f::l,i,a=>by
  let ⟨g,h2⟩:=ju.1 a;rw[bC];split
  .exact ju.2 ⟨λy k=>g y<|wY k,HZ h2⟩
  .exact HZ h2
def Sl(a:Y->Bool):∀(l:V (V O))(i:Y),oE (bC a i l)*oE (bC (λi=> !a i) i l)=oE l
 |[],_=>PS.mul_one 1
 |f::l,i=>by
  have c:=Sl a l<|i+1;rw[bC,bC];cases a i
  .simp only[CN,b9,gY,bN,oE];rw[<-c];ac_rfl
  .simp only[MN,b9,gY,bN,oE];rw[<-c];ac_rfl
def MQ(a:Y->Bool):∀(l:V (V O))(i:Y),dn (bC a i l)+dn (bC (λi=> !a i) i l)=dn l
 |[],_=>rfl
 |f::l,i=>by
  have c:=MQ a l<|i+1;rw[bC,bC];cases a i
  .simp only[CN,b9,gY,bN,dn];omega
  .simp only[MN,b9,gY,bN,dn];omega
def MR(m:O):∀(l:V (V O))(g:V O),Cg m (ps<|jO m g l) (ps g*oE l)
 |[],g=>Cg.of_eq (PS.mul_one _).symm
 |f::l,g=>by refine(MR m l<|r8 g f m).trans<|((Sg g f m).AB _).trans<|Cg.of_eq ?_;rw[oE];ac_rfl
def alE{a c}{m}(l:1<m)(f:aL a)(g:aL c):aL (r8 a c m):=by
 have u:=cQ.2 f.1;have v:=cQ.2 g.1;have d:=Sh a c m;have n:=Cg.trans (Sg a c m)<|Cg.refl m _;have k:=n.at<|Z a-1+(Z c-1);have p:(ps a*ps c) (Z a-1+(Z c-1))=1:=by
  rw[PS.eW,wR (a:=Z a-1) G λi x r=>?_]
  .rw[(G:Z a-1+(Z c-1)-(Z a-1)=Z c-1),cw,cw,f.2,g.2];rfl
  .by_cases e:Z a<=i
   .rw[cw,eK a e,mD]
   .rw[cw c,eK c G,gn]
 let ⟨r1,t⟩:=alv a c (by omega:0<m)<|Z a-1+(Z c-1);rw[p,cw,gk r1 t,gk T l]at k;refine⟨λe=>by rw[e]at d;simp at d;omega,?_⟩;rw[d,(G:Z a+Z c-1-1=Z a-1+(Z c-1))];exact k
def yJ{m:O}(a:1<m):∀{l:V (V O)}{g:V O},aL g->(∀f∈l,aL f)->aL (jO m g l)/\Z (jO m g l)=Z g+dn l
 |[],g,hg,_=>⟨hg,J⟩
 |f::l,g,hg,c=>by
  have d:=c f ay;have k:=cQ.2 d.1;have n:=cQ.2 hg.1;let ⟨i,h2⟩:=yJ a (l:=l) (alE a hg d) λx hx=>c x lF
  refine⟨i,?_⟩;rw[jO,h2,Sh,dn];omega
def A9:aL [1]:=⟨ay,J⟩
def aL.tz{a}(c:aL a):MD (Z a-1) (ps a):=⟨c.2,λi d=>eK a G⟩
def gS(m:O)(l:V (V O))(a:Y->Bool):V O:=(jO m [1] (bC a 0 l)).map (dq · m)
section
variable{p:Y}
def fj:V (V O)->Fx p
 |[]=>1
 |f::l=>fx f*fj l
def alF l:bm p (oE l):=by
 induction l with
 |nil=>exact bm.one p
 |cons f l a=>exact(bm.ps p f).mul a
def D0:∀l:V (V O),(fj l:Fx p)=mk (oE l) (alF l)
 |[]=>rfl
 |f::l=>by rw[fj,D0 l];rfl
def yK l m(a:(p:O)∣m):(fx (jO m [1] l):Fx p)=fj l:=by rw[D0];refine mk_eq.2 ?_;have h:=MR m l [1];rw[LC,PS.one_mul]at h;exact Cg.of λi=>by have c:=h.at i;rw[<-r9 _ a,c,r9 _ a]
def tA(H:bq p){g}(a:aL g):sz (fx g:Fx p)=Z g:=by have:=cQ.2 a.1;have c:=aap H (bm.ps p g) a.tz.one a.tz.z;rw[(G:Z g-1+1=Z g)]at c;exact c
def aat(H:bq p){g a}(d:aL g)(f:aL a){i:Fx p}(n:sz i=1)(k:fx g=i*fx a):(fx g:Fx p)=fx a:=by
 have u:=tA H d;have s2:=tA H f;have v:=cQ.2 d.1;have l:i≠0:=λe=>by rw[e,ko H.pos]at n;omega
 have m:(fx a:Fx p)≠0:=λe=>by rw[e,ko H.pos]at s2;have:=cQ.2 f.1;omega
 have t:=dG H l m;rw[<-k]at t;obtain⟨c,x,rfl⟩:=DP H n;have r:ps g (Z g-1)%(p:O)=(PS.K c*ps a) (Z g-1)%(p:O):=(mk_eq.1 (k:mk (ps g) (bm.ps p g)=mk (PS.K c*ps a) ((bm.K p c).mul<|bm.ps p a))).at (Z g-1);rw[PS.eX,cw,cw,d.2,(G:Z g-1=Z a-1),f.2,mF]at r;rw[k,(A0 r.symm:(K c:Fx p)=K 1),nS,one_mul]
def Sn(H:bq p){d:Fx p}:∀{l:V (V O)},l.Pairwise (λx a=>Co (fx x:Fx p)<|fx a)->(∀f∈l,(fx f:Fx p)∣d)->(fj l:Fx p)∣d
 |[],_,_=>⟨d,(mul_one d).symm⟩
 |f::l,hp,c=>by
  let ⟨i,h2⟩:=ju.1 hp;refine Co.alr ?_ (c f ay)<|Sn H h2 λx hx=>c x lF;have g:∀{l:V (V O)},(∀a∈l,Co (fx f:Fx p) (fx a))->Co (fx f:Fx p) (fj l):=by
   intro l;induction l with
   |nil=>intro _;exact⟨0,1,by rw[zero_mul,zero_add];exact one_mul 1⟩
   |cons a l k=>intro c;exact(c a ay).mul (k λz m=>c z<|by simp[m])
  exact g i
def H2{g:Y->Bool}{x:V O}:∀{l:V (V O)}{i:Y},x∈bC g i l->∃a,a<Z l/\g (i+a)=af/\l.getD a []=x
 |[],_,c=>by cases c
 |f::l,i,c=>by
  rw[bC]at c;split at c
  .rename_i k;rcases bY.1 c with rfl|c
   .exact⟨0,ay,k,J⟩
   .let ⟨a,m,h2,d⟩:=H2 c;exact⟨a+1,bX,by rw[(G:i+(a+1)=i+1+a)];exact h2,d⟩
  .let ⟨a,m,h2,d⟩:=H2 c;exact⟨a+1,bX,by rw[(G:i+(a+1)=i+1+a)];exact h2,d⟩
def So{b:Y->Bool}:∀{l:V (V O)}{i j:Y},j<Z l->b (i+j)=af->l.getD j []∈bC b i l
 |[],_,_,h,_=>by simp at h
 |f::l,i,0,_,h=>by rw[bC,aq dH];simp
 |f::l,i,j+1,h,a=>by
  have:=So (l:=l) (i:=i+1) (j:=j) (by simp at h;omega) (by rw[(G:i+1+j=i+(j+1))];exact a);rw[bC];split
  .exact jT _ this
  .exact this
end
def alG{x m}(a:2*(aC x:O)<m):dq x m=x:=by
 unfold dq;by_cases hx:0<=x
 .rw[gk hx G,b G]
 .have e:x%m=x+m:=by rw[<-Int.add_emod_right,gk G G]
  rw[e,aq G];omega
end Go.El
namespace Go.El
open Go Go.Proofs
namespace Rx
def Sp{F A B}(f:Mo F)(a:F=A*B)(r:sz A≠1)(t:sz B≠1):∃u v,Mo u/\Mo v/\F=u*v/\2<=sz u/\2<=sz v:=by
 have g:A≠0:=λi=>f.ne (by rw[a,i,zero_mul])
 have k:B≠0:=λi=>f.ne (by rw[a,i,mul_zero])
 let ⟨c,hc,hm⟩:=Y7 g;have l:F=(K c⁻¹ *B)*(K c*A):=by have m:K c⁻¹ *B*(K c*A)=(K c⁻¹ *K c)*(A*B):=fc;rw[m,pI hc,one_mul,<-a]
 have n:Mo (K c⁻¹ *B):=by rw[l]at f;exact f.yu hm
 have x:=eL g;have C:=eL k;have p:=dG (uD hc) g;have d:c⁻¹ ≠0:=λa=>by have:=nT _ hc;rw[a,qO]at this;exact absurd this T
 have s2:=dG (uD d) k;rw[uG hc]at p;rw[uG d]at s2;exact⟨K c*A,K c⁻¹ *B,hm,n,by rw[l,mul_comm],G,G⟩
def MS{u v}(k:Mo u)(l:Mo v)(m:dj (u*v)):dj u/\dj v:=by
 let ⟨a,c⟩:=HT u;let ⟨b,f⟩:=HT v;have one:∀A:Rx,K ((1:Y):D)*A=A:=λA=>one_mul A
 have n:Dn (u*v) 1:=⟨T,by rw[one];exact m,λd _=>Nat.one_dvd d⟩;have e:=ZN k l c f n;have p:a=1:=Nat.dvd_one.1 ⟨b,e⟩;have r:b=1:=Nat.dvd_one.1 ⟨a,by rw[gN];exact e⟩;subst p r;have g:=c.int;have i:=f.int;rw[one]at g i;exact⟨g,i⟩
def oF:V (V O)->Rx
 |[]=>1
 |f::l=>zx f*oF l
end Rx
open Fx
def bU(a:Y->Bool):Y->Y
 |0=>0
 |n+1=>bU a n+(if a n then 1 else 0)
def H3{a c:Y->Bool}:∀{n:Y},(∀i,i<n->a i=c i)->bU a n=bU c n
 |0,_=>rfl
 |n+1,d=>by rw[bU,bU,H3<|λi f=>d i G,d n G]
def aau{a c:Y->Bool}:∀{n:Y},(∀i,i<n->a i=af->c i=af)->bU a n<=bU c n
 |0,_=>a7 _
 |n+1,d=>by
  have k:=aau (n:=n) λi l=>d i G
  have f:=d n G;rw[bU,bU];cases g:a n
  .simp only[gY,bN];omega
  .rw[f g];simp only[b9];omega
def Sq{b c:Y->Bool}:∀{n:Y},(∀i,i<n->b i=af->c i=af)->(∃i,i<n/\b i=false/\c i=af)->bU b n<bU c n
 |0,_,⟨i,a,_⟩=>absurd a G
 |n+1,a,⟨i,m,h2,d⟩=>by
  rw[bU,bU];by_cases f:i=n
  .subst f;have:=aau (n:=i) λj g=>a j G
   rw[h2,d];simp;omega
  .have p:=Sq (n:=n) (λj g=>a j G) ⟨i,G,h2,d⟩;have k:=a n G;cases l:b n
   .simp only[gY,bN];omega
   .rw[k l];simp only[b9];omega
def Sr(a:Y->Bool):∀n,bU a n+bU (λi=> !a i) n=n
 |0=>rfl
 |n+1=>by have:=Sr a n;rw[bU,bU];cases a n<;>simp<;>omega
def aav{a:Y->Bool}:∀{n:Y},0<bU a n->∃i,i<n/\a i=af
 |0,h=>absurd h (by simp[bU])
 |n+1,h=>by
  cases c:a n
  .rw[bU,c]at h;obtain⟨i,f,d⟩:=aav (n:=n) dH;exact⟨i,G,d⟩
  .exact⟨n,G,c⟩
def Ss{a:Y->Bool}{n i}(d:i<n)(f:a i=af):0<bU a n:=by have:=Sq (b:=λ_=>false) (c:=a) (n:=n) (λj _ g=>by cases g) ⟨i,d,J,f⟩;omega
def oG(a:Y->Bool):Y->Y
 |0=>0
 |n+1=>(if a n then 2^n else 0)+oG a n
def MU(a:Y->Bool):∀n,oG a n<2^n
 |0=>BJ
 |n+1=>by have:=MU a n;rw[oG,fF];split<;>omega
def Su(a:Y->Bool):∀{n i:Y},i<n->m6 (oG a n) i=a i
 |0,_,c=>absurd c G
 |n+1,i,c=>by
  rw[oG];by_cases g:i=n
  .subst g;have d:=Nat.testBit_lt_two_pow<|MU a i;cases k:a i
   .simp only[gY,bN,eF];exact d
   .simp only[b9];rw[Nat.testBit_two_pow_add_eq,d];rfl
  .have f:=Su a (n:=n) (i:=i) G;cases k:a n
   .simp only[gY,bN,eF];exact f
   .simp only[b9];rw[Nat.testBit_two_pow_add_gt G];exact f
def tB(n a:Y):V Y:=(cc<|2^n).filter λS=>bU S.testBit n==a
def ly(n:Y):V Y:=(cc<|n/2).flatMap λs=>tB n<|s+1
def yL{n a}:a∈ly n↔a<2^n/\1<=bU a.testBit n/\bU a.testBit n<=n/2:=by
 unfold ly tB;simp only[iP,oW,n8,beq_iff_eq];constructor
 .rintro⟨s,c,d,f⟩;omega
 .rintro⟨c,d,f⟩;exact⟨bU a.testBit n-1,G,c,G⟩
def alH n:(ly n).Pairwise (λx a=>bU x.testBit n<=bU a.testBit n):=by
 have d:∀k,((cc k).flatMap λs=>tB n<|s+1).Pairwise (λx a=>bU x.testBit n<=bU a.testBit n):=by
  intro k;induction k with
  |zero=>exact .nil
  |succ k g=>
   rw[zz,CV]
   refine wZ.2 ⟨g,?_,λx c a f=>?_⟩
   .simp only[kH,MV,gO];refine Mz ?_ (List.pairwise_of_forall (R:=λ_ _=>True) (λ_ _=>trivial):(tB n<|k+1).Pairwise λ_ _=>True);intro x a c f _;simp only[tB,n8,beq_iff_eq]at c f;omega
   .simp only[iP,oW,kH,MV,gO,tB,n8,beq_iff_eq]at c f;let ⟨s,i,h2,l⟩:=c;omega
 exact d _
structure gy(p:Y)(m:O)(a:V O)(l:V (V O)):Prop where
 H:bq p
 pm:∃e,1<=e/\m=(p:O)^e
 am:aL a
 lm:∀f∈l,aL f
 fW:∀f∈l,br (fx f:Fx p)
 pair:l.Pairwise (λx c=>Co (fx x:Fx p)<|fx c)
 pr:Cg m (ps a) (oE l)
 kV:pQ (fx a:Fx p)
 len:a.length=1+dn l
 bd:∀g,aL g->Rx.zx g∣Rx.zx a->∀i,2*((g.getD i 0).natAbs:O)<m
section
variable{p:Y}{m:O}{a:V O}{l:V (V O)}
def gy.m1(c:gy p m a l):1<m/\(p:O)∣m:=by obtain⟨e,f,rfl⟩:=c.pm;have g:=c.H.hp.1;obtain⟨e,rfl⟩:∃d,e=d+1:=⟨e-1,G⟩;have i:(0:O)<(p:O)^e:=mW G;rw[eZ];refine⟨?_,A8 _ _⟩;have k:=gG (G:(1:O)<=(p:O)^e) (G:(0:O)<=p);omega
def gy.co(n:gy p m a l){i c}(d:i<Z l)(f:c<Z l)(g:i≠c):Co (fx (l.getD i []):Fx p) (fx<|l.getD c []):=by
 have k:=List.pairwise_iff_getElem.1 n.pair;rw[aV,aV,cH d,cH f];rcases ald g with e|e
 .exact k i c d f e
 .exact(k c i f d e).symm
def gy.H4(d:gy p m a l){i}(c:i<Z l):l.getD i []∈l:=by rw[aV,cH c];exact ru c
def aaw{Q:Fx p}(H:bq p)(c:br Q):∀{l:V (V O)},Q∣fj l->∃f∈l,Q∣fx f
 |[],d=>absurd d<|c.AP H
 |f::l,d=>by
  rcases c.nU H d with g|g
  .exact⟨f,ay,g⟩
  .let ⟨x,h1,h2⟩:=aaw H c g;exact⟨x,yw,h2⟩
def gy.alI(d:gy p m a l)(c:Y->Bool):(fx (gS m l c):Fx p)=fj (bC c 0 l):=by let ⟨f,h2⟩:=d.m1;rw[<-yK (bC c 0 l) m h2];refine Mw<|Cg.of λi=>?_;rw[cw,cw,gS,pS _ G,<-r9 _ h2,yI G,r9 _ h2]
def gy.A'(d:gy p m a l)(c:Y->Bool):aL (gS m l c)/\Z (gS m l c)=1+dn (bC c 0 l):=by let ⟨g,h2⟩:=d.m1;let ⟨i,k⟩:=yJ g A9 (λf n=>d.lm f (wY n):∀f∈bC c 0 l,aL f);refine⟨A7 g i,?_⟩;rw[gS,cR,k];rfl
def gy.aax(c:gy p m a l)(n:Y->Bool){g}(k:g<Z l):(fx (l.getD g []):Fx p)∣fx (gS m l n)↔n g=af:=by
 rw[c.alI];constructor
 .intro v;let ⟨f,d,x⟩:=aaw c.H (c.fW _<|c.H4 k) v;let ⟨i,h2,t,A⟩:=H2 d;rw[eF]at t;by_cases e:g=i
  .rw[e];exact t
  .have u:=c.co k h2 e;rw[A]at u;have:=u.unit c.H x;have:=(c.fW _<|c.H4 k).1;omega
 .intro B;have:=So (b:=n) (l:=l) (i:=0) (j:=g) k (by rw[eF];exact B);have r:∀{l:V (V O)}{f:V O},f∈l->(fx f:Fx p)∣fj l:=by
   intro l;induction l with
   |nil=>intro f d;cases d
   |cons y l C=>
    intro f d
    rcases bY.1 d with rfl|d
    .exact dvd_mul_right _ _
    .exact dV (C d) _
  exact r this
def Ba{b c:Y->Bool}:∀{l:V (V O)}{i:Y},(∀d,d<Z l->b (i+d)=c (i+d))->bC b i l=bC c i l
 |[],_,_=>rfl
 |f::l,i,g=>by
  have k:=Ba (b:=b) (c:=c) (l:=l) (i:=i+1) λd n=>by have:=g (d+1) bX;rwa[(G:i+(d+1)=i+1+d)]at this
  rw[bC,bC,k];have:=g 0 ay;rw[jd]at this;rw[this]
def Sv{x c d}(f:ps x*ps c=ps d):(fx d:Fx p)=fx x*fx c:=(mk_congr f ((bm.ps p x).mul<|bm.ps p c)<|bm.ps p d).symm
def gy.mask(r:gy p m a l){g k}(L:aL g)(hk:aL k)(cz:Rx.zx a=Rx.zx g*Rx.zx k):
  ∃d:Y->Bool,g=gS m l d/\k=gS m l (λi=> !d i)/\(∀n,n<Z l->(d n=af↔(fx (l.getD n []):Fx p)∣fx g))/\Cg m (ps g) (oE<|bC d 0 l)/\Cg m (ps k) (oE<|bC (λi=> !d i) 0 l):=by
 let ⟨K,v⟩:=r.m1
 have H:=r.H
 have M:(1:O)<p:=A3
 have P:=Rx.MI cz.symm
 have x:(fx a:Fx p)=fx g*fx k:=Sv P
 classical
 let d:Y->Bool:=λn=>decide<|(fx (l.getD n []):Fx p)∣fx g
 have hb:∀n,d n=af↔(fx (l.getD n []):Fx p)∣fx g:=λn=>decide_eq_true_iff
 have B:∀c:Y->Bool,∀f∈bC c 0 l,aL f:=λc f u=>r.lm f<|wY u
 have d1:(fj (bC d 0 l):Fx p)∣fx g:=Sn H (HZ r.pair) λf u=>by let ⟨n,_,h2,h3⟩:=H2 u;rw[eF]at h2;rw[<-h3];exact(hb n).1 h2
 have eA:(fx a:Fx p)=fj l:=by rw[D0];refine mk_eq.2<|Cg.of λi=>?_;have:=r.pr.at i;rw[<-r9 _ v,this,r9 _ v]
 have S:∀{l:V (V O)}{f:V O},f∈l->(fx f:Fx p)∣fj l:=by
  intro l;induction l with
  |nil=>intro f u;cases u
  |cons y l ih=>
   intro f u
   rcases bY.1 u with rfl|u
   .exact dvd_mul_right _ _
   .exact dV (ih u) _
 have d2:(fj (bC (λi=> !d i) 0 l):Fx p)∣fx k:=Sn H (HZ r.pair) λf u=>by
  let ⟨n,C,h2,h3⟩:=H2 u;rw[eF]at h2;have W:=r.H4 C;rw[<-h3];have hd:(fx (l.getD n []):Fx p)∣fx g*fx k:=by rw[<-x,eA];exact S W
  rcases(r.fW _ W).nU H hd with e1|e1
  .rw[(hb n).2 e1]at h2;cases h2
  .exact e1
 have e2:(fj (bC d 0 l)*fj (bC (λi=> !d i) 0 l):Fx p)=fj l:=by rw[D0,D0,D0,Z2];exact mk_congr (Sl d l 0) _ _
 let ⟨w,hw⟩:=d1
 let ⟨X,F⟩:=d2
 have o:(fx a:Fx p)≠0:=λq=>by have C:=tA H r.am;rw[q,ko H.pos]at C;have:=cQ.2 r.am.1;omega
 have ww:w*X=1:=by refine yt H (A:=(fj l:Fx p)) (by rw[<-eA];exact o) ?_;rw[one_mul,<-e2];have e3:w*X*(fj (bC d 0 l)*fj (bC (λi=> !d i) 0 l))=w*fj (bC d 0 l)*(X*fj (bC (λi=> !d i) 0 l)):=fc;rw[e3,<-hw,<-F,<-x,eA,e2]
 have sw:sz w=1:=wL H (by rw[mul_comm];exact ww:X*w=1)
 have sw':sz X=1:=wL H ww
 let ⟨s,tl1⟩:=yJ M A9<|B d
 let ⟨z,tl2⟩:=yJ M A9<|B λi=> !d i
 have eg:(fx g:Fx p)=fj (bC d 0 l):=by have hp:=yK (p:=p) (bC d 0 l) p<|H5 _;rw[<-hp]at hw⊢;exact aat H L s sw hw
 have ek:(fx k:Fx p)=fj (bC (λi=> !d i) 0 l):=by have hp:=yK (p:=p) (bC (λi=> !d i) 0 l) p<|H5 _;rw[<-hp]at F⊢;exact aat H hk z sw' F
 have lg:Z g=1+dn (bC d 0 l):=by have C:=tA H L;rw[eg,<-yK (p:=p) (bC d 0 l) p (H5 _),tA H s,tl1]at C;rw[<-C];rfl
 have lk:Z k=1+dn (bC (λi=> !d i) 0 l):=by have C:=tA H hk;rw[ek,<-yK (p:=p) (bC (λi=> !d i) 0 l) p (H5 _),tA H z,tl2]at C;rw[<-C];rfl
 let ⟨um1,D⟩:=yJ K A9<|B d
 let ⟨um2,I⟩:=yJ K A9<|B λi=> !d i
 have c1:Cg p (ps g) (ps<|jO m [1] (bC d 0 l)):=mk_eq.1 (eg.trans (yK (bC d 0 l) m v).symm:Fx.mk (ps g) (bm.ps p g)=Fx.mk (ps<|jO m [1] (bC d 0 l)) (bm.ps p _))
 have c2:Cg p (ps k) (ps<|jO m [1] (bC (λi=> !d i) 0 l)):=mk_eq.1 (ek.trans (yK (bC (λi=> !d i) 0 l) m v).symm:Fx.mk (ps k) (bm.ps p k)=Fx.mk (ps<|jO m [1] (bC (λi=> !d i) 0 l)) (bm.ps p _))
 have hco:Co (fx g:Fx p) (fx k):=DQ H (λq=>o<|by rw[x,q,zero_mul]) λQ hQ q1 q2=>r.kV Q hQ (by rw[x];exact wM q1 q2)
 have N:MD (Z g-1) (ps<|jO m [1] (bC d 0 l)):=by have:=um1.tz;rwa[D,show Z ([1]:V O)=1 from J,<-lg]at this
 have R:MD (Z k-1) (ps<|jO m [1] (bC (λi=> !d i) 0 l)):=by have:=um2.tz;rwa[I,show Z ([1]:V O)=1 from J,<-lk]at this
 let ⟨q,he1,T⟩:=r.pm
 have t1:=MR m (bC d 0 l) [1]
 have t2:=MR m (bC (λi=> !d i) 0 l) [1]
 rw[LC,PS.one_mul]at t1 t2
 have yM:Cg m (ps g*ps k) (ps (jO m [1] (bC d 0 l))*ps (jO m [1] (bC (λi=> !d i) 0 l))):=by rw[P];refine r.pr.trans ?_;rw[<-Sl d l 0];exact(t1.mul t2).symm
 have U:=aaq H L.tz N hk.tz R hco c1 c2 q he1<|T▸yM
 rw[<-T]at U
 have fin:∀{g:V O}{t:V O},aL g->Rx.zx g∣Rx.zx a->Z g=Z t->Cg m (ps g) (ps t)->g=t.map (dq · m):=by
  intro g t L hd hl hc;refine ME (by rw[cR,hl]) λn _=>?_
  rw[pS _ G,<-ML (a:=E g n 0) (b:=E t n 0) (hc.at n)];exact(alG<|r.bd g L hd n).symm
 refine⟨d,fin L (by rw[cz];exact Rx.dvd_mul_right _ _) (by rw[D,lg];rfl) U.1,fin hk (by rw[cz];exact Rx.dvd_mul_left _ _) (by rw[I,lk];rfl) U.2,λn _=>hb n,U.1.trans t1,U.2.trans t2⟩
def gy.aay(c:gy p m a l){b:Y->Bool}(k:0<bU b (Z l)):1<=dn (bC b 0 l):=by
 let ⟨j,d,h2⟩:=aav k;have n:=So (b:=b) (l:=l) (i:=0) d (by rw[eF];exact h2);have r:=(c.fW _<|c.H4 d).1;rw[tA c.H (c.lm _<|c.H4 d)]at r;have f:∀{L:V (V O)},l.getD j []∈L->1<=dn L:=by
  intro L;induction L with
  |nil=>intro g;cases g
  |cons y L t=>
   intro g
   rw[dn]
   rcases bY.1 g with e|e
   .rw[<-e];omega
   .have:=t e;omega
 exact f n
def gy.Dx(t:gy p m a l){u v}(c:Rx.Mo u)(d:Rx.Mo v)(i:Rx.zx a=u*v):∃g k,aL g/\aL k/\Rx.zx g=u/\Rx.zx k=v:=by let ⟨i1,i2⟩:=Rx.MS c d<|i▸Rx.A6 a;let ⟨g,n,g2⟩:=Rx.MG i1;let ⟨k,r,f⟩:=Rx.MG i2;exact⟨g,k,Rx.MH n<|g2▸c,Rx.MH r<|f▸d,g2,f⟩
def gy.first(f:gy p m a l){S}(hS:S∈ly (Z l))(hd:Rx.zx (gS m l S.testBit)∣Rx.zx a)(hf:∀ji∈ly (Z l),bU ji.testBit (Z l)<bU S.testBit (Z l)->¬Rx.zx (gS m l ji.testBit)∣Rx.zx a):Rx.br (Rx.zx<|gS m l S.testBit):=by
 let ⟨_,R,U⟩:=yL.1 hS;let ⟨H,gl⟩:=f.A' S.testBit;have D1:=f.aay (b:=S.testBit) G;refine⟨by rw[Rx.kr H.can];omega,λA B e=>eQ λD=>?_⟩;let ⟨u,v,hu,K,M,su,sv⟩:=Rx.Sp (Rx.ns H) e (λf=>D<|.inl f)<|λf=>D<|.inr f;let ⟨k,E⟩:=hd;have Q:Rx.Mo k:=by have:=Rx.ns f.am;rw[E]at this;exact this.yu<|Rx.ns H
 have W:Rx.zx a=u*(k*v):=by rw[E,M];ac_rfl
 let ⟨r,k',I,k1,g2,k2⟩:=f.Dx hu (Q.mul K) W;let ⟨d,J,b2,b3,_⟩:=f.mask I k1 (by rw[g2,k2];exact W);have X:∃t,aL t/\Rx.zx t=v:=by let ⟨_,i2⟩:=Rx.MS hu K<|M▸Rx.A6 _;let ⟨t,v1,v2⟩:=Rx.MG i2;exact⟨t,Rx.MH v1<|v2▸K,v2⟩
 let ⟨t,_,v2⟩:=X;have o:(fx (gS m l S.testBit):Fx p)=fx r*fx t:=Sv (Rx.MI<|by rw[g2,v2];exact M.symm);have sub:∀i,i<Z l->d i=af->m6 S i=af:=λi P x=>(f.aax S.testBit P).1 (by rw[o];exact lv ((b3 i P).1 x) _)
 have n:Z r=1+dn (bC d 0 l):=by rw[J];exact(f.A' d).2
 have sg':Rx.sz u=Z r:=by rw[<-g2,Rx.kr I.can]
 have q:Z r<Z (gS m l S.testBit):=by have:=Rx.dG hu.ne K.ne;rw[<-M,Rx.kr H.can]at this;omega
 have s:∃i,i<Z l/\d i=false/\m6 S i=af:=eQ λw=>by
  have:bC d 0 l=bC S.testBit 0 l:=Ba λj C=>by
   rw[eF];cases x:d j
   .cases hs:m6 S j
    .rfl
    .exact absurd ⟨j,C,x,hs⟩ w
   .exact(sub j C x).symm
  rw[n,this]at q;omega
 have rA:=Sq sub s;have vV:0<bU d (Z l):=by
  rcases pq (bU d<|Z l)with N|N
  .have:bC d 0 l=bC (λ_=>false) 0 l:=Ba λj C=>by
    rw[eF];cases x:d j
    .rfl
    .have:=Ss C x;omega
   have z:∀(L:V (V O))(i:Y),bC (λ_=>false) i L=[]:=by
    intro L;induction L with
    |nil=>intro i;rfl
    |cons y L ih=>intro i;rw[bC,b T,ih]
   rw[this,z]at n;have:Z r=1:=n;omega
  .exact N
 have g:∀i,i<Z l->m6 (oG d<|Z l) i=d i:=λi P=>Su d P
 have Bb:bU (oG d<|Z l).testBit (Z l)=bU d (Z l):=H3 g;have F:gS m l (oG d<|Z l).testBit=r:=by rw[J,gS,gS,Ba (b:=(oG d<|Z l).testBit) (c:=d) λj C=>by rw[eF];exact g j C]
 refine hf (oG d<|Z l) (yL.2 ⟨MU d _,G,G⟩) G ?_;rw[F,g2,W];exact Rx.dvd_mul_right _ _
def gy.none(d:gy p m a l)(hl:l≠[])(hf:∀ji∈ly (Z l),¬Rx.zx (gS m l ji.testBit)∣Rx.zx a):Rx.br (Rx.zx a):=by
 have t:=cQ.2 hl;have n:=d.aay (b:=λ_=>af)<|Ss (i:=0) t J;have N:∀(L:V (V O))(i:Y),bC (λ_=>af) i L=L:=by
  intro L;induction L with
  |nil=>intro i;rfl
  |cons y L C=>intro i;rw[bC,aq J,C]
 rw[N]at n;have P:=d.len;refine⟨by rw[Rx.kr d.am.can];omega,λA B e=>eQ λQ=>?_⟩;let ⟨u,v,hu,R,r,S,W⟩:=Rx.Sp (Rx.ns d.am) e (λd=>Q<|.inl d)<|λd=>Q<|.inr d;let ⟨g,k,X,o,g2,F⟩:=d.Dx hu R r;let ⟨H,q,s,b3,_⟩:=d.mask X o (by rw[g2,F];exact r);have pos:∀{c:Y->Bool}{x:V O},x=gS m l c->2<=Z x->0<bU c (Z l):=by
  intro c x K h2;rcases pq (bU c<|Z l)with w|w
  .have U:bC c 0 l=bC (λ_=>false) 0 l:=Ba λj M=>by
    rw[eF];cases hb:c j
    .rfl
    .have:=Ss M hb;omega
   have z:∀(L:V (V O))(i:Y),bC (λ_=>false) i L=[]:=by
    intro L;induction L with
    |nil=>intro i;rfl
    |cons y L C=>intro i;rw[bC,b T,C]
   have D:=(d.A' c).2;rw[<-K,U,z]at D;have:Z x=1:=D;omega
  .exact w
 have p1:=pos q (by rw[<-g2,Rx.kr X.can]at S;exact S);have p2:=pos s (by rw[<-F,Rx.kr o.can]at W;exact W);have E:=Sr H<|Z l;have I:∀(c:Y->Bool)(x:V O),x=gS m l c->0<bU c (Z l)->bU c (Z l)<=Z l/2->Rx.zx x∣Rx.zx a->False:=by
  intro c x K hp hle hd;have f:∀i,i<Z l->m6 (oG c<|Z l) i=c i:=λi hi=>Su c hi
  have Bb:bU (oG c<|Z l).testBit (Z l)=bU c (Z l):=H3 f;refine hf (oG c<|Z l) (yL.2 ⟨MU c _,G,G⟩) ?_;rw[show gS m l (oG c<|Z l).testBit=x by rw[K,gS,gS,Ba (b:=(oG c<|Z l).testBit) (c:=c) λj M=>by rw[eF];exact f j M]];exact hd
 by_cases hh:bU H (Z l)<=Z l/2
 .exact I H g q p1 hh (by rw[g2,r];exact Rx.dvd_mul_right _ _)
 .exact I _ k s p2 G (by rw[F,r];exact Rx.dvd_mul_left _ _)
end
open Classical in
noncomputable def lY(a g:V O):V O:=if h:∃q,aL q/\Rx.zx a=Rx.zx g*Rx.zx q then A2 h else[]
open Classical in
noncomputable def sa(m:O)(a:V O)(l:V (V O)):Option Y:=(ly<|Z l).find? λS=>decide<|Rx.zx (gS m l S.testBit)∣Rx.zx a
noncomputable def qY(m:O):Y->V O->V (V O)->V (V O)
 |0,a,_=>[a]
 |k+1,a,l=>match sa m a l with
  |some S=>gS m l S.testBit::qY m k (lY a<|gS m l S.testBit) (bC (λi=> !S.testBit i) 0 l)
  |none=>[a]
open Classical in
def aaz{m}{a}{l}{S}(g:sa m a l=some S):∃c d,ly (Z l)=c++S::d/\Rx.zx (gS m l S.testBit)∣Rx.zx a/\∀f∈c,¬Rx.zx (gS m l f.testBit)∣Rx.zx a:=by unfold sa at g;let ⟨i,c,d,h2,k⟩:=List.find?_eq_some_iff_append.1 g;refine⟨c,d,h2,aK i,λf n p=>?_⟩;have:=k f n;rw[Fu]at this;exact aT this p
open Classical in
def alQ{m}{a}{l}(d:sa m a l=none):∀c∈ly (Z l),¬Rx.zx (gS m l c.testBit)∣Rx.zx a:=by unfold sa at d;intro c f g;exact List.find?_eq_none.1 d c f<|rV g
section
variable{p:Y}{m:O}{a:V O}{l:V (V O)}
def gy.alR(g:gy p m a l){S}(i:sa m a l=some S):Rx.br (Rx.zx<|gS m l S.testBit):=by
 let ⟨us,ws,c,h2,k⟩:=aaz i;have n:S∈ly (Z l):=by rw[c];simp
 refine g.first n h2 λT d r=>?_
 have f:=alH<|Z l;rw[c]at d f;rcases bg.1 d with e|e
 .exact k T e
 .exfalso;rcases bY.1 e with e|e
  .subst e;omega
  .have:=(ju.1 (wZ.1 f).2.1).1 T e;omega
def gy.rest(d:gy p m a l){S}(hS:S∈ly (Z l))(hd:Rx.zx (gS m l S.testBit)∣Rx.zx a):Rx.zx a=Rx.zx (gS m l S.testBit)*Rx.zx (lY a<|gS m l S.testBit)/\gy p m (lY a<|gS m l S.testBit) (bC (λi=> !S.testBit i) 0 l)/\bC (λi=> !S.testBit i) 0 l≠[]/\Z (bC (λi=> !S.testBit i) 0 l)<Z l:=by
 let ⟨_,z,D⟩:=yL.1 hS;let ⟨B,gl⟩:=d.A' S.testBit;have t:∃q,aL q/\Rx.zx a=Rx.zx (gS m l S.testBit)*Rx.zx q:=by
  let ⟨k,C⟩:=hd;have F:Rx.Mo k:=by have:=Rx.ns d.am;rw[C]at this;exact this.yu<|Rx.ns B
  let ⟨E,s,I,_,J,_⟩:=d.Dx F (Rx.ns B) C;exact⟨E,I,by rw[J,C,Rx.mul_comm]⟩
 let ⟨K,u⟩:=uC t;have N:lY a (gS m l S.testBit)=A2 t:=by unfold lY;rw[dif_pos t]
 rw[<-N]at K u;generalize hg:gS m l S.testBit=g at*;generalize lY a g=q at*;let ⟨b,b1,R,T,b4,U⟩:=d.mask B K u;have M:∀j,j<Z l->b j=m6 S j:=λj A=>by
  have P:=T j A;rw[<-hg,d.aax S.testBit A]at P;cases Q:b j
  .cases hs:m6 S j
   .rfl
   .rw[P.2 hs]at Q;cases Q
  .exact(P.1 Q).symm
 have r:bC (λi=> !b i) 0 l=bC (λi=> !S.testBit i) 0 l:=Ba λj A=>by rw[eF,M j A]
 have v:∀(c:Y->Bool)(L:V (V O))(i:Y),Z (bC c i L)=bU (λj=>c<|i+j) (Z L):=by
  intro c L;induction L with
  |nil=>intro i;rfl
  |cons y L ih=>
   intro i
   have sh:∀n,bU (λj=>c<|i+j) (n+1)=(if c i then 1 else 0)+bU (λj=>c<|i+1+j) n:=by
    intro n;induction n with
    |zero=>rw[bU,bU,bU];simp
    |succ n W=>rw[bU,W,bU,(G:i+(n+1)=i+1+n)];omega
   rw[bC,eB,sh]
   have:=ih<|i+1
   split
   .rw[eB];omega
   .omega
 have x:Z (bC (λi=> !S.testBit i) 0 l)=bU (λi=> !S.testBit i) (Z l):=by rw[v];exact H3 λi _=>by rw[eF]
 have w:=Sr S.testBit<|Z l;refine⟨u,?_,λe=>by rw[e]at x;simp at x;omega,G⟩;have X:Rx.zx q∣Rx.zx a:=by rw[u];exact Rx.dvd_mul_left _ _
 refine⟨d.H,d.pm,K,λf o=>d.lm f<|wY o,λf o=>d.fW f<|wY o,HZ d.pair,r▸U,?_,?_,λs g1 g2=>d.bd s g1<|Rx.dvd_trans g2 X⟩
 .refine d.kV.of_dvd ?_;rw[Sv (Rx.MI u.symm)];exact dvd_mul_left _ _
 .rw[R,(d.A' _).2,r]
def gy.all:∀(k:Y){a:V O}{l:V (V O)},Z l<=k->l≠[]->gy p m a l->(∀r∈qY m k a l,aL r/\Rx.br (Rx.zx r))/\Rx.oF (qY m k a l)=Rx.zx a
 |0,_,l,g,h2,_=>absurd (fB G) h2
 |k+1,a,l,g,h2,c=>by
  rw[qY];cases d:sa m a l with
  |none=>
   have i:=c.none h2<|alQ d
   refine⟨λr f=>?_,Rx.mul_one _⟩
   rw[gI.1 f]
   exact⟨c.am,i⟩
  |some S=>
   let ⟨us,ws,s1,s2,_⟩:=aaz d
   have n:S∈ly (Z l):=by rw[s1];simp
   let ⟨r1,t,u,v⟩:=c.rest n s2
   let ⟨i1,i2⟩:=gy.all k G u t
   refine⟨λr f=>?_,by rw[Rx.oF,i2,<-r1]⟩
   rcases bY.1 f with e|e
   .rw[e];exact⟨(c.A' _).1,c.alR d⟩
   .exact i1 r e
end
end Go.El
namespace Go.El
open Go Go.Proofs
def alS{l}{k}t(a:k<Z l)(c:E l k 0=0):Rx.zx (l.set k t)=Rx.zx l+Rx.K (t:D)*Rx.X k:=Rx.ext λi=>by
 rw[Rx.eI,Rx.fV,Rx.DO,Rx.kq,Rx.kq,sY _ _ _ _ a];by_cases e:k=i
 .subst e;rw[aq J,aq J,c,Rat.intCast_zero];grind
 .rw[b e,b<|λa=>e a.symm];grind
end Go.El
