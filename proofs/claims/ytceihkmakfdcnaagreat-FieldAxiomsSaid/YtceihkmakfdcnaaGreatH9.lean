/- Plain: Bombieri's inequality for products of integer polynomials. Own work; no condition. -/
import Derived.Test.YtceihkmakfdcnaaGreatH6
import Derived.Test.YtceihkmakfdcnaaGreatH8
import Derived.Test.YtceihkmakfdcnaaGreatH7
set_option linter.all false
set_option maxHeartbeats 16000000
set_option maxRecDepth 100000
open Bool renaming true->ae
open Classical renaming choose->AU
open Int renaming mul_zero->Hi,le_of_eq->Za,natAbs->aA,natAbs_mul_self->akw,toNat->af
open List renaming getD->E,range->cd,length->Z,replicate->bg
open Nat renaming one_pos->BA,dvd_mul_left_of_dvd->aky,blt->dj,lt_or_gt_of_ne->akD,div_div_eq_div_mul->akE,add_mul_div_right->akF,testBit->mQ
open Quotient renaming liftOn₂->akM,liftOn->akN
open _root_ renaming Nat->Y,Int->G,Rat->D,List->V
namespace Go.El
open Go Go.Proofs
def bx:Y->Y
 |0=>1
 |n+1=>(n+1)*bx n
def Hg:∀n,0<bx n
 |0=>BA
 |n+1=>yg (Nat.succ_pos n)<|Hg n
def tu:∀i a,ch (i+a) i*(bx i*bx a)=bx (i+a)
 |0,a=>by rw[eH,qx,bx,iT,iT]
 |i+1,0=>by rw[iR,Gu,show bx 0=1 from J,qj,iT]
 |i+1,a+1=>by
  have d:=tu i<|a+1;have e:=tu (i+1) a;rw[(O:i+1+(a+1)=(i+(a+1))+1),ch,show bx (i+(a+1)+1)=(i+(a+1)+1)*bx (i+(a+1))from J,gk];rw[(O:i+(a+1)=i+1+a)]at d⊢;have f:ch (i+1+a) i*(bx (i+1)*bx (a+1))=(i+1)*bx (i+1+a):=by rw[<-d,bx];ac_rfl
  have g:ch (i+1+a) (i+1)*(bx (i+1)*bx (a+1))=(a+1)*bx (i+1+a):=by rw[<-e,show bx (a+1)=(a+1)*bx a from J];ac_rfl
  rw[f,g,<-gk,(O:i+1+(a+1)=i+1+a+1)]
def sN(f:Y->Y):Y->Y
 |0=>0
 |k+1=>sN f k+f k
def Y6{f g:Y->Y}:∀{k:Y},(∀i,i<k->f i=g i)->sN f k=sN g k
 |0,_=>rfl
 |k+1,a=>by rw[sN,sN,Y6<|λi d=>a i O,a k O]
def Y7(f g:Y->Y):∀k,sN (λi=>f i+g i) k=sN f k+sN g k
 |0=>rfl
 |k+1=>by simp only[sN,Y7 f g k];omega
def LH(f:Y->Y):∀k,sN f (k+1)=f 0+sN (λi=>f<|i+1) k
 |0=>by simp[sN]
 |k+1=>by rw[sN,LH f k,sN];omega
def Rv(f:Y):∀a k,ch (a+f) k=sN (λt=>ch a t*ch f (k-t)) (k+1)
 |0,k=>by
  rw[LH,qx,iT,eH,C'];have:sN (λi=>ch 0 (i+1)*ch f (k-(i+1))) k=0:=by
   have e:∀d,sN (λi=>ch 0 (i+1)*ch f (k-(i+1))) d=0:=λd=>by
    induction d with
    |zero=>rfl
    |succ n g=>rw[sN,g,yo 0 (n+1) O,rB]
   exact e k
  rw[this];rfl
 |a+1,0=>by rw[qx,sN,sN,qx,qx]
 |a+1,k+1=>by
  rw[(O:a+1+f=a+f+1),ch,Rv f a k,Rv f a<|k+1,LH<|λt=>ch (a+1) t*ch f (k+1-t),LH<|λt=>ch a t*ch f (k+1-t)];have e:sN (λi=>ch (a+1) (i+1)*ch f (k+1-(i+1))) (k+1)=sN (λi=>ch a i*ch f (k-i)) (k+1)+sN (λi=>ch a (i+1)*ch f (k+1-(i+1))) (k+1):=by
   rw[<-Y7];refine Y6 λi _=>?_
   rw[ch,gk,(O:k+1-(i+1)=k-i)]
  rw[e,qx,qx];omega
def wT{f:Y->G}{a:Y}:∀{n:Y},a<n->(∀i,i<n->i≠a->f i=0)->sm f n=f a
 |0,g,_=>by omega
 |n+1,g,d=>by
  rw[sm];by_cases e:a=n
  .subst e;rw[o0 (λi k=>d i O O),Ap]
  .rw[wT (n:=n) O (λi k=>d i O),d n O O,qm]
def Y8(f:Y->Y):∀k,((sN f k:Y):G)=sm (λi=>((f i:Y):G)) k
 |0=>rfl
 |k+1=>by rw[sN,sm,wh,Y8 f k]
def rX(F:Y->Y->G)(m:Y):∀n,sm (λi=>sm (λa=>F i a) m) n=sm (λa=>sm (λi=>F i a) n) m
 |0=>(o0 λ_ _=>rfl).symm
 |n+1=>by rw[sm,rX F m n,<-KT];rfl
def LI{f:Y->G}:∀{n:Y},(∀i,i<n->0<=f i)->0<=sm f n
 |0,_=>gK _
 |n+1,a=>by
  have d:=LI (f:=f) (n:=n) λi e=>a i O
  have g:=a n O;rw[sm];omega
def Hh{f g:Y->G}:∀{n:Y},(∀i,i<n->f i<=g i)->sm f n<=sm g n
 |0,_=>gK _
 |n+1,a=>by
  have d:=Hh (f:=f) (g:=g) (n:=n) λi e=>a i O
  have k:=a n O;rw[sm,sm];omega
def LJ{f:Y->G}{a n}(g:a<n)(k:∀i,i<n->0<=f i):f a<=sm f n:=by
 have e:sm (λi=>if i=a then f a else 0) n=f a:=(wT g λi _ d=>w d).trans<|ao J;rw[<-e];refine Hh λi d=>?_
 split
 .rename_i e;subst e;exact gK _
 .exact k i d
def s2(k l:Y)(F:Y->Y->G):G:=sm (λa=>sm (λe=>F a e)<|l+1)<|k+1
def tv{k l}{F d:Y->Y->G}(f:∀a e,a<=k->e<=l->F a e=d a e):s2 k l F=s2 k l d:=fN λa g=>fN λe i=>f a e O O
def uX k l d(F:Y->Y->G):s2 k l (λa e=>d*F a e)=d*s2 k l F:=by unfold s2;rw[<-ym];exact fN λa _=>ym _ _ _
def Rw k l d(F:Y->Y->G):s2 k l (λa e=>F a e*d)=s2 k l F*d:=by rw[et,<-uX];exact tv λ_ _ _ _=>et _ _
def LK k l d f(F:Y->Y->Y->Y->G):s2 k l (λa e=>s2 d f<|λt s=>F a e t s)=s2 d f (λt s=>s2 k l<|λa e=>F a e t s):=by
 unfold s2;have g:∀a,sm (λe=>sm (λt=>sm (λs=>F a e t s)<|f+1)<|d+1) (l+1)=sm (λt=>sm (λs=>sm (λe=>F a e t s)<|l+1)<|f+1) (d+1):=λa=>by rw[rX];exact fN λt _=>rX _ _ _
 rw[fN λa _=>g a,rX];exact fN λt _=>rX _ _ _
def akn{k l}{F d:Y->Y->G}(f:∀a e,a<=k->e<=l->F a e<=d a e):s2 k l F<=s2 k l d:=Hh λa g=>Hh λe i=>f a e O O
def ako{k l}{F:Y->Y->G}{a e}(g:a<=k)(o:e<=l)(d:∀a e,a<=k->e<=l->0<=F a e):F a e<=s2 k l F:=by refine rY (LJ (f:=λe=>F a e) (a:=e) (n:=l+1) O λi m=>d a i g O) ?_;exact LJ (f:=λa=>sm (λe=>F a e)<|l+1) (a:=a) (n:=k+1) O λi m=>LI λj p=>d i j O O
def akp{k l}{F:Y->Y->G}{a e}(o:a<=k)(q:e<=l)(n:∀i d,i<=k->d<=l->¬(i=a/\d=e)->F i d=0):s2 k l F=F a e:=by unfold s2;rw[wT (a:=a) O λi s g=>o0 λd p=>n i d O O λm=>g m.1];exact wT (f:=λe=>F a e) (a:=e) O λd p g=>n a d o O λm=>g m.2
def eta(t s a e:Y):G:=if t<=a/\s<=e/\a-t=e-s then((ch a t*ch e s*bx (a-t):Y):G)else 0
def Y9{k l a e a' f}(ha:a<=k)(he:e<=l)(g:a'<=k)(hf:f<=l):(if a+f=a'+e then((bx (a+f):Y):G)else 0)=s2 k l (λt s=>((bx t*bx s:Y):G)*(eta t s a e*eta t s a' f)):=by
 by_cases h:a+f=a'+e
 .rw[ao h,h,<-tu a' e,<-h,Rv f a a',eY,Y8];have B:sm (λt=>((ch a t*ch f (a'-t):Y):G)) (a'+1)=sm (λt=>((ch a t*ch f (a'-t):Y):G)*(if t<=a' then 1 else 0)) (k+1):=by
   have C:∀n,a'<=n->sm (λt=>((ch a t*ch f (a'-t):Y):G)*(if t<=a' then 1 else 0)) (n+1)=sm (λt=>((ch a t*ch f (a'-t):Y):G)) (a'+1):=λn j=>by
    induction n with
    |zero=>
     have:a'=0:=O
     subst this
     exact fN λi F=>by rw[ao O,mm]
    |succ n H=>
     by_cases K:a'<=n
     .rw[sm,H K,w O,gy,qm]
     .have:a'=n+1:=by omega
      subst this;exact fN λi F=>by rw[ao O,mm]
   exact(C k g).symm
  rw[B,<-Qh];unfold s2;refine fN λt L=>?_
  by_cases m:t<=a'/\t<=a/\a-t<=e
  .let ⟨m,h2,P⟩:=m;rw[ao m,mm];rw[wT (a:=e-(a-t)) O λs p Q=>?_]
   .have d:t<=a/\e-(a-t)<=e/\a-t=e-(e-(a-t)):=by omega
    have U:t<=a'/\e-(a-t)<=f/\a'-t=f-(e-(a-t)):=O;dsimp only;rw[eta,ao d,eta,ao U];have W:=tu t<|a-t;have q:=tu (e-(a-t))<|a-t;have u:=tu t<|a'-t;have v:=tu (e-(a-t))<|a'-t;have x:=tu (a'-t)<|e-(a-t);rw[(O:t+(a-t)=a)]at W;rw[(O:e-(a-t)+(a-t)=e)]at q;rw[(O:t+(a'-t)=a')]at u;rw[(O:e-(a-t)+(a'-t)=f)]at v;rw[(O:a'-t+(e-(a-t))=f)]at x;have o:ch a t*ch f (a'-t)*(bx a'*bx e)=bx t*bx (e-(a-t))*(ch a t*ch e (e-(a-t))*bx (a-t)*(ch a' t*ch f (e-(a-t))*bx (a'-t))):=by rw[<-u,<-q];have X:ch f (a'-t)*(bx (a'-t)*bx (e-(a-t)))=ch f (e-(a-t))*(bx (e-(a-t))*bx (a'-t)):=x.trans v.symm;have b:ch a t*ch f (a'-t)*(ch a' t*(bx t*bx (a'-t))*(ch e (e-(a-t))*(bx (e-(a-t))*bx (a-t))))=ch a t*ch a' t*bx t*ch e (e-(a-t))*bx (a-t)*(ch f (a'-t)*(bx (a'-t)*bx (e-(a-t)))):=fq;rw[b,X];ac_rfl
    rw[<-eY,<-eY,<-eY,o]
   .have:¬(t<=a/\s<=e/\a-t=e-s):=by omega
    dsimp only;rw[eta,w this,mj,gy]
  .have c:((ch a t*ch f (a'-t):Y):G)*(if t<=a' then 1 else 0)=0:=by
    by_cases h2:t<=a'
    .by_cases P:t<=a
     .rw[yo f (a'-t) O,LL];simp
     .rw[yo a t O,rB];simp
    .rw[w h2,gy]
   rw[c,mj];refine(o0 λs p=>?_).symm;by_cases d:t<=a/\s<=e/\a-t=e-s
   .have:¬(t<=a'/\s<=f/\a'-t=f-s):=by omega
    dsimp only;rw[show eta t s a' f=0 by rw[eta,if_neg this],Hi,Hi]
   .dsimp only;rw[eta,if_neg d,Int.zero_mul,Hi]
 .rw[w h];unfold s2;refine(o0 λt L=>o0 λs p=>?_).symm;by_cases d:t<=a/\s<=e/\a-t=e-s
  .have:¬(t<=a'/\s<=f/\a'-t=f-s):=by omega
   dsimp only;rw[show eta t s a' f=0 by rw[eta,if_neg this],Hi,Hi]
  .dsimp only;rw[eta,if_neg d,Int.zero_mul,Hi]
def Y' t s:eta t s t s=1:=by rw[eta,ao O,Gu,Gu,ma];rfl
def AP(x:G):0<=x*x:=by
 rcases Int.le_total 0 x with h|h
 .exact iP h h
 .have:=iP (a:= -x) (b:= -x) O O;rwa[Int.neg_mul_neg]at this
def akq k l(g:Y->Y->G):
  s2 k l (λt s=>((bx t*bx s:Y):G)*((bx (k-t)*bx (l-s):Y):G)*(g t s*g t s))<=
  s2 k l (λa e=>s2 k l<|λd f=>g a e*g d f*((if a+f=d+e then((bx (a+f):Y):G)else 0)*(if(k-a)+(l-f)=(k-d)+(l-e)then((bx ((k-a)+(l-f)):Y):G)else 0))):=by
 have p:s2 k l (λa e=>s2 k l<|λd f=>g a e*g d f*((if a+f=d+e then((bx (a+f):Y):G)else 0)*(if(k-a)+(l-f)=(k-d)+(l-e)then((bx ((k-a)+(l-f)):Y):G)else 0)))=
   s2 k l (λt s=>s2 k l<|λm n=>((bx t*bx s:Y):G)*((bx m*bx n:Y):G)*(s2 k l (λa e=>g a e*(eta t s a e*eta m n (k-a) (l-e)))*s2 k l (λa e=>g a e*(eta t s a e*eta m n (k-a) (l-e))))):=by
  have q:∀a e,a<=k->e<=l->s2 k l (λd f=>g a e*g d f*((if a+f=d+e then((bx (a+f):Y):G)else 0)*(if(k-a)+(l-f)=(k-d)+(l-e)then((bx ((k-a)+(l-f)):Y):G)else 0)))=s2 k l (λt s=>s2 k l<|λm n=>((bx t*bx s:Y):G)*((bx m*bx n:Y):G)*(g a e*(eta t s a e*eta m n (k-a) (l-e))*s2 k l (λa e=>g a e*(eta t s a e*eta m n (k-a) (l-e))))):=by
   intro a e u v;have x:∀d f,d<=k->f<=l->g a e*g d f*((if a+f=d+e then((bx (a+f):Y):G)else 0)*(if(k-a)+(l-f)=(k-d)+(l-e)then((bx ((k-a)+(l-f)):Y):G)else 0))=s2 k l (λt s=>s2 k l<|λm n=>((bx t*bx s:Y):G)*((bx m*bx n:Y):G)*(g a e*(eta t s a e*eta m n (k-a) (l-e))*(g d f*(eta t s d f*eta m n (k-d) (l-f))))):=by
    intro d f o B;rw[Y9 u v o B,Y9 (k:=k) (l:=l) (a:=k-a) (e:=l-e) (a':=k-d) (f:=l-f) O O O O,<-Rw,<-uX];refine tv λt s _ _=>?_
    rw[<-uX,<-uX];refine tv λm n _ _=>?_
    ac_rfl
   rw[tv x,LK];refine tv λt s _ _=>?_
   rw[LK];refine tv λm n _ _=>?_
   rw[<-uX,<-uX]
  rw[tv q,LK]
  refine tv λt s _ _=>?_
  rw[LK]
  refine tv λm n _ _=>?_
  rw[uX,Rw]
 rw[p]
 refine akn λt s C F=>?_
 refine rY (Za ?_)<|ako (k:=k) (l:=l) (a:=k-t) (e:=l-s) O O λm n _ _=>iP (iP (pB _)<|pB _)<|AP _
 have H:s2 k l (λa e=>g a e*(eta t s a e*eta (k-t) (l-s) (k-a) (l-e)))=g t s:=by
  rw[akp C F λi j L P K=>?_]
  .rw[Y',Y',mm,mm]
  .by_cases c1:t<=i/\s<=j/\i-t=j-s
   .have:¬(k-t<=k-i/\l-s<=l-j/\k-i-(k-t)=l-j-(l-s)):=by omega
    rw[show eta (k-t) (l-s) (k-i) (l-j)=0 by rw[eta,w this],gy,gy]
   .rw[eta,w c1,mj,gy]
 rw[H]
def Bw(n:Y)(a:Y->G):G:=sm (λi=>((bx i*bx (n-i):Y):G)*(a i*a i))<|n+1
def akr{g B:PS}{k l i}(q:∀m,k<m->g m=0)(s:∀m,l<m->B m=0):(g*B) i=s2 k l (λa f=>if a+f=i then g a*B f else 0):=by
 rw[PS.e9];unfold s2;have t:∀a,a<=i->g a*B (i-a)=sm (λf=>if a+f=i then g a*B f else 0) (l+1):=λa o=>by
  by_cases e:i-a<=l
  .rw[wT (a:=i-a) O λf _ u=>w O,ao O]
  .rw[s (i-a) O,gy];exact(o0 λf L=>w O).symm
 rw[fN λa o=>t a O];have p:∀n,(∀a,n<=a->sm (λf=>if a+f=i then g a*B f else 0) (l+1)=0)->∀d,sm (λa=>sm (λf=>if a+f=i then g a*B f else 0)<|l+1) (n+d)=sm (λa=>sm (λf=>if a+f=i then g a*B f else 0)<|l+1) n:=λn v d=>by
  induction d with
  |zero=>rfl
  |succ d x=>rw[<-pW,sm,x,v _ O,qm]
 have C:∀a,i+1<=a->sm (λf=>if a+f=i then g a*B f else 0) (l+1)=0:=λa o=>o0 λf _=>w O
 have F:∀a,k+1<=a->sm (λf=>if a+f=i then g a*B f else 0) (l+1)=0:=λa o=>o0 λf _=>by rw[q a O,mj,ite_self]
 have H:=p _ C<|k+1;have K:=p _ F<|i+1;rw[<-H,<-K];congr 1;omega
def aks{g B:PS}{k l}(v:∀m,k<m->g m=0)(x:∀m,l<m->B m=0):Bw k g*Bw l B<=Bw (k+l) (g*B):=by
 have u:=akq k l<|λa e=>g a*B e;have C:s2 k l (λt s=>((bx t*bx s:Y):G)*((bx (k-t)*bx (l-s):Y):G)*(g t*B s*(g t*B s)))=Bw k g*Bw l B:=by
  unfold Bw s2;rw[<-Qh];refine fN λt _=>?_
  rw[<-ym];refine fN λs _=>?_
  simp only[eY];ac_rfl
 rw[C]at u;refine rY u<|Za ?_;have F:Bw (k+l) (g*B)=s2 k l (λa f=>s2 k l<|λd e=>g a*B f*(g d*B e)*(if a+f=d+e then((bx (a+f)*bx (k+l-(a+f)):Y):G)else 0)):=by
  unfold Bw;have H:∀i,i<k+l+1->((bx i*bx (k+l-i):Y):G)*((g*B) i*(g*B) i)=s2 k l (λa f=>s2 k l<|λd e=>g a*B f*(g d*B e)*(if a+f=i then(if d+e=i then((bx i*bx (k+l-i):Y):G)else 0)else 0)):=λi _=>by
   rw[akr v x,<-Rw,<-uX];refine tv λa f _ _=>?_
   rw[<-uX,<-uX];refine tv λd e _ _=>?_
   by_cases c1:a+f=i
   .by_cases o:d+e=i
    .rw[ao c1,ao c1,ao o,ao o,et]
    .rw[w o,w o,ite_self];simp only[gy]
   .rw[w c1,w c1,mj,gy,gy]
  rw[fN H];unfold s2;rw[rX];refine fN λa K=>?_
  rw[rX];refine fN λf L=>?_
  rw[rX];refine fN λd p=>?_
  rw[rX];refine fN λe P=>?_
  rw[ym];congr 1;rw[wT (a:=a+f) O λi _ q=>w λh=>q h.symm,ao J];by_cases c:a+f=d+e
  .rw[ao c.symm,ao c]
  .rw[w λh=>c h.symm,w c]
 rw[F];unfold s2;refine fN λa K=>?_
 have Q:∀(n:Y->Y->Y->G),sm (λe=>sm (λd=>sm (λf=>n e d f)<|l+1)<|k+1) (l+1)=sm (λf=>sm (λd=>sm (λe=>n e d f)<|l+1)<|k+1) (l+1):=λn=>by
  rw[rX];have U:sm (λd=>sm (λe=>sm (λf=>n e d f)<|l+1)<|l+1) (k+1)=sm (λd=>sm (λf=>sm (λe=>n e d f)<|l+1)<|l+1) (k+1):=fN λd _=>rX _ _ _
  rw[U,rX]
 rw[Q];refine fN λf L=>fN λd p=>fN λe P=>?_
 by_cases c:a+f=d+e
 .dsimp only;rw[ao c,ao O,ao c,<-eY,(O:k-a+(l-f)=k+l-(a+f))];ac_rfl
 .dsimp only;rw[w c,w c,mj,gy,gy]
def Zb{P:Y->Prop}:∀n,P n->∃m,P m/\∀k,k<m->¬P k:=by
 intro n;induction n using Nat.strongRecOn with
 |ind n a=>
  intro h
  by_cases e:∃k,k<n/\P k
  .let ⟨k,d,h2⟩:=e;exact a k d h2
  .exact⟨n,h,λk f g=>e ⟨k,f,g⟩⟩
def akt{k}(f:2<=k):∃q,dy q/\q∣k:=by
 let ⟨m,⟨g,h2⟩,i⟩:=Zb (P:=λd=>2<=d/\d∣k) k ⟨f,Nat.dvd_refl k⟩;refine⟨m,⟨g,λd e l n=>?_⟩,h2⟩;have a:d<m:=by have:d*2<=d*d:=ia d e;omega
 exact i d a ⟨e,DC (Hj n) h2⟩
def Zc(f:Y->G):∀k,((sm f k:G):D)=sq (λi=>(f i:D)) k
 |0=>rfl
 |k+1=>by rw[sm,sq,Rat.intCast_add,Zc f k]
namespace Rx
def dk(a:Rx):Prop:=∀i,a i=((a i).num:D)
def nu(a:Rx):PS:=λi=>(a i).num
def dk.of{a}(e:∀i,∃d:G,a i=(d:D)):dk a:=λi=>by let ⟨d,f⟩:=e i;rw[f];rfl
def dk.at{a}(d:dk a) i:a i=((nu a i:G):D):=d i
def dk.mul'{a B}(d:dk a)(e:dk B) i:(a*B) i=(((nu a*nu B) i:G):D):=by rw[PS.e9,Zc,e9];exact th λj _=>by rw[d.at,e.at,fJ]
def dk.mul{a B}(d:dk a)(e:dk B):dk (a*B):=dk.of λi=>⟨_,d.mul' e i⟩
def Hk{a B}(d:dk a)(e:dk B):nu (a*B)=nu a*nu B:=PS.ext λi=>by show((a*B) i).num=_;rw[d.mul' e i];rfl
def dk.K(a:G):dk (K (a:D)):=dk.of λi=>by
 rw[mz];split
 .exact⟨a,J⟩
 .exact⟨0,J⟩
def yF{a}{i}(d:sz a<=i):nu a i=0:=by show(a i).num=0;rw[lN d];rfl
def dk.sub{a B}(d:dk a)(e:dk B):dk (a-B):=dk.of λi=>⟨nu a i-nu B i,by rw[uC,d.at,e.at,Lw]⟩
def LM a:((a.den:Y):D)*a=(a.num:D):=by
 have h:=m6 a;rw[Lv,yr,qK]at h;have e:=mA _<|wN<|Ry.1 a.den_pos;have d:((a.den:Y):D)*a=((a.den:Y):D)*((a.num:D)*((a.den:Y):D)⁻¹):=by rw[h]
 rw[d];grind
def aku d:∃a:Y,0<a/\dk (K ((a:Y):D)*d):=by
 have f:∀n,∃a:Y,0<a/\∀i,i<n->∃z:G,(a:D)*d i=(z:D):=by
  intro n;induction n with
  |zero=>exact⟨1,T,λi h=>absurd h O⟩
  |succ n k=>
   let ⟨a,g,h2⟩:=k
   refine⟨a*(d n).den,yg g (d n).den_pos,λi o=>?_⟩
   by_cases e:i=n
   .subst e;refine⟨(a:G)*(d i).num,?_⟩;rw[fJ,yG,nE,LM];rfl
   .let ⟨z,l⟩:=h2 i O;refine⟨z*((d n).den:G),?_⟩;rw[fJ,<-l,yG,qK];grind
 let ⟨n,m⟩:=d.fin;let ⟨a,g,h2⟩:=f n;refine⟨a,g,dk.of λi=>?_⟩;rw[fZ];by_cases e:i<n
 .exact h2 i e
 .exact⟨0,by rw[m i O,fO];rfl⟩
structure Dn(a:Rx)(m:Y):Prop where
 pos:0<m
 int:dk (K ((m:Y):D)*a)
 dvd:∀d:Y,dk (K ((d:Y):D)*a)->m∣d
def Hl a:∃m,Dn a m:=by
 let ⟨i,k,h2⟩:=aku a;let ⟨m,⟨f,g⟩,l⟩:=Zb (P:=λd=>0<d/\dk (K ((d:Y):D)*a)) i ⟨k,h2⟩;refine⟨m,f,g,λd n=>?_⟩;refine Hj<|eX λo=>?_;refine l (d%m) (fg _ f) ⟨O,?_⟩;have e:K ((d%m:Y):D)*a=K ((d:Y):D)*a-K (((d/m:Y):G):D)*(K ((m:Y):D)*a):=by
  have p:((d:Y):D)=((d/m:Y):D)*((m:Y):D)+((d%m:Y):D):=by rw[<-yG,<-Rat.natCast_add,gO,qh]
  rw[<-mul_assoc,<-eW,<-sub_mul,<-ajR,p,qK];congr 2;grind
 rw[e];exact n.sub<|(dk.K _).mul g
def Dn.Zd{a}(l:Mo a){m}(d:Dn a m){q}(s:dy q):¬∀i,nu (K ((m:Y):D)*a) i%(q:G)=0:=λo=>by
 have t:=s.1;let ⟨n,u⟩:=Dw l.ne;have v:nu (K ((m:Y):D)*a) n=(m:G):=by show((K ((m:Y):D)*a) n).num=_;rw[fZ,l.at u,tn];rfl
 have B:q∣m:=wz.1<|v▸C8 (o n);let ⟨k,C⟩:=B;have f:0<k:=by
  have:=d.pos;rcases oW k with e|e
  .subst e;omega
  .exact e
 have F:dk (K ((k:Y):D)*a):=dk.of λi=>by let ⟨w,hw⟩:=C8<|o i;refine⟨w,?_⟩;have p:=d.int.at i;rw[hw,fZ,C,yG,fJ,qK]at p;rw[fZ];have H:=mA _<|wN (O:q≠0);have g:=a6 (λx=>((q:Y):D)⁻¹ *x) p;rw[<-nE,<-nE,<-nE,H]at g;rw[rQ,rQ]at g;exact g
 have:=uE f<|d.dvd k F;have:2*k<=q*k:=ef k t;omega
def Ze{P f}(B:Mo P)(F:Mo f){a g t}(m:Dn P a)(n:Dn f g)(u:Dn (P*f) t):t=a*g:=by
 have C:dk (K ((a:Y):D)*P*(K ((g:Y):D)*f)):=m.int.mul n.int;have v:K ((a:Y):D)*P*(K ((g:Y):D)*f)=K ((a*g:Y):D)*(P*f):=by rw[yG,eW];ac_rfl
 let ⟨k,H⟩:=u.dvd (a*g)<|v▸C;by_cases o:k=1
 .subst o;omega
 have L:=yg m.pos n.pos;have Q:0<k:=by
  rcases oW k with e|e
  .subst e;omega
  .exact e
 let ⟨q,p,s⟩:=akt (k:=k) O;have U:∀i,(nu (K ((a:Y):D)*P)*nu (K ((g:Y):D)*f)) i%(q:G)=0:=λi=>by have l:=m.int.mul' n.int i;rw[v,H,yG,eW,mul_comm (K _)<|K _,mul_assoc,fZ,u.int.at i,<-qK,<-fJ]at l;rw[<-wU.1 l];exact At<|GK (wz.2 s)<|Int.dvd_mul_right _ _
 have x:∀A:Rx,Dl (q:G) (sz A) (nu A):=λA i W=>by rw[yF W,gA]
 rcases De (x<|K ((a:Y):D)*P)with l|⟨d,_,d1,d2⟩
 .exact absurd (λi=>by have:=l.at i;rwa[PS.lL,gA]at this)<|m.Zd B p
 rcases De (x<|K ((g:Y):D)*f)with l|⟨e,_,f1,f2⟩
 .exact absurd (λi=>by have:=l.at i;rwa[PS.lL,gA]at this)<|n.Zd F p
 exact absurd (U<|d+e)<|Go.El.Az p d2 f2 d1 f1
def mX(n:Y)(a:PS):G:=sm (λi=>(aA (a i):G))<|n+1
def Zf(f:Y->G):∀n,(∀i,0<=f i)->sm (λi=>f i*f i) n<=sm f n*sm f n
 |0,_=>by simp[sm]
 |n+1,a=>by
  have e:=Zf f n a;have d:=LI (f:=f) (n:=n) λi _=>a i
  have g:=iP d<|a n;rw[sm,sm,mJ,nq,nq,et (f n)<|sm f n];omega
def akv n(a:PS):Bw n a<=((bx n:Y):G)*(mX n a*mX n a):=by
 unfold Bw mX;have f:=Zf (λi=>(aA (a i):G)) (n+1)<|λ_=>pB _;refine rY ?_<|jQ f<|pB _;rw[<-ym];refine Hh λi m=>?_
 have g:bx i*bx (n-i)<=bx n:=by
  have d:=tu i<|n-i;rw[(O:i+(n-i)=n)]at d;have k:0<ch n i:=by
   rcases oW (ch n i)with e|e
   .rw[e,rB]at d;have:=Hg n;omega
   .exact e
  rw[<-d];exact KZ _ k
 have l:(aA (a i):G)*(aA (a i):G)=a i*a i:=by rw[<-eY,akw]
 rw[l];exact gL (LN.2 g)<|AP _
def Zg n:∀k,ch n k<=2^n:=by
 induction n with
 |zero=>
  intro k
  cases k with
  |zero=>exact aW _
  |succ k=>exact a8 _
 |succ n a=>
  intro k
  have d:=iA (n:=n) (T:0<2)
  rw[fp]
  cases k with
  |zero=>rw[qx];omega
  |succ k=>
   have:=a k
   have:=a<|k+1
   rw[ch];omega
def akx{x d}(e:0<=d)(g:x*x<=d*d):(aA x:G)<=d:=by
 refine eX λi=>?_
 have k:((aA x:G))*aA x=x*x:=by rw[<-eY,akw]
 have f:d<aA x:=O;have l:d*d<(aA x:G)*aA x:=by have m:=jQ (a:=d) (O:d<=(aA x:G)) e;have n:=F8 f (O:(0:G)<aA x);omega
 omega
def Zh{A B}{k l}(o:∀d,k<d->A d=0)(v:∀d,l<d->B d=0)(p:B l≠0) i:(aA (A i):G)<=2^(k+l)*mX (k+l) (A*B):=by
 have e:0<=mX (k+l) (A*B):=LI λ_ _=>pB _
 have g:(0:G)<=2^(k+l):=Int.le_of_lt<|mI T;by_cases x:k<i
 .rw[o i x];exact iP g e
 refine akx (iP g e) ?_;have C:=rY (aks o v)<|akv (k+l)<|A*B;have q:((bx l:Y):G)<=Bw l B:=by
  have:=LJ (f:=λi=>((bx i*bx (l-i):Y):G)*(B i*B i)) (a:=l) (n:=l+1) O λi _=>iP (pB _)<|AP _
  refine rY ?_ this;rw[ma,show bx 0=1 from J,qj];have m:1<=B l*B l:=by have s:=AP<|B l;have t:B l*B l≠0:=yq p p;omega
  have:=jQ m<|pB<|bx l;rwa[mm]at this
 have m:((bx i*bx (k-i):Y):G)*(A i*A i)<=Bw k A:=LJ (f:=λi=>((bx i*bx (k-i):Y):G)*(A i*A i)) (a:=i) (n:=k+1) O λi _=>iP (pB _)<|AP _
 have s:((bx i*bx (k-i):Y):G)*(A i*A i)*((bx l:Y):G)<=((bx (k+l):Y):G)*(mX (k+l) (A*B)*mX (k+l) (A*B)):=by refine rY ?_ C;refine rY (jQ q<|iP (pB _)<|AP _) ?_;exact gL m<|rY (pB _) q
 have t:bx (k+l)=bx i*bx (k-i)*bx l*(ch (k+l) k*ch k i):=by have F:=tu k l;have u:=tu i<|k-i;rw[(O:i+(k-i)=k)]at u;rw[<-F,<-u];ac_rfl
 have H:ch (k+l) k*ch k i<=2^(k+l)*2^(k+l):=mn (Zg _ _)<|bQ (Zg _ _)<|fh T O;have K:0<bx i*bx (k-i)*bx l:=yg (yg (Hg _)<|Hg _)<|Hg _;generalize mX (k+l) (A*B)=S at*;have L:((bx i*bx (k-i)*bx l:Y):G)*(A i*A i)<=((bx i*bx (k-i)*bx l:Y):G)*((2^(k+l)*2^(k+l))*(S*S)):=by
  have P:((bx i*bx (k-i)*bx l:Y):G)*(A i*A i)=((bx i*bx (k-i):Y):G)*(A i*A i)*((bx l:Y):G):=by rw[eY];ac_rfl
  rw[P];refine rY s ?_;rw[t,eY,iF];refine jQ ?_<|pB _;refine gL ?_<|AP S;have:=LN.2 H;rw[eY (2^(k+l)),s7]at this;exact this
 have Q:=Int.le_of_mul_le_mul_left L<|Int.natCast_pos.2 K;refine rY Q<|Za ?_;ac_rfl
end Rx
def qM:V Y:=[1073741827,1073741831,1073741833,1073741839,1073741843,1073741857,1073741891,1073741909,1073741939,1073741953,1073741969,1073741971,
 1073741987,1073741993,1073742037,1073742053,1073742073,1073742077,1073742091,1073742113,1073742169,1073742203,1073742209,1073742223,
 1073742233,1073742259,1073742277,1073742289,1073742343,1073742353,1073742361,1073742391,1073742403,1073742463,1073742493,1073742517,
 1073742583,1073742623,1073742653,1073742667,1073742671,1073742673,1073742707,1073742713,1073742721,1073742731,1073742767,1073742773,
 1073742811,1073742851,1073742853,1073742881,1073742889,1073742913,1073742931,1073742937,1073742959,1073742983,1073743007,1073743037,
 1073743049,1073743051,1073743079,1073743091,1073743093,1073743123,1073743129,1073743141,1073743159,1073743163,1073743189,1073743199,
 1073743207,1073743243,1073743291,1073743303,1073743313,1073743327,1073743331,1073743337,1073743381,1073743387,1073743393,1073743397,
 1073743403,1073743417,1073743421,1073743427,1073743457,1073743459,1073743469,1073743501,1073743507,1073743513,1073743543,1073743577,
 1073743591,1073743633,1073743739,1073743757,1073743831,1073743861,1073743871]
def Hm:Y->Y->Y
 |0,l=>l+1
 |d+1,l=>Hm d (2*l)*Hm d (2*l+1)
def Rz:∀(d l x:Y),x<2^d->2^d*l+x+1∣Hm d l
 |0,l,x,h=>by have:x=0:=dL;subst this;rw[oY,iT,iR];exact Nat.dvd_refl _
 |d+1,l,x,h=>by
  rw[fp]at h⊢;by_cases e:x<2^d
  .have:=Rz d (2*l) x e;rw[(fq:2^d*(2*l)=2^d*2*l)]at this;exact Nat.dvd_mul_right_of_dvd this _
  .have:=Rz d (2*l+1) (x-2^d) O;rw[show 2^d*(2*l+1)+(x-2^d)=2^d*2*l+x by rw[uD,(fq:2^d*(2*l)=2^d*2*l)];omega]at this;exact aky this _
def pC(l:V Y):Y:=l.foldr (·*·) 1
def akz{l}{x}(a:x∈l):x∣pC l:=by
 induction l with
 |nil=>cases a
 |cons y l d=>
  rcases bX.1 a with rfl|a
  .exact Nat.dvd_mul_right _ _
  .exact aky (d a) _
def akA:Nat.gcd (pC qM) (Hm 15 0)=1:=dN
def akB:(qM.all λp=>dj 1073741824 p&&dj p 1073743872)=ae:=dN
def Zi{p}(a:p∈qM):1073741824<p/\p<1073743872:=by have:=l6.1 akB p a;rw[cw]at this;exact⟨c9 this.1,c9 this.2⟩
def akC{p}(a:p∈qM):dy p:=by
 let ⟨m,h2⟩:=Zi a;refine⟨O,λd n g i=>?_⟩;have o:d<=32768:=by
  by_cases e:d<=32768
  .exact e
  .have:=mn (O:32769<=d) (O:32769<=d);omega
 have k:d∣Hm 15 0:=by have:=Rz 15 0 (d-1) (O:d-1<32768);rwa[LL,eH,(O:d-1+1=d)]at this
 have l:d∣pC qM:=DC (Hj i)<|akz a;have f:=Nat.dvd_gcd l k;rw[akA]at f;have:=uE T f;omega
def LO:∀(d a:Y)(f:Y->Y),d<a->(∀i,i<a->f i<d)->∃i g,i<g/\g<a/\f i=f g
 |0,a,f,p,m=>absurd (m 0 p) O
 |d+1,a,f,p,m=>by
  by_cases e:∃i,i<a/\f i=d
  .let ⟨i0,u,h2⟩:=e;by_cases q:∃i,i<a/\i≠i0/\f i=d
   .let ⟨i1,s,t,n⟩:=q;rcases akD t with o|o
    .exact⟨i1,i0,o,u,by rw[n,h2]⟩
    .exact⟨i0,i1,o,s,by rw[n,h2]⟩
   .have l:∀i,i<a->i≠i0->f i<d:=λi k v=>by
     have:=m i k;have:f i≠d:=λe=>q ⟨i,k,v,e⟩
     omega
    let ⟨i,g,s,t,n⟩:=LO d (a-1) (λi=>if i<i0 then f i else f (i+1)) O λi k=>by
     split
     .exact l i O O
     .exact l (i+1) O O
    refine⟨if i<i0 then i else i+1,if g<i0 then g else g+1,?_,?_,?_⟩
    .split<;>split<;>omega
    .split<;>omega
    .split<;>split<;>simp_all
  .exact LO d a f O λi k=>by
    have:=m i k;have:f i≠d:=λx=>e ⟨i,k,x⟩
    omega
def Zj{K:Y}(l:0<K):∀(C i a:Y),i<K^C->a<K^C->(∀d,d<C->i/K^d%K=a/K^d%K)->i=a
 |0,i,a,e,f,_=>by rw[oY]at e f;omega
 |C+1,i,a,e,f,g=>by
  have k:=g 0 O;rw[oY,Nat.div_one,Nat.div_one]at k;have m:=Zj l C (i/K) (a/K) (xO<|by rwa[fp,gO]at e) (xO<|by rwa[fp,gO]at f) λd n=>by have:=g (d+1) O;rwa[fp,gO,<-akE,<-akE]at this
  rw[<-qh i K,<-qh a K,k,m]
def code(K:Y)(v:Y->Y):Y->Y
 |0=>0
 |a+1=>code K v a+v a*K^a
def Hn{K:Y}(v:Y->Y):∀a,(∀d,d<a->v d<K)->code K v a<K^a
 |0,_=>BA
 |a+1,e=>by
  have g:=Hn v a λd i=>e d O
  have f:=ef (K^a) (show v a+1<=K from e a O);rw[gk,iT]at f;rw[code,fp,gO (K^a) K];omega
def RA{K:Y}(v f:Y->Y):∀a,(∀d,d<a->v d<K)->(∀d,d<a->f d<K)->code K v a=code K f a->∀d,d<a->v d=f d
 |0,_,_,_,d,i=>absurd i O
 |a+1,l,hw,k,d,i=>by
  have n:=Hn v a λd i=>l d O
  have o:=Hn f a λd i=>hw d O
  rw[code,code]at k;have g:0<K^a:=O;have m:v a=f a:=by
   have p:(code K v a+v a*K^a)/K^a=v a:=by rw[akF _ _ g,Aj n,eH]
   have q:(code K f a+f a*K^a)/K^a=f a:=by rw[akF _ _ g,Aj o,eH]
   rw[<-p,<-q,k]
  by_cases e:d=a
  .rw[e];exact m
  .exact RA v f a (λd i=>l d O) (λd i=>hw d O) (by rw[m]at k;omega) d O
def Zk{f:Y->G}{g:Y->Y}{X:Y}:∀n,(∀i,i<n->(f i).natAbs<=g i*X)->(sm f n).natAbs<=sN g n*X
 |0,_=>by simp[sm]
 |n+1,a=>by
  have d:=Zk n λi e=>a i O
  have k:=a n O;rw[sm,sN,gk];omega
def Zl(f g:Y->G):∀k,sm (λi=>f i-g i) k=sm f k-sm g k
 |0=>rfl
 |k+1=>by simp only[sm,Zl f g k];omega
def akG(m:Y->Y->G) f W(L:∀d,d<f->sN (λa=>aA<|m d a) (f+1)<=W)(P:1<=W):
  ∃x:Y->G,(∃a,a<f+1/\x a≠0)/\(∀a,a<f+1->aA (x a)<=(2*W)^f)/\∀d,d<f->sm (λa=>m d a*x a) (f+1)=0:=by
 obtain⟨X,B⟩:∃X,X=(2*W)^f:=⟨_,J⟩
 let k:Y->Y->G:=λi a=>((i/(X+1)^a%(X+1):Y):G)
 have n:∀i a,0<=k i a/\k i a<=X:=λi a=>by have:=fg (i/(X+1)^a) (O:0<X+1);show 0<=((i/(X+1)^a%(X+1):Y):G)/\((i/(X+1)^a%(X+1):Y):G)<=X;omega
 have o:∀i d,d<f->(sm (λa=>m d a*k i a)<|f+1).natAbs<=W*X:=λi d l=>by refine bQ (Zk (g:=λa=>aA<|m d a) (X:=X) (f+1) λa _=>?_)<|ef X<|L d l;rw[qv];have:=n i a;exact ia _ O
 let v:Y->Y->Y:=λi d=>(sm (λa=>m d a*k i a) (f+1)+((W*X:Y):G)).toNat
 have p:∀i d,d<f->v i d<2*W*X+1/\((v i d:Y):G)=sm (λa=>m d a*k i a) (f+1)+((W*X:Y):G):=λi d l=>by
  have q:=o i d l;have e:v i d=(sm (λa=>m d a*k i a) (f+1)+((W*X:Y):G)).toNat:=rfl;have w:2*W*X=W*X+W*X:=by rw[uB,Nat.two_mul]
  generalize sm (λa=>m d a*k i a) (f+1)=s at*;rw[e];omega
 have t:(2*W*X+1)^f<(X+1)^(f+1):=by
  have q:2*W*X+1<=2*W*(X+1):=by rw[uD,qj];omega
  have C:=AQ q f;rw[Nat.mul_pow,<-B]at C;have F:X*(X+1)^f<(X+1)*(X+1)^f:=P6 O<|iA O;rw[fp,gO<|(X+1)^f];omega
 let ⟨i,j,q,C,F⟩:=LO _ _ (λi=>code (2*W*X+1) (v i) f) t λi _=>Hn (v i) f λd l=>(p i d l).1
 have Q:=RA (v i) (v j) f (λd l=>(p i d l).1) (λd l=>(p j d l).1) F
 refine⟨λa=>k i a-k j a,?_,λa _=>?_,λd l=>?_⟩
 .refine eX λU=>?_
  have:i=j:=Zj (K:=X+1) O (f+1) i j O O λa b=>by
   have u:k i a-k j a=0:=eX λu=>U ⟨a,b,u⟩
   have y:((i/(X+1)^a%(X+1):Y):G)-((j/(X+1)^a%(X+1):Y):G)=0:=u;omega
  omega
 .have H:=n i a;have h:=n j a;show aA (k i a-k j a)<=_;rw[<-B];omega
 .have H:=(p i d l).2;have h:=(p j d l).2;have e:sm (λa=>m d a*(k i a-k j a)) (f+1)=sm (λa=>m d a*k i a) (f+1)-sm (λa=>m d a*k j a) (f+1):=by rw[<-Zl];exact fN λa _=>CY _ _ _
  rw[e];rw[Q d l]at H;omega
def AR(f g:PS)(n d a:Y):G:=if a<n then(if a<=d then f (d-a)else 0)else if a<2*n+1 then(if a-n<=d then g (d-(a-n))else 0)else(if d=0 then-1 else 0)
def Zm(f:Y->G)(a:Y):∀d,sm f (a+d)=sm f a+sm (λi=>f<|a+i) d
 |0=>by simp[sm]
 |d+1=>by rw[<-pW,sm,Zm f a d,sm];omega
def Zn{f:Y->Y}{m:Y}:∀n,(∀i,i<n->f i<=m)->sN f n<=n*m
 |0,_=>by simp[sN]
 |n+1,a=>by
  have d:=Zn n λi e=>a i O
  have g:=a n O;rw[sN,gk,iT];omega
def akH{f g}{n}{B}(s:1<=B)(F:∀i,n+1<i->f i=0)(H:∀i,n<i->g i=0)(L:∀i,(f i).natAbs<=B)(P:∀i,(g i).natAbs<=B):
  ∃(u v:PS)(l:G),(∀i,n<=i->u i=0)/\(∀i,n+1<=i->v i=0)/\u*f+v*g=PS.K l/\aA l<=(2*((2*n+2)*B))^(2*n+1)/\(l=0->v=0->u=0->False):=by
 let ⟨x,⟨c0,J,h2⟩,C,Q⟩:=akG (AR f g n) (2*n+1) ((2*n+2)*B) (λr _=>Zn _ λc _=>by
  unfold AR;split
  .split
   .exact L _
   .exact a8 _
  .split
   .split
    .exact P _
    .exact a8 _
   .split
    .exact s
    .exact a8 _) (by have:=mn (O:1<=2*n+2) s;omega)
 refine⟨λi=>if i<n then x i else 0,λi=>if i<n+1 then x (n+i)else 0,x (2*n+1),λi o=>w O,λi o=>w O,?_,C _ O,?_⟩
 .refine PS.ext λr=>?_
  have t:∀(h A:PS)(m k:Y),(∀i,m<=i->A i=0)->(A*h) k=sm (λc=>(if c<=k then h (k-c)else 0)*A c) m:=λh A m k U=>by
   rw[PS.e9];have W:∀d,sm (λc=>(if c<=k then h (k-c)else 0)*A c) (k+1+d)=sm (λc=>(if c<=k then h (k-c)else 0)*A c) (k+1):=λd=>by
    induction d with
    |zero=>rfl
    |succ d p=>rw[<-pW,sm,p,w O,mj,qm]
   have X:∀d,sm (λc=>(if c<=k then h (k-c)else 0)*A c) (m+d)=sm (λc=>(if c<=k then h (k-c)else 0)*A c) m:=λd=>by
    induction d with
    |zero=>rfl
    |succ d p=>rw[<-pW,sm,p,U _ O,gy,qm]
   rw[<-X (k+1),Jp m,W m];exact fN λc a=>by rw[ao O,et]
  rw[PS.eI,t f _ n r<|λi o=>w O,t g _ (n+1) r<|λi o=>w O];by_cases b:r<2*n+1
  .have q:=Q r b;rw[(O:2*n+1+1=n+(n+1)+1),sm,Zm]at q;have j:sm (λc=>AR f g n r c*x c) n=sm (λc=>(if c<=r then f (r-c)else 0)*(if c<n then x c else 0)) n:=fN λc a=>by rw[AR,ao a,ao a]
   have y:sm (λi=>AR f g n r (n+i)*x (n+i)) (n+1)=sm (λc=>(if c<=r then g (r-c)else 0)*(if c<n+1 then x (n+c)else 0)) (n+1):=fN λc a=>by rw[AR,w O,ao O,ao a,Gj]
   rw[j,y,AR,w O,w O]at q;rw[PS.K,(O:2*n+1=n+(n+1))];split at q
   .rename_i e;rw[ao e];omega
   .rename_i e;rw[w e];omega
  .rw[PS.K,w O,o0 λc a=>?_,o0 λc a=>?_]
   .rfl
   .split
    .exact(a6 (·*_)<|H _ O).trans<|mj _
    .rw[mj]
   .split
    .exact(a6 (·*_)<|F _ O).trans<|mj _
    .rw[mj]
 .intro z E I;refine h2 ?_;by_cases c1:c0<n
  .have:=congrFun I c0;rwa[ao c1]at this
  .by_cases M:c0<2*n+1
   .have:=congrFun E<|c0-n;rwa[ao O,(O:n+(c0-n)=c0)]at this
   .rw[(O:c0=2*n+1)];exact z
def Zo{D:Y}:∀{l:V Y},l.Nodup->(∀p∈l,dy p/\p∣D)->pC l∣D
 |[],_,_=>Nat.one_dvd D
 |p::l,s,f=>by
  let ⟨t,h2⟩:=zp.1 s;have i:=Zo h2 λq k=>f q (by simp[k])
  have g:=(f p ax).1;have u:Nat.Coprime p (pC l):=g.coprime λd=>by
   have m:∀{l:V Y},(∀q∈l,dy q/\q∣D)->p∣pC l->p∈l:=by
    intro l;induction l with
    |nil=>intro _ d;have v:=g.1;have:=uE BA d;omega
    |cons q l i=>
     intro n d
     rcases g.dvd_mul (a:=q) (b:=pC l) d with e|e
     .rcases(n q ax).1.C9 e with o|o
      .have v:=g.1;omega
      .rw[o];simp
     .have:=i (λr x=>n r<|by simp[x]) e;simp[this]
   exact t<|m (λq k=>f q<|by simp[k]) d
  exact u.mul_dvd_of_dvd_of_dvd (f p ax).2 i
def akI:qM.Nodup:=by
 have h:(qM.zip<|qM.drop 1).all (λx=>dj x.1 x.2)=ae:=dN;have f:∀(l:V Y),(l.zip<|List.drop 1 l).all (λx=>dj x.1 x.2)=ae->l.Pairwise (·<·):=by
  intro l;induction l with
  |nil=>intro _;exact .nil
  |cons a l i=>
   intro h
   cases l with
   |nil=>exact RB _ _
   |cons b l=>
    have h:(((a,b)::((b::l).zip l)).all λx=>dj x.1 x.2)=ae:=h
    rw[List.all_cons,cw]at h
    have g:=i h.2
    refine jr.2 ⟨λc k=>?_,g⟩
    have d:a<b:=c9 h.1
    rcases bX.1 k with e|e
    .rw[e];exact d
    .exact Nat.lt_trans d<|(jr.1 g).1 c e
 exact(f qM h).imp λh=>Nat.ne_of_lt h
def wV:Y:=2^3089
def akJ:Nat.ble (wV+1) (pC qM)=ae:=dN
def Zp{a d}(e:Nat.ble (a+1) d=ae):a<d:=Nat.lt_of_succ_le<|c9 e
def akK:wV<pC qM:=Zp akJ
def akL{l}(e:l.Nodup)(f:∀p∈l,dy p)(g:wV<pC l){a}(q:a≠0)(i:aA a<=wV):∃p∈l,¬(p:G)∣a:=eX λk=>by
 have m:=Zo (D:=aA a) e λp d=>⟨f p d,RC.1<|eX λn=>k ⟨p,d,n⟩⟩
 have o:=uE O m;exact absurd i<|Nat.not_le_of_lt<|hP g o
def RD(p:G):Setoid {a:PS//bc p a}:=⟨λa B=>Cg p a.1 B.1,⟨λa=>Cg.refl p a.1,Cg.symm,Cg.trans⟩⟩
def Fx(p:G):Type:=Quotient<|RD p
namespace Fx
variable{p:G}
def mk(a:PS)(d:bc p a):Fx p:=Quotient.mk (RD p) ⟨a,d⟩
def mk_eq{a B}{d:bc p a}{k:bc p B}:mk a d=mk B k↔Cg p a B:=⟨λe=>Quotient.exact e,λe=>Quotient.sound (s:=RD p) e⟩
def ex x:∃a,∃d:bc p a,x=mk a d:=by refine Quotient.inductionOn x<|λa=>?_;exact⟨a.1,a.2,J⟩
instance:Add (Fx p):=⟨λx y=>akM x y (λA B=>mk (A.1+B.1)<|A.2.add B.2)<|λ_ _ _ _ h k=>mk_eq.2<|Cg.add h k⟩
instance:Mul (Fx p):=⟨λx y=>akM x y (λA B=>mk (A.1*B.1)<|A.2.mul B.2)<|λ_ _ _ _ h k=>mk_eq.2<|Cg.mul h k⟩
instance:Neg (Fx p):=⟨λx=>akN x (λA=>mk (-A.1) A.2.neg)<|λ_ _ h=>mk_eq.2<|Cg.neg h⟩
instance:_root_.Sub (Fx p):=⟨λx y=>x+ -y⟩
instance:OfNat (Fx p) 0:=⟨mk 0<|bc.zero p⟩
instance:OfNat (Fx p) 1:=⟨mk 1<|bc.one p⟩
def Zq{a B}{d:bc p a}{k:bc p B}:mk a d+mk B k=mk (a+B) (d.add k):=rfl
def Zr{a B}{d:bc p a}{k:bc p B}:mk a d*mk B k=mk (a*B) (d.mul k):=rfl
def mk_congr{a B}(e:a=B)(d:bc p a)(k:bc p B):mk a d=mk B k:=mk_eq.2<|Cg.of_eq e
def add_comm(x a:Fx p):x+a=a+x:=by obtain⟨A,h,rfl⟩:=ex x;obtain⟨B,k,rfl⟩:=ex a;exact mk_congr (PS.add_comm A B) _ _
def add_assoc(x a d:Fx p):x+a+d=x+(a+d):=by obtain⟨A,h,rfl⟩:=ex x;obtain⟨B,k,rfl⟩:=ex a;obtain⟨C,l,rfl⟩:=ex d;exact mk_congr (PS.add_assoc A B C) _ _
def mul_comm(x a:Fx p):x*a=a*x:=by obtain⟨A,h,rfl⟩:=ex x;obtain⟨B,k,rfl⟩:=ex a;exact mk_congr (PS.mul_comm A B) _ _
def mul_assoc(x a d:Fx p):x*a*d=x*(a*d):=by obtain⟨A,h,rfl⟩:=ex x;obtain⟨B,k,rfl⟩:=ex a;obtain⟨C,l,rfl⟩:=ex d;exact mk_congr (PS.mul_assoc A B C) _ _
def mul_add(x a d:Fx p):x*(a+d)=x*a+x*d:=by obtain⟨A,h,rfl⟩:=ex x;obtain⟨B,k,rfl⟩:=ex a;obtain⟨C,l,rfl⟩:=ex d;exact mk_congr (PS.mul_add A B C) _ _
def add_mul(x d a:Fx p):(x+d)*a=x*a+d*a:=by rw[mul_comm,mul_add,mul_comm a x,mul_comm a d]
def zero_add(x:Fx p):0+x=x:=by obtain⟨A,h,rfl⟩:=ex x;exact mk_congr (PS.zero_add A) ((bc.zero p).add h) h
def add_zero(x:Fx p):x+0=x:=by rw[add_comm,zero_add]
def one_mul(x:Fx p):1*x=x:=by obtain⟨A,h,rfl⟩:=ex x;exact mk_congr (PS.one_mul A) ((bc.one p).mul h) h
def mul_one(x:Fx p):x*1=x:=by rw[mul_comm,one_mul]
def zero_mul(x:Fx p):0*x=0:=by obtain⟨A,h,rfl⟩:=ex x;exact mk_congr (PS.zero_mul A) ((bc.zero p).mul h)<|bc.zero p
def mul_zero(x:Fx p):x*0=0:=by rw[mul_comm,zero_mul]
def add_neg(x:Fx p):x+ -x=0:=by obtain⟨A,h,rfl⟩:=ex x;exact mk_congr (PS.add_neg A) (h.add h.neg)<|bc.zero p
def neg_add(x:Fx p): -x+x=0:=by rw[add_comm,add_neg]
def sub_def(x a:Fx p):x-a=x+ -a:=rfl
instance:Std.Associative (α:=Fx p) (·+·):=⟨add_assoc⟩
instance:Std.Commutative (α:=Fx p) (·+·):=⟨add_comm⟩
instance:Std.Associative (α:=Fx p) (·*·):=⟨mul_assoc⟩
instance:Std.Commutative (α:=Fx p) (·*·):=⟨mul_comm⟩
def add_left_cancel{x a d:Fx p}(e:x+a=x+d):a=d:=by have:=a6 (-x+·) e;simpa only[<-add_assoc,neg_add,zero_add]using this
def kM(x a:Fx p):x-a+a=x:=by rw[sub_def,add_assoc,neg_add,add_zero]
def uK(x a:Fx p):x+a-a=x:=by rw[sub_def,add_assoc,add_neg,add_zero]
def Dp{x a d:Fx p}(e:x+a=d):x=d-a:=by rw[<-e,uK]
def sub_eq{x a d:Fx p}(e:x=d+a):x-a=d:=by rw[e,uK]
def sub_self(x:Fx p):x-x=0:=add_neg x
def sub_zero(x:Fx p):x-0=x:=sub_eq (add_zero x).symm
def Dq{x a:Fx p}(d:x-a=0):x=a:=by rw[<-kM x a,d,zero_add]
def sub_mul(x d a:Fx p):(x-d)*a=x*a-d*a:=Dp (by rw[<-add_mul,kM])
def mul_sub(x a d:Fx p):x*(a-d)=x*a-x*d:=by rw[mul_comm,sub_mul,mul_comm a,mul_comm d]
def neg_mul(x a:Fx p): -x*a= -(x*a):=add_left_cancel (x:=x*a) (by rw[<-add_mul,add_neg,add_neg,zero_mul])
def mul_neg(x a:Fx p):x* -a= -(x*a):=by rw[mul_comm,neg_mul,mul_comm]
def neg_sub(x a:Fx p): -(x-a)=a-x:=add_left_cancel (x:=x-a) (by rw[add_neg,sub_def,sub_def];have:x+ -a+(a+ -x)=(x+ -x)+(-a+a):=fq;rw[this,add_neg,neg_add,add_zero])
def GR(x a d:Fx p):(x-a)+(a-d)=x-d:=by rw[sub_def,sub_def,sub_def];have:x+ -a+(a+ -d)=x+ -d+(-a+a):=fq;rw[this,neg_add,add_zero]
def Ll(x e a d:Fx p):(x+e)-(a+d)=(x-a)+(e-d):=sub_eq (by have:x-a+(e-d)+(a+d)=(x-a+a)+(e-d+d):=fq;rw[this,kM,kM])
instance:Dvd (Fx p):=⟨λa b=>∃w,b=w*a⟩
def dvd_refl(a:Fx p):a∣a:=⟨1,(one_mul a).symm⟩
def dvd_zero(a:Fx p):a∣0:=⟨0,(zero_mul a).symm⟩
def dvd_trans{a d e:Fx p}(f:a∣d)(k:d∣e):a∣e:=by obtain⟨w,rfl⟩:=f;obtain⟨v,rfl⟩:=k;exact⟨v*w,(mul_assoc v w a).symm⟩
def dvd_mul_left(a d:Fx p):a∣d*a:=⟨d,J⟩
def dvd_mul_right(a d:Fx p):a∣a*d:=⟨d,mul_comm a d⟩
def dI{a d}(f:a∣d)(e:Fx p):a∣e*d:=dvd_trans f<|dvd_mul_left d e
def kN{a d}(f:a∣d)(e:Fx p):a∣d*e:=dvd_trans f<|dvd_mul_right d e
def dvd_add{a d e:Fx p}(f:a∣d)(k:a∣e):a∣d+e:=by obtain⟨w,rfl⟩:=f;obtain⟨v,rfl⟩:=k;exact⟨w+v,(add_mul w v a).symm⟩
def dvd_neg{a d:Fx p}(e:a∣d):a∣-d:=by obtain⟨w,rfl⟩:=e;exact⟨-w,(neg_mul w a).symm⟩
def dvd_sub{a d e:Fx p}(f:a∣d)(k:a∣e):a∣d-e:=dvd_add f<|dvd_neg k
def wI{a d e:Fx p}(f:a∣d+e)(k:a∣d):a∣e:=by have:=dvd_sub f k;rwa[add_comm d e,uK]at this
def m9{a d e:Fx p}(f:a∣d-e):a∣e-d:=by rw[<-neg_sub];exact dvd_neg f
def og{a e f d:Fx p}(g:a∣e-f)(k:a∣f-d):a∣e-d:=by rw[<-GR e f d];exact dvd_add g k
def QQ{a f g d e:Fx p}(i:a∣f-g)(k:a∣d-e):a∣(f+d)-(g+e):=by rw[Ll];exact dvd_add i k
def qD{a g f d e:Fx p}(i:a∣g-f)(k:a∣d-e):a∣g*d-f*e:=by
 have:g*d-f*e=(g-f)*d+f*(d-e):=by rw[sub_mul,mul_sub,GR]
 rw[this];exact dvd_add (kN i d)<|dI k f
def o9(a d:Fx p):a∣d-d:=by rw[sub_self];exact dvd_zero a
def pk(a:Fx p):Y->Fx p
 |0=>1
 |n+1=>pk a n*a
def qE(a:Fx p):pk a 1=a:=one_mul a
def yv(a:Fx p)(m:Y):∀n,pk a (m+n)=pk a m*pk a n
 |0=>(mul_one _).symm
 |n+1=>by rw[<-pW,pk,pk,yv a m n,mul_assoc]
def tj(a:Fx p)(m:Y):∀n,pk a (m*n)=pk (pk a m) n
 |0=>rfl
 |n+1=>by rw[Nat.mul_succ,yv,pk,tj a m n]
def tk(a d:Fx p):∀n,pk (a*d) n=pk a n*pk d n
 |0=>(one_mul 1).symm
 |n+1=>by rw[pk,pk,pk,tk a d n];ac_rfl
def AG:∀n,pk (1:Fx p) n=1
 |0=>rfl
 |n+1=>by rw[pk,AG n,one_mul]
def Zs{n}(a:0<n):pk (0:Fx p) n=0:=by obtain⟨m,rfl⟩:∃m,n=m+1:=⟨n-1,O⟩;rw[pk,mul_zero]
def Ho{a d e:Fx p}(f:a∣d-e):∀n,a∣pk d n-pk e n
 |0=>o9 a 1
 |n+1=>qD (Ho f n) f
def LP{a:PS}(d:bc p a):∀n(k:bc p (pw a n)),mk (pw a n) k=pk (mk a d) n
 |0,_=>rfl
 |n+1,k=>by
  have e:bc p (pw a n):=by
   clear k;induction n with
   |zero=>exact bc.one p
   |succ n f=>exact f.mul d
  rw[pk,<-LP d n e,Zr];rfl
def LQ{a:PS}(d:bc p a):∀n,bc p (pw a n)
 |0=>bc.one p
 |n+1=>(LQ d n).mul d
def K(a:G):Fx p:=mk (PS.K a)<|bc.K p a
def yH k:bc p (PS.X k):=⟨_,aiW p k⟩
def X:Fx p:=mk (PS.X 1)<|yH 1
def fx(a:V G):Fx p:=mk (ps a)<|bc.ps p a
def eW a d:(K (a*d):Fx p)=K a*K d:=mk_congr (PS.yn a d) _ _
def o4:(K 0:Fx p)=0:=mk_congr PS.o4 _ _
def oh:(K 1:Fx p)=1:=rfl
def AS{a b}(d:a%p=b%p):(K a:Fx p)=K b:=mk_eq.2<|Cg.K d
def QT{a d}(e:(K a:Fx p)=K d):a%p=d%p:=(mk_eq.1 e).at 0
def Zt(a:G):∀n,pk (K a:Fx p) n=K (a^n)
 |0=>by rw[n7,oh];rfl
 |n+1=>by rw[pk,Zt a n,fb,eW]
def jL:(fx []:Fx p)=0:=mk_congr Ay _ _
def AT:(fx [1]:Fx p)=1:=mk_congr K3 _ _
def RE a:(fx [a]:Fx p)=K a:=mk_congr (PS.ext λi=>by
 cases i with
 |zero=>rfl
 |succ i=>rfl) _ _
def akO d a:ps (d::a)=PS.K d+PS.X 1*ps a:=PS.ext λi=>by
 rw[PS.eI,PS.mq];cases i with
 |zero=>rw[w O];show d=PS.K d 0+0;rw[PS.K,ao J];omega
 |succ i=>rw[ao O];show E a i 0=PS.K d (i+1)+E a i 0;rw[PS.K,w O];omega
def Hp d a:(fx (d::a):Fx p)=K d+X*fx a:=mk_congr (akO d a) _ _
def LR{a d}(e:Cg p (ps a) (ps d)):(fx a:Fx p)=fx d:=mk_eq.2 e
def uY a d:(fx (cH a d p):Fx p)=fx a*fx d:=mk_eq.2<|Dd a d p
def DD a:(fx (aK a):Fx p)=fx a:=mk_congr (o7 a) _ _
def Zu a:(fx (md p a):Fx p)=fx a:=mk_eq.2<|XO p a
def RF a d:(fx (aK<|fG a d p):Fx p)=fx a-fx d:=(show mk _ (bc.ps p _)=mk _ ((bc.ps p a).sub<|bc.ps p d)from mk_eq.2<|XS a d p).trans<|mk_congr (PS.sub_def _ _) _<|(bc.ps p a).add (bc.ps p d).neg
def tx{a d}(e:bs p a)(f:bs p d)(g:(fx a:Fx p)=fx d):a=d:=K2 e f<|mk_eq.1 g
def Zv{a d}(e:(fx a:Fx p)=fx d) i:E a i 0%p=E d i 0%p:=(mk_eq.1 e).at i
def iY(f:0<p)(d:Fx p):∃a,bs p a/\fx a=d:=by
 obtain⟨d,⟨n,k⟩,rfl⟩:=ex d;have g:∀i,E ((cd n).map λi=>d i%p) i 0=if i<n then d i%p else 0:=λi=>by
  rw[aM,iV];by_cases e:i<n
  .rw[ao e,kK e];rfl
  .rw[w e,jP bV];rfl
 refine⟨aK<|(cd n).map λi=>d i%p,kg f<|λi=>?_,?_⟩
 .rw[g];split
  .exact⟨ij _ O,ik _ f⟩
  .exact⟨gK _,f⟩
 .rw[DD];refine mk_eq.2<|Cg.of λi=>?_;rw[cy,g];split
  .rw[lM]
  .rw[k i O,gA]
open Classical in
noncomputable def sz(d:Fx p):Y:=if h:∃a,bs p a/\fx a=d then Z (AU h)else 0
def cO{a}(d:bs p a):sz (fx a:Fx p)=Z a:=by have h:∃b,bs p b/\(fx b:Fx p)=fx a:=⟨a,d,J⟩;unfold sz;rw[dif_pos h];have e:=uL h;rw[tx e.1 d e.2]
def yI{n}(i:0<p){d}(f:bc p d)(k:Dl p n d):sz (mk d f)<=n:=by let ⟨a,g,e⟩:=iY i<|mk d f;rw[<-e,cO g];exact g.len<|k.cg (mk_eq.1 e).symm
def Ln(d:0<p) a:sz (fx a:Fx p)<=Z a:=yI d _<|kf p a
def kh(a:0<p):sz (0:Fx p)=0:=by rw[<-jL,cO<|qA a];rfl
def QV(d:0<p) a:sz (K a:Fx p)<=1:=yI d _<|Qk p a
def QW(f:0<p){d:Fx p}(e:sz d=0):d=0:=by obtain⟨a,g,rfl⟩:=iY f d;rw[cO g]at e;rw[fE e,jL]
def eO(d:0<p){a:Fx p}(f:a≠0):0<sz a:=by
 rcases oW (sz a)with e|e
 .exact absurd (QW d e) f
 .exact e
def QX(d:0<p)(e B:Fx p):sz (e+B)<=max (sz e) (sz B):=by obtain⟨a,f,rfl⟩:=iY d e;obtain⟨b,g,rfl⟩:=iY d B;rw[cO f,cO g];exact yI d _<|((kf p a).le O).add<|(kf p b).le O
def QY(e:0<p)(d:Fx p):sz (-d)<=sz d:=by obtain⟨a,f,rfl⟩:=iY e d;rw[cO f];exact yI e _ (kf p a).neg
def GU(d:0<p)(a B:Fx p):sz (a-B)<=max (sz a) (sz B):=by have e:=QX d a<| -B;have f:=QY d B;rw[sub_def];omega
end Fx
structure bp(p:Y):Prop where
 hp:dy p
 le:p<=2147483648
def bp.pos{p}(H:bp p):(0:G)<(p:G):=AW
def bp.one{p}(H:bp p):(1:G)%(p:G)=1:=by have:=H.hp.1;exact gx T O
namespace Fx
variable{p:Y}
def pj(H:bp p):(1:Fx p)≠0:=λe=>by rw[<-oh,<-o4]at e;have:=QT e;rw[H.one,gA]at this;cases this
def pa(H:bp p){c}(a:c%(p:G)≠0):∃d,(K d*K c:Fx p)=1:=by have f:=ij c (show(p:G)≠0 by have:=H.pos;omega);have g:=ik c H.pos;have e:(K c:Fx p)=K (c%(p:G)):=AS (by rw[lM]);refine⟨((iB (af<|c%(p:G)) (af ((p:Y):G)):Y):G),?_⟩;rw[e,<-eW,<-oh];refine AS ?_;rw[et,Df H.hp H.le f g a,H.one]
def uM(H:bp p){a}(g:a%(p:G)≠0):(K a:Fx p)≠0:=λe=>by let ⟨d,f⟩:=pa H g;rw[e,mul_zero]at f;exact pj H f.symm
def dK(H:bp p){d B:Fx p}(s:d≠0)(t:B≠0):sz (d*B)+1=sz d+sz B:=by
 obtain⟨a,i,rfl⟩:=iY H.pos d;obtain⟨b,k,rfl⟩:=iY H.pos B;have u:=eO H.pos s;have v:=eO H.pos t;rw[cO i]at u⊢;rw[cO k]at v⊢;obtain⟨n,l⟩:∃n,Z a=n+1:=⟨Z a-1,O⟩;obtain⟨m,o⟩:∃m,Z b=m+1:=⟨Z b-1,O⟩;have f:=kf (p:G) a;have g:=kf (p:G) b;rw[l]at f⊢;rw[o]at g⊢;have x:=yI H.pos ((bc.ps (p:G) a).mul<|bc.ps p b)<|f.mul g;rw[<-uY,cO<|mr H.pos a b];have q:=Az H.hp f g (i.top l)<|k.top o;have C:=(Dd a b (p:G)).at (n+m);have F:Z (cH a b (p:G))<=n+(m+1):=by have e:sz (fx (cH a b p):Fx p)=Z (cH a b p):=cO<|mr H.pos a b;rw[uY]at e;rw[<-e];exact x
 by_cases e:Z (cH a b (p:G))<=n+m
 .exfalso;rw[<-C,cy,eN _ e,gA]at q;exact q J
 .omega
def o6(H:bp p){a B:Fx p}(d:a≠0)(f:B≠0):a*B≠0:=λe=>by have h:=dK H d f;rw[e,kh H.pos]at h;have g:=eO H.pos d;have i:=eO H.pos f;omega
def yx(H:bp p){A B C:Fx p}(a:A≠0)(d:B*A=C*A):B=C:=by
 refine Dq ?_;refine eX λe=>?_
 exact o6 H e a (by rw[sub_mul,d,sub_self])
def qF(H:bp p):sz (1:Fx p)=1:=by have a:=QV H.pos 1 (p:=(p:G));have d:=eO H.pos<|pj H;rw[oh]at a;omega
def Dt(H:bp p){f:Fx p}(g:sz f=1):∃d:G,d%(p:G)≠0/\f=K d:=by
 obtain⟨a,e,rfl⟩:=iY H.pos f;rw[cO e]at g;match a,g,e with
 |[d],_,e=>exact⟨d,e.top (n:=0) J,RE d⟩
def uN(H:bp p){a}(e:sz a=1):∃B:Fx p,B*a=1:=by obtain⟨c,f,rfl⟩:=Dt H e;let ⟨d,g⟩:=pa H f;exact⟨_,g⟩
def wK(H:bp p){a B:Fx p}(d:B*a=1):sz a=1:=by
 have f:a≠0:=λe=>pj H (by rw[<-d,e,mul_zero])
 have g:B≠0:=λe=>pj H (by rw[<-d,e,zero_mul])
 have i:=dK H g f;rw[d,qF H]at i;have k:=eO H.pos f;have l:=eO H.pos g;omega
def dvd_one(H:bp p){a:Fx p}(d:a∣1):sz a=1:=by let ⟨w,hw⟩:=d;exact wK H hw.symm
def iK(H:bp p){a B:Fx p}(g:a∣B)(d:B≠0):sz a<=sz B:=by
 obtain⟨w,rfl⟩:=g;have f:w≠0:=λe=>d GV
 have i:a≠0:=λe=>d (by rw[e,mul_zero])
 have k:=dK H f i;have pw:=eO H.pos f;omega
def uO(H:bp p){A B:Fx p}(a:A∣B)(d:sz B<sz A):B=0:=
 eX λe=>by have:=iK H a e;omega
def QZ(H:bp p) f{B:Fx p}(l:B≠0):∃Q g,f=Q*B+g/\sz g<sz B:=by
 obtain⟨a,i,rfl⟩:=iY H.pos f;obtain⟨b,k,rfl⟩:=iY H.pos B;have d:b≠[]:=λe=>l (by rw[e,jL])
 let ⟨d1,d2,d3,d4,d5,d6⟩:=lq H.hp H.le i.1 k d;refine⟨fx (aL a b p).1,fx (aL a b p).2,mk_eq.2 d1,?_⟩;rw[cO k,cO<|d5 i];have:=cv.2 d;omega
def AH(H:bp p):∀(n:Y)(d B:Fx p),sz B<n->∃f U a,f∣d/\f∣B/\f=U*d+a*B
 |0,_,_,l=>by omega
 |n+1,d,B,l=>by
  by_cases e:B=0
  .subst e;exact⟨d,1,0,dvd_refl d,dvd_zero d,by rw[one_mul,mul_zero,add_zero]⟩
  .let ⟨Q,g,i,h2⟩:=QZ H d e;let ⟨f,U,a,k,m,o⟩:=AH H n B g O;refine⟨f,a,U-a*Q,?_,k,?_⟩
   .rw[i];exact dvd_add (dI k Q) m
   .rw[o,i,mul_add,sub_mul];have:a*(Q*B)+a*g+(U*B-a*Q*B)=(U*B-a*Q*B+a*Q*B)+a*g:=fq;rw[this,kM]
def Co(a B:Fx p):Prop:=∃U V,U*a+V*B=1
def Co.symm{d B:Fx p}(a:Co d B):Co B d:=by let ⟨U,V,a⟩:=a;exact⟨V,U,by rw[add_comm];exact a⟩
def akP{a f}:Co (fx a:Fx p) (fx f)↔wD p (ps a) (ps f):=by
 constructor
 .rintro⟨U,V,h⟩;obtain⟨U,d,rfl⟩:=ex U;obtain⟨V,e,rfl⟩:=ex V;exact⟨U,V,d,e,mk_eq.1 (h:mk _ ((d.mul<|bc.ps p a).add<|e.mul<|bc.ps p f)=mk 1 (bc.one p))⟩
 .rintro⟨U,V,d,e,h⟩;exact⟨mk U d,mk V e,mk_eq.2 h⟩
def Co.dvd{a B C:Fx p}(d:Co a B)(k:a∣B*C):a∣C:=by
 let ⟨U,V,d⟩:=d;have:C=C*U*a+V*(B*C):=by have e:C*(U*a)+C*(V*B)=C*U*a+V*(B*C):=fq;rw[<-e,<-mul_add,d,mul_one]
 rw[this];exact dvd_add (dvd_mul_left a _)<|dI k V
def Co.akQ{a B C:Fx p}(e:Co a B)(d:a∣C)(kb:B∣C):a*B∣C:=by obtain⟨w,rfl⟩:=kb;rw[mul_comm w B]at d;obtain⟨v,rfl⟩:=e.dvd d;exact⟨v,fq⟩
def Co.mul{a B C:Fx p}(d:Co a B)(k:Co a C):Co a (B*C):=by
 let ⟨U,V,d⟩:=d;let ⟨e,f,k⟩:=k;refine⟨U*e*a+U*(f*C)+V*B*e,V*f,?_⟩;have:(U*a+V*B)*(e*a+f*C)=1:=by rw[d,k,one_mul]
 rw[<-this];simp only[mul_add,add_mul];ac_rfl
def Co.unit{a B:Fx p}(H:bp p)(d:Co a B)(k:a∣B):sz a=1:=by let ⟨U,V,d⟩:=d;exact dvd_one H<|d▸dvd_add (dvd_mul_left a U) (dI k V)
def bl(Q:Fx p):Prop:=2<=sz Q/\∀A B,Q=A*B->sz A=1\/sz B=1
def bl.ne{Q:Fx p}(H:bp p)(a:bl Q):Q≠0:=λe=>by have:=a.1;rw[e,kh H.pos]at this;omega
def bl.or{Q}(H:bp p)(f:bl Q)(a:Fx p):Q∣a\/Co Q a:=by
 let ⟨D,U,V,g,h2,i⟩:=AH H _ Q a<|dJ _;let ⟨w,hw⟩:=g;rcases f.2 _ _ hw with e|e
 .let ⟨B,d⟩:=uN H e;left;refine dvd_trans ⟨B,?_⟩ h2;rw[hw,<-mul_assoc,d,one_mul]
 .let ⟨B,d⟩:=uN H e;right;refine⟨B*U,B*V,?_⟩;rw[<-d,i,mul_add,mul_assoc,mul_assoc]
def bl.AI{Q:Fx p}(H:bp p)(a:bl Q):¬Q∣1:=λe=>by have:=dvd_one H e;have:=a.1;omega
def bl.na{Q}(H:bp p)(d:bl Q){a B:Fx p}(k:Q∣a*B):Q∣a\/Q∣B:=by
 rcases d.or H a with e|e
 .exact .inl e
 .exact .inr<|e.dvd k
def rR(H:bp p):∀(n:Y)(a:Fx p),sz a<n->2<=sz a->∃Q,bl Q/\Q∣a
 |0,_,m,_=>by omega
 |n+1,a,m,h2=>by
  by_cases f:bl a
  .exact⟨a,f,dvd_refl a⟩
  .have:∃B C,a=B*C/\¬(sz B=1\/sz C=1):=eX λo=>f ⟨h2,λB C e=>eX λg=>o ⟨B,C,e,g⟩⟩
   let ⟨B,C,e,g⟩:=this;have i:a≠0:=λe=>by rw[e,kh H.pos]at h2;omega
   have k:B≠0:=λd=>i (by rw[e,d,zero_mul])
   have l:C≠0:=λd=>i (by rw[e,d,mul_zero])
   have q:=dK H k l;rw[<-e]at q;have u:=eO H.pos k;have v:=eO H.pos l;let ⟨Q,s,t⟩:=rR H n B O O;exact⟨Q,s,by rw[e];exact kN t C⟩
def Du(H:bp p){a B:Fx p}(g:a≠0)(i:∀Q,bl Q->Q∣a->Q∣B->False):Co a B:=by
 let ⟨D,U,V,d,h2,k⟩:=AH H _ a B<|dJ _;have l:D≠0:=λe=>by let ⟨w,hw⟩:=d;rw[e,mul_zero]at hw;exact g hw
 have o:=eO H.pos l;by_cases e:sz D=1
 .let ⟨C,m⟩:=uN H e;refine⟨C*U,C*V,?_⟩;rw[<-m,k,mul_add,mul_assoc,mul_assoc]
 .let ⟨Q,n,f⟩:=rR H _ D (dJ _) O;exact(i Q n (dvd_trans f d)<|dvd_trans f h2).elim
def Gv(H:bp p)(a B:Fx p):pk (a+B) p=pk a p+pk B p:=by obtain⟨a,d,rfl⟩:=ex a;obtain⟨B,e,rfl⟩:=ex B;rw[Zq,<-LP (d.add e) _ (LQ (d.add e) _),<-LP d _ (LQ d _),<-LP e _ (LQ e _),Zq];exact mk_eq.2<|H.hp.Gv a B
def Da(H:bp p) d:pk (K d:Fx p) p=K d:=by have f:=ij d (show(p:G)≠0 by have:=H.pos;omega);let ⟨a,g⟩:=Ao f;have e:(K d:Fx p)=K (a:G):=AS (by rw[<-g,lM]);rw[e,Zt];exact AS<|H.hp.Da a
def LS(H:bp p)(a B:Fx p):∀i,pk (a+B) (p^i)=pk a (p^i)+pk B (p^i)
 |0=>by simp only[oY,qE]
 |i+1=>by rw[fp,tj,tj,tj,LS H a B i,Gv H]
def RH(H:bp p)(a:G):∀i,pk (K a:Fx p) (p^i)=K a
 |0=>qE _
 |i+1=>by rw[fp,tj,RH H a i,Da H]
def ev:V (Fx p)->Fx p->Fx p
 |[],_=>1
 |d::cs,a=>d+a*ev cs a
def Zw(a:Fx p):∀(e:V (Fx p))(f:Fx p),∃g:V (Fx p),Z g=Z e/\∀d,ev (f::e) d=ev (f::e) a+(d-a)*ev g d
 |[],f=>⟨[],J,λd=>by show f+d*1=f+a*1+(d-a)*1;rw[mul_one,mul_one,mul_one,add_assoc,add_comm a,kM]⟩
 |i::e,f=>by let ⟨g,h1,h2⟩:=Zw a e i;refine⟨ev (i::e) a::g,yA,λd=>?_⟩;show f+d*ev (i::e) d=f+a*ev (i::e) a+(d-a)*(ev (i::e) a+d*ev g d);rw[h2 d];generalize ev (i::e) a=w;generalize ev g d=v;rw[mul_add,mul_add,add_assoc f,<-add_assoc (a*w),<-add_mul a,add_comm a,kM];congr 2;ac_rfl
def roots(H:bp p){Q:Fx p}(l:bl Q):∀(f:V (Fx p))(g:V (Fx p)),Z f<Z g->(∀d∈g,Q∣ev f d)->g.Pairwise (λa s=>¬Q∣a-s)->False
 |_,[],i,_,_=>by simp at i
 |[],d::_,_,i,_=>l.AI H<|i d ax
 |t::f,o::g,hl,i,hp=>by
  let ⟨ds,v,h2⟩:=Zw o f t;let ⟨m,n⟩:=jr.1 hp;have u:=i o ax;have k:Z ds<Z g:=by simp only[gQ]at hl;omega
  refine roots H l ds g k (λd hy=>?_) n;have q:=i d tq;rw[h2 d]at q;rcases l.na H (wI q u)with e|e
  .exact absurd (m9 e)<|m d hy
  .exact e
termination_by f=>Z f
decreasing_by simp only[gQ];omega
def Zx(a:Fx p):∀m,ev (bg m 0) a=pk a m
 |0=>rfl
 |m+1=>by rw[xx,ev,Zx a m,zero_add,pk,mul_comm]
def akR m(a:Fx p):ev (0:: -1::bg m 0) a=pk a (m+2)-a:=by rw[ev,ev,Zx,zero_add,mul_add,mul_neg,mul_one,pk,pk,sub_def,add_comm];congr 1;ac_rfl
def nc(p:Y):Y->Y->V G
 |0,_=>[]
 |n+1,k=>((k%p:Y):G)::nc p n (k/p)
def Zy(p:Y):∀n k,Z (nc p n k)=n
 |0,_=>rfl
 |n+1,k=>by rw[nc,gQ,Zy p n]
def LU{p:Y}(a:0<p):∀n k l,k<p^n->l<p^n->(∀i,E (nc p n k) i 0%(p:G)=E (nc p n l) i 0%(p:G))->k=l
 |0,k,l,d,e,_=>by rw[oY]at d e;omega
 |n+1,k,l,d,e,f=>by
  have g:=f 0;simp only[nc,List.getD_cons_zero]at g;have m:k%p=l%p:=by have:=fg k a;have:=fg l a;rw[gx O O,gx O O]at g;omega
  have o:=LU a n (k/p) (l/p) (xO<|by rw[gO,<-fp];exact d) (xO<|by rw[gO,<-fp];exact e) (λi=>by simpa only[nc,NN]using f (i+1));rw[<-qh k p,<-qh l p,m,o]
def Zz(H:bp p){Q:Fx p}{i:Y}(a:Q∣pk X (p^i)-X):∀l:V G,Q∣pk (fx l) (p^i)-fx l
 |[]=>by rw[jL,Zs<|iA AW,sub_self];exact dvd_zero Q
 |d::l=>by rw[Hp,LS H,RH H,tk];exact QQ (o9 Q _)<|qD a<|Zz H a l
def ZA(H:bp p){Q:Fx p}(l:bl Q){i}(n:0<i)(F:i+1<sz Q):¬Q∣pk X (p^i)-X:=λh=>by
 have o:=H.hp.1;have d:0<p:=O;have q:2<=p^i:=bQ o (by rw[<-Nat.pow_one p,<-Dc,iT];exact fh d n);have s:p^i<p^(i+1):=Re O O;obtain⟨m,e⟩:∃m,p^i=m+2:=⟨p^i-2,O⟩;refine roots H l (0:: -1::bg m 0) ((cd<|p^i+1).map λk=>fx<|nc p (i+1) k) (by simp[e]) (λy t=>?_) ?_
 .rw[akR,<-e];obtain⟨k,_,rfl⟩:=je.1 t;exact Zz H h _
 .refine DE.2<|LV ?_ Iw;intro a b f g u v;have f:=oI.1 f;have g:=oI.1 g;have x:=uO H v (by have K:=GU H.pos (fx (nc p (i+1) a):Fx p)<|fx<|nc p (i+1) b;have B:=Ln H.pos<|nc p (i+1) a;have C:=Ln H.pos<|nc p (i+1) b;rw[Zy]at B C;omega);have:=LU d (i+1) a b O O<|λj=>Zv (Dq x) j;omega
end Fx
namespace Fx
variable{p:Y}
def pD(F:Fx p):Prop:=∀Q,bl Q->¬Q*Q∣F
def pD.of_dvd{F a:Fx p}(d:pD F)(k:a∣F):pD a:=λQ e f=>d Q e<|dvd_trans f k
def wL{a B C d:Fx p}(e:a∣B)(k:C∣d):a*C∣B*d:=by obtain⟨w,rfl⟩:=e;obtain⟨v,rfl⟩:=k;exact⟨w*v,fq⟩
def uQ(H:bp p){a}(e:a%(p:G)≠0):sz (K a:Fx p)=1:=by let ⟨d,f⟩:=pa H e;exact wK H f
end Fx
def pE(a:PS):PS:=λi=>((i:G)+1)*a (i+1)
def akS{p}{a B}(d:Cg p a B):Cg p (pE a) (pE B):=Cg.of λi=>by show((i:G)+1)*a (i+1)%p=((i:G)+1)*B (i+1)%p;rw[o5,d.at,<-o5]
def wW{p}{d}(a:bc p d):bc p (pE d):=by let ⟨n,a⟩:=a;exact⟨n,λi e=>KW<|a (i+1) O⟩
def lP(p:Y)(a:V G)(k:Y):V G:=(cd k).map λj=>E a (j*p) 0
def AX(p:Y)(a:V G):PS:=λi=>if i%p=0 then E a (i/p) 0 else 0
namespace Fx
variable{p:Y}
def bt(a:Fx p):Fx p:=akN a (λa=>mk (pE a.1)<|wW a.2)<|λ_ _ h=>mk_eq.2<|akS h
def GW(x a:Fx p):bt (x+a)=bt x+bt a:=by obtain⟨A,h,rfl⟩:=ex x;obtain⟨B,k,rfl⟩:=ex a;exact mk_congr (PS.ext λi=>by show((i:G)+1)*(A (i+1)+B (i+1))=_;rw[nq];rfl) _ _
def Dv a:bt (K a:Fx p)=0:=mk_congr (PS.ext λi=>by show((i:G)+1)*PS.K a (i+1)=0;rw[PS.K,w O,gy]) _ _
def Q1:bt (0:Fx p)=0:=by have h:=Dv (p:=p) 0;rwa[o4]at h
def GX a(x:Fx p):bt (K a*x)=K a*bt x:=by obtain⟨A,h,rfl⟩:=ex x;exact mk_congr (PS.ext λi=>by show((i:G)+1)*(PS.K a*A) (i+1)=(PS.K a*pE A) i;rw[PS.eW,PS.eW,pE,Int.mul_left_comm]) (wW<|(bc.K p a).mul h)<|(bc.K p a).mul<|wW h
def GY(x:Fx p):bt (X*x)=x+X*bt x:=by
 obtain⟨A,h,rfl⟩:=ex x;exact mk_congr (PS.ext λi=>by
  show((i:G)+1)*(PS.X 1*A) (i+1)=A i+(PS.X 1*pE A) i;rw[PS.mq,PS.mq,ao O,eh];cases i with
  |zero=>simp
  |succ i=>
   rw[ao O,eh,pE,mJ,jR,ux];rfl) (wW<|(yH 1).mul h) (h.add<|(yH 1).mul<|wW h)
def GZ(B:Fx p):∀a:V G,bt (fx a*B)=bt (fx a)*B+fx a*bt B
 |[]=>by rw[jL,zero_mul,Q1,zero_mul,zero_mul,zero_add]
 |e::a=>by have d:=GZ B a;rw[Hp,add_mul,GW,GX,mul_assoc,GY,d,GW,Dv,zero_add,GY];simp only[add_mul,mul_add];ac_rfl
def uR(H:bp p)(d B:Fx p):bt (d*B)=bt d*B+d*bt B:=by obtain⟨a,_,rfl⟩:=iY H.pos d;exact GZ B a
def G0(H:bp p)(Q:Fx p):∀e,pk Q e∣bt (pk Q<|e+1)
 |0=>⟨bt<|pk Q 1,(mul_one _).symm⟩
 |e+1=>by show pk Q e*Q∣bt (pk Q (e+1)*Q);rw[uR H];exact dvd_add (wL (G0 H Q e)<|dvd_refl Q)<|dvd_mul_right _ _
def Lo(H:bp p)(d:Fx p):sz (bt d)<=sz d-1:=by obtain⟨a,e,rfl⟩:=iY H.pos d;rw[cO e];exact yI H.pos (wW<|bc.ps p a)<|λi f=>KW<|kf (p:G) a (i+1) O
def mult(H:bp p){Q:Fx p}(d:bl Q):∀(n:Y)(F:Fx p),sz F<n->F≠0->∃e a,F=pk Q e*a/\¬Q∣a
 |0,_,a,_=>by omega
 |n+1,F,a,l=>by
  by_cases f:Q∣F
  .obtain⟨i,rfl⟩:=f;have k:i≠0:=λe=>l GV
   have o:=dK H k<|d.ne H;have q:=d.1;obtain⟨e,g,rfl,m⟩:=mult H d n i O k;exact⟨e+1,g,by rw[pk];ac_rfl,m⟩
  .exact⟨0,F,(one_mul F).symm,f⟩
def AY(H:bp p){Q:Fx p}(a:Q≠0):∀e,pk Q e≠0
 |0=>pj H
 |e+1=>o6 H (AY H a e) a
def ZB(H:bp p){F D W U V:Fx p}(k:F≠0)(d:F=W*D)(l:D=U*F+V*bt F):pD W:=by
 intro Q f g;let ⟨e,h,a,i⟩:=mult H f _ F (dJ _) k;cases e with
 |zero=>
  refine i ?_
  have a:F=1*h:=a
  rw[one_mul]at a
  rw[<-a,d]
  exact kN (dvd_trans (dvd_mul_left Q Q) g) D
 |succ e=>
  have m:pk Q e∣F:=by rw[a,pk];exact kN (dvd_mul_right _ _) h
  have n:pk Q e∣bt F:=by rw[a,uR H];exact dvd_add (kN (G0 H Q e) h)<|kN (by rw[pk];exact dvd_mul_right _ _)<|bt h
  have o:pk Q e∣D:=by rw[l];exact dvd_add (dI m U)<|dI n V
  have q:Q*Q*pk Q e∣F:=by rw[d];exact wL g o
  let ⟨v,s⟩:=q
  refine i ⟨v,?_⟩
  refine yx H (AY H (f.ne H)<|e+1) ?_
  rw[mul_comm h,<-a,s,pk];ac_rfl
def ZC:∀n,pk (X:Fx p) n=mk (PS.X n) (yH n)
 |0=>rfl
 |n+1=>by rw[pk,ZC n];exact mk_congr (PS.KU n 1).symm ((yH n).mul<|yH 1)<|yH<|n+1
def ZD(d:0<p) a:bc p (AX p a):=⟨Z a*p,λi e=>by
 unfold AX;split
 .rw[eN a ((Nat.le_div_iff_mul_le d).2 e),gA]
 .exact gA _⟩
def ZE(H:bp p)(d:0<p):∀a:V G,pk (fx a) p=mk (AX p a) (ZD d a)
 |[]=>by rw[jL,Zs d];exact mk_congr (PS.ext λi=>by unfold AX;split<;>rfl) (bc.zero p) _
 |g::a=>by
  rw[Hp,Gv H,Da H,tk,ZE H d a,ZC];refine mk_congr (PS.ext λi=>?_) ((bc.K p g).add<|(yH p).mul<|ZD d a) _;rw[PS.eI,PS.mq];by_cases e:p<=i
  .obtain⟨f,rfl⟩:∃f,i=f+p:=⟨i-p,O⟩;rw[ao e,eh,PS.K,w O,Ap];unfold AX;rw[Nat.add_mod_right,Nat.add_div_right _ d];rfl
  .rw[w e,qm,PS.K];unfold AX;rw[n5 O,Aj O];rfl
def cP(H:bp p){a}(f:bt (fx a:Fx p)=0){k}(s:Z a<=k*p):(fx a:Fx p)=pk (fx<|lP p a k) p:=by
 have g:0<p:=AW;have l:=mk_eq.1 (f:mk (pE<|ps a) (wW<|bc.ps p a)=mk 0 (bc.zero p));rw[ZE H g];refine mk_eq.2<|Cg.of λi=>?_;unfold AX;by_cases e:i%p=0
 .rw[ao e];congr 1;have m:i/p*p=i:=by have:=qh i p;rw[gO];omega
  unfold lP;by_cases n:i/p<k
  .rw[aM,iV,kK n];show _=E a (i/p*p) 0;rw[m];rfl
  .rw[eN (List.map _ _) bV,cy,eN a];have:k*p<=i/p*p:=ef p O;omega
 .rw[w e,gA];cases i with
  |zero=>rw[Nat.zero_mod]at e;exact absurd J e
  |succ i=>
   have d:=l.at i
   rw[PS.lL,gA]at d
   refine eX λo=>?_
   refine H.hp.o6 (a:=(i:G)+1) (λq=>e ?_) o d
   have:((i+1:Y):G)%(p:G)=0:=by rw[wh];exact q
   omega
structure Mon(p:Y)(a:V G):Prop where
 c:bs p a
 ne:a≠[]
 one:a.getD (a.length-1) 0=1
def Mon.pos{a}(d:Mon p a):1<=Z a:=cv.2 d.ne
def Mon.jM(H:bp p){a}(d:Mon p a):(fx a:Fx p)≠0:=λe=>by rw[<-jL]at e;exact d.ne<|tx d.c (qA H.pos) e
def RI(H:bp p){a d}(o:Mon p a)(i:Mon p d)(F:Z d<=Z a):Mon p (aL a d p).1:=by
 let ⟨d1,d2,d3,d4,d5,d6⟩:=lq H.hp H.le o.c.1 i.c i.ne;have C:=i.pos;obtain⟨n,q⟩:∃n,Z d=n+1:=⟨Z d-1,O⟩;obtain⟨m,x⟩:∃m,Z a=m+n+1:=⟨Z a-1-n,O⟩;have k:(aL a d p).1.length=m+1:=O;have s:=kf (p:G) (aL a d p).1;have t:=kf (p:G) d;rw[k]at s;rw[q]at t;have l:=d1.at<|m+n;have f:=o.one;have g:=i.one;rw[x,eh]at f;rw[q,eh]at g;have B:(ps (aL a d p).2) (m+n)=0:=by rw[cy];exact eN _ O
 rw[PS.eI,B,qm,s.top t,cy,cy,cy,f,g,mm]at l;have u:=d2 m;rw[H.one,gx u.1 u.2]at l;have v:(aL a d p).1.getD ((aL a d p).1.length-1) 0=1:=by rw[k,eh];exact l.symm
 refine⟨⟨d2,.inr<|by rw[v];decide⟩,λe=>by rw[e]at k;simp at k,v⟩
def LW(H:bp p){a d}(g:bs p a)(i:bs p d)(f:d≠[]):(aL a d p).2=[]↔(fx d:Fx p)∣fx a:=by
 let ⟨d1,d2,d3,d4,d5,d6⟩:=lq H.hp H.le g.1 i f;have e:(fx a:Fx p)=fx (aL a d p).1*fx d+fx (aL a d p).2:=mk_eq.2 d1;have l:=cv.2 f;constructor
 .intro h;rw[e,h,jL,add_zero];exact dvd_mul_left _ _
 .intro h;rw[e]at h;have k:=uO H (wI h<|dvd_mul_left _ _) (by rw[cO (d5 g),cO i];omega);rw[<-jL]at k;exact tx (d5 g) (qA H.pos) k
def yC(H:bp p){a d}(g:bs p a)(i:bs p d)(f:d≠[])(k:(fx d:Fx p)∣fx a):(fx a:Fx p)=fx (aL a d p).1*fx d:=by let ⟨d1,d2,d3,d4,d5,d6⟩:=lq H.hp H.le g.1 i f;have e:(fx a:Fx p)=fx (aL a d p).1*fx d+fx (aL a d p).2:=mk_eq.2 d1;rwa[(LW H g i f).2 k,jL,add_zero]at e
def LX(H:bp p){a d}(g:bs p a)(i:bs p d)(f:d≠[]):(fx d:Fx p)∣fx (aL a d p).2-fx a:=by let ⟨d1,_⟩:=lq H.hp H.le g.1 i f;have e:(fx a:Fx p)=fx (aL a d p).1*fx d+fx (aL a d p).2:=mk_eq.2 d1;refine m9 ?_;rw[e,uK];exact dvd_mul_left _ _
def ZF(H:bp p):∀(k:Y)(f g:V G),bs p f->bs p g->Z g<k->(fx (oe p k f g):Fx p)∣fx f/\(fx (oe p k f g):Fx p)∣fx g/\∃U a,(fx (oe p k f g):Fx p)=U*fx f+a*fx g
 |0,_,_,_,_,l=>by omega
 |k+1,f,g,d,hg,l=>by
  rw[oe];split
  .rename_i e;subst e;exact⟨dvd_refl _,by rw[jL];exact dvd_zero _,1,0,by rw[one_mul,zero_mul,add_zero]⟩
  .rename_i e;let ⟨d1,d2,d3,d4,d5,d6⟩:=lq H.hp H.le d.1 hg e;have m:=cv.2 e;have i:(fx f:Fx p)=fx (aL f g p).1*fx g+fx (aL f g p).2:=mk_eq.2 d1;let ⟨i1,i2,U,a,i3⟩:=ZF H k g (aL f g p).2 hg (d5 d) O;refine⟨by rw[i];exact dvd_add (dI i1 _) i2,i1,a,U-a*fx (aL f g p).1,?_⟩;rw[i3,i,mul_add,sub_mul];have:a*(fx (aL f g p).1*fx g)+a*fx (aL f g p).2+(U*fx g-a*fx (aL f g p).1*fx g)=(U*fx g-a*fx (aL f g p).1*fx g+a*fx (aL f g p).1*fx g)+a*fx (aL f g p).2:=fq;rw[this,kM]
def LY(H:bp p){a}(g:bs p a)(f:a≠[]):Mon p (kL p a)/\Z (kL p a)=Z a/\(fx (kL p a):Fx p)∣fx a/\(∃i,(fx (kL p a):Fx p)=K i*fx a)/\(fx a:Fx p)=K (E a (Z a-1) 0)*fx (kL p a):=by
 let ⟨m1,d,k,l,m⟩:=Qu H.hp H.le g f;have n:=cv.2 f;have e:(fx a:Fx p)=K (E a (Z a-1) 0)*fx (kL p a):=by rw[mul_comm];exact mk_eq.2 m
 refine⟨⟨m1,λe=>by rw[e]at d;simp at d;omega,by rw[d];exact k⟩,d,⟨_,e⟩,⟨((iB (af<|E a (Z a-1) 0) (af ((p:Y):G)):Y):G),?_⟩,e⟩;rw[mul_comm];exact mk_eq.2 l
def yJ(H:bp p){f g}(a:bs p f)(l:bs p g)(d:f≠[]):Mon p (fH p f g)/\(fx (fH p f g):Fx p)∣fx f/\(fx (fH p f g):Fx p)∣fx g/\∃U i,(fx (fH p f g):Fx p)=U*fx f+i*fx g:=by
 let ⟨k,h2,U,i,n⟩:=ZF H (Z g+1) f g a l<|dJ _;let ⟨o,_,_⟩:=Qt H.hp H.le (Z g+1) f g a l<|dJ _;have q:oe p (Z g+1) f g≠[]:=λe=>by rw[e,jL]at k;let ⟨w,hw⟩:=k;rw[mul_zero,<-jL]at hw;exact d<|tx a (qA H.pos) hw
 let ⟨m1,t,m,⟨c,s⟩,_⟩:=LY H o q;exact⟨m1,dvd_trans m k,dvd_trans m h2,K c*U,K c*i,by rw[fH,s,n,mul_add,mul_assoc,mul_assoc]⟩
end Fx
def yK(a f:V G)(i:Y):Y->V G->V G
 |0,e=>e
 |d+1,e=>(yK a f i d e).set (i+d)<|E (yK a f i d e) (i+d) 0+E a i 0*E f d 0
def wX(a d:V G):Y->V G
 |0=>bg (Z a+Z d-1) 0
 |i+1=>yK a d i (Z d)<|wX a d i
def rZ(a d:V G)(m:G):V G:=(wX a d<|Z a).map (·%m)
def RJ(a f:V G)(i:Y)(d:V G):∀e,Z (yK a f i e d)=Z d
 |0=>rfl
 |e+1=>by rw[yK,ru,RJ a f i d e]
def RK(a d:V G):∀i,Z (wX a d i)=Z a+Z d-1
 |0=>by simp[wX]
 |i+1=>by rw[wX,RJ,RK a d i]
def ZG(a f:V G)(i:Y)(e:V G):∀d,i+d<=Z e->ps (yK a f i d e)=ps e+PS.K (E a i 0)*PS.X i*ps (List.take d f)
 |0,_=>by rw[yK,GD,PS.mul_zero,PS.add_zero]
 |d+1,k=>by rw[yK,GB _ (by rw[RJ];omega),GC,PS.mul_add,<-PS.add_assoc,ZG a f i e d O];congr 1;rw[show∀x g:G,x+g-x=g by intros;omega];rw[PS.yn,PS.KU];ac_rfl
def ZH(a d:V G):∀i,i<=Z a->ps (wX a d i)=ps (List.take i a)*ps d
 |0,_=>by rw[wX,K4,GD,PS.zero_mul]
 |i+1,f=>by have e:=ZG a d i (wX a d i) (Z d) (by rw[RK];omega);rw[fR]at e;rw[wX,e,ZH a d i O,GC,PS.add_mul]
def RL a d m:Cg m (ps<|rZ a d m) (ps a*ps d):=by have h:=ZH a d (Z a)<|aW _;rw[fR]at h;rw[<-h];exact XO m _
def RM a d m:Z (rZ a d m)=Z a+Z d-1:=by rw[rZ,cR,RK]
def LZ{a e:V G}(g:Z a=Z e)(i:∀d,d<Z a->E a d 0=E e d 0):a=e:=by refine sK g<|λd f k=>?_;have:=i d f;rw[aM,aM,cK f,cK k]at this;exact this
def akT a d{m}(e:0<m) k:0<=E (rZ a d m) k 0/\E (rZ a d m) k 0<m:=by rw[rZ,getD_map<|gA m];exact⟨ij _ O,ik _ e⟩
def RN a d i:E (kJ a d) i 0=if i<Z a+Z d-1 then conv (λi=>E a i 0) (λi=>E d i 0) i else 0:=by
 unfold kJ;rw[aM,iV];split
 .rename_i h;rw[kK h];rfl
 .rename_i h;rw[jP bV];rfl
def Hq a d:Z (kJ a d)=Z a+Z d-1:=by simp[kJ]
def ZI a d(f:a≠[])(g:d≠[]):ps (kJ a d)=ps a*ps d:=PS.ext λi=>by
 have k:=cv.2 f;have l:=cv.2 g;rw[cy,RN];show _=conv (λi=>E a i 0) (λi=>E d i 0) i
 split
 .rfl
 .symm;refine P1 _ _ i (i+1) λj m=>?_
  by_cases e:j<Z a
  .show E a j 0*E d (i-j) 0=0;rw[eN d O,gy]
  .show E a j 0*E d (i-j) 0=0;rw[eN a O,mj]
def akU a d(e:a≠[])(f:d≠[]):E (kJ a d) (Z (kJ a d)-1) 0=E a (Z a-1) 0*E d (Z d-1) 0:=by have k:=cv.2 e;have l:=cv.2 f;rw[Hq,RN,ao O,(O:Z a+Z d-1-1=(Z a-1)+(Z d-1))];exact ah' (λi g=>eN a O)<|λi g=>eN d O
def ZJ a d u v(e:∀i,aG u (E a i 0))(f:∀i,aG v (E d i 0))(g:Z a<=1000)(k:Z d<=1000) i:aG (u+v+1) (E (kJ a d) i 0):=by
 rw[RN];split
 .exact XX a d u v e f i (i+1) O
 .exact aG.zero _
def aH(a:V G):Prop:=a≠[]/\E a (Z a-1) 0=1
def aH.can{a}(d:aH a):can a:= .inr (by rw[d.2];decide)
def aH.trim{a}(d:aH a):aK a=a:=uF d.can
def aH.ZK{a d}(f:aH a)(g:aH d):aH (kJ a d):=by have k:=cv.2 f.1;have l:=cv.2 g.1;refine⟨λe=>?_,by rw[akU a d f.1 g.1,f.2,g.2];rfl⟩;have i:=Hq a d;rw[e]at i;simp at i;omega
def aH.md{p}(f:1<p){a}(d:aH a):aH (md p a):=by refine⟨λe=>d.1 (fE<|by rw[<-wA p a,e];rfl),?_⟩;rw[wA,Gx,d.2];exact gx T f
namespace Rx
def zx(a:V G):Rx:=lx (a.map λx:G=>(x:D))
def km a i:zx a i=((E a i 0:G):D):=by show E (a.map λx:G=>(x:D)) i 0=_;rw[aM,iV,aM];cases a[i]? <;>rfl
def AZ a:dk (zx a):=dk.of λi=>⟨_,km a i⟩
def L0 a:nu (zx a)=ps a:=PS.ext λi=>by show(zx a i).num=_;rw[km];rfl
def akV{a}(d:can a):bF (a.map λx:G=>(x:D)):=by
 rcases d with d|d
 .subst d;exact .inl J
 .right;rw[cR];intro e;have f:=km a<|Z a-1;rw[show zx a (Z a-1)=0 from e]at f;exact d<|Rat.intCast_eq_zero_iff.1 f.symm
def ko{a}(d:can a):sz (zx a)=Z a:=by rw[zx,fj<|akV d,cR]
def aH.can{a}(d:aH a):can a:= .inr (by rw[d.2];decide)
def nf{a}(d:aH a):Mo (zx a):=by rw[Mo,ko<|aH.can d,km,d.2];rfl
def akW{a d}(k:can a)(l:can d)(f:zx a=zx d):a=d:=by
 have m:∀i,E a i 0=E d i 0:=λi=>by
  have e:zx a i=zx d i:=by rw[f]
  rw[km,km]at e;exact wU.1 e
 refine LZ ?_ λj _=>m j
 have g:=ko k;rw[f,ko l]at g;exact g.symm
def L1{f}(g:dk f):∃a,can a/\zx a=f:=by
 obtain⟨a,d,rfl⟩:=iY f;have e:∀i,E (a.map Rat.num) i 0=(E a i 0).num:=λi=>by rw[aM,iV,aM];cases a[i]? <;>rfl
 refine⟨a.map Rat.num,?_,ext λi=>?_⟩
 .rcases d with d|d
  .subst d;exact .inl J
  .right;rw[cR,e];exact λk=>d<|Rat.num_eq_zero.1 k
 .rw[km,e];exact(g i).symm
def L2{a}(g:can a)(d:Mo (zx a)):aH a:=by have f:=d;rw[Mo,ko g,km]at f;refine⟨λe=>?_,wU.1 (f.trans Rat.intCast_one.symm)⟩;subst e;exact d.ne<|show zx []=0 from nF
def L3{a d e}(f:zx a*zx d=zx e):ps a*ps d=ps e:=by rw[<-L0,<-L0,<-Hk (AZ a) (AZ d),f,L0]
def wY(a:PS){n:Y}(d:∀i,n<=i->a i=0):Rx:=⟨λi=>(a i:D),n,λi e=>by rw[d i e];rfl⟩
def L4 a{n}(d:∀i,n<=i->a i=0):dk (wY a d):=λ_=>rfl
def L5 a{n}(d:∀i,n<=i->a i=0):nu (wY a d)=a:=rfl
def akX{a B}(d:dk a)(e:dk B)(f:nu a=nu B):a=B:=ext λi=>by rw[d.at,e.at,f]
def ZL{a B}(d:dk a)(f:dk B):dk (a+B)/\nu (a+B)=nu a+nu B:=by
 have e:∀i,(a+B) i=(((nu a+nu B) i:G):D):=λi=>by rw[eI,d.at,f.at,<-Rat.intCast_add];rfl
 exact⟨dk.of λi=>⟨_,e i⟩,PS.ext λi=>by show((a+B) i).num=_;rw[e];rfl⟩
def RO a:dk (bt<|zx a)/\nu (bt<|zx a)=pE (ps a):=by
 have e:∀i,bt (zx a) i=((pE (ps a) i:G):D):=λi=>by rw[pn,km];show _=((((i:G)+1)*ps a (i+1):G):D);rw[fJ];rfl
 exact⟨dk.of λi=>⟨_,e i⟩,PS.ext λi=>by show(bt (zx a) i).num=_;rw[e];rfl⟩
def akY{l}(hn:l.Nodup)(U:∀p∈l,bp p)(hb:wV<pC l){a}{n}(hl:Z a=n+2)(W:aH a)(q:Co (zx a) (bt<|zx a)){B}(h1B:1<=B)(hB:∀i,aA (E a i 0)<=B)(g:(2*((2*n+2)*((n+1)*B)))^(2*n+1)<=wV):
  ∃p∈l,Fx.Co (Fx.fx a:Fx (p:Y)) (Fx.bt<|Fx.fx a):=by
 have X:∀i,n+1<i->ps a i=0:=λi f=>eN a O
 have k:∀i,n<i->pE (ps a) i=0:=λi f=>by show _*ps a (i+1)=0;rw[X (i+1) O,gy]
 have s:B<=(n+1)*B:=by have:=ef B (O:1<=n+1);omega
 let ⟨u,v,m,u1,v1,e,w,t⟩:=akH (B:=(n+1)*B) O X k (λi=>bQ (hB i) s) (λi=>by
  by_cases f:n<i
  .rw[k i f];exact a8 _
  .show aA (((i:G)+1)*ps a (i+1))<=_;rw[qv];exact mn O<|hB _)
 have y:=nf W
 have z:sz (zx a)=n+2:=by rw[ko (aH.can W),hl]
 have x:m≠0:=λI=>by
  subst I;have C:wY u u1*zx a+wY v v1*bt (zx a)=0:=by have b:=(L4 u u1).mul<|AZ a;have h:=(L4 v v1).mul (RO a).1;refine akX (ZL b h).1 (λ_=>rfl) ?_;rw[(ZL b h).2,Hk (L4 u u1)<|AZ a,Hk (L4 v v1) (RO a).1,L5,L5,L0,(RO a).2,e,PS.o4];rfl
  have j:zx a∣wY v v1*bt (zx a):=by refine wI ?_<|dvd_mul_left (zx a)<|wY u u1;rw[C];exact dvd_zero _
  rw[mul_comm]at j;have M:=q.dvd j;have r:wY v v1=0:=uO M (by have:=tm (A:=wY v v1) (n:=n+1) (λi f=>by show((v i:G):D)=0;rw[v1 i f];rfl);omega);rw[r,zero_mul,add_zero]at C;have N:wY u u1=0:=eX λR=>o6 R y.ne C
  refine t J ?_ ?_
  .rw[<-L5 v v1,r];rfl
  .rw[<-L5 u u1,N];rfl
 let ⟨p,o,F⟩:=akL hn (λp o=>(U p o).hp) hb x<|bQ w g
 refine⟨p,o,?_⟩
 have H:=U p o
 have L:bc p u:=⟨n,λi f=>by rw[u1 i f,gA]⟩
 have P:bc p v:=⟨n+1,λi f=>by rw[v1 i f,gA]⟩
 let ⟨d,S⟩:=Fx.pa H (c:=m)<|λT=>F<|C8 T
 refine⟨Fx.K d*Fx.mk u L,Fx.K d*Fx.mk v P,?_⟩
 have Q:(Fx.mk u L*Fx.fx a+Fx.mk v P*Fx.bt (Fx.fx a):Fx p)=Fx.K m:=Fx.mk_congr e ((L.mul<|bc.ps p a).add<|P.mul<|wW<|bc.ps p a)<|bc.K p m
 rw[Fx.mul_assoc,Fx.mul_assoc,<-Fx.mul_add,Q]
 exact S
end Rx
def L6{a b m}(d:a%m=b%m):dt a m=dt b m:=by unfold dt;rw[d]
def yL{m}(d:0<m) a:dt a m%m=a%m:=by
 unfold dt;split
 .rw[wC,lM,Int.emod_self,Af,lM]
 .exact lM _ _
def ZM{m}(a:1<m):dt 1 m=1:=by unfold dt;rw[gx T a,w O]
def akZ m(a:0<m):dt 0 m=0:=by unfold dt;rw[gA,w O]
def pG F{m}(a:0<m) i:(F.map (dt · m)).getD i 0=dt (E F i 0) m:=getD_map (f:=(dt · m)) (akZ m a) F i
def ak0{F a}{m}(d:0<m)(e:Z F=Z a)(f:∀i,E F i 0%m=E a i 0%m):F.map (dt · m)=a.map (dt · m):=LZ (by rw[cR,cR,e]) λj _=>by rw[pG F d,pG a d];exact L6<|f j
def A1{F}{m}(d:1<m)(a:aH F):aH (F.map (dt · m)):=by refine⟨λe=>a.1<|List.map_eq_nil_iff.1 e,?_⟩;rw[cR,pG F O,a.2];exact ZM d
open Fx
def ZN{p}(H:bp p){f}{d}(g:bc p f)(l:f d=1)(m:∀i,d<i->f i=0):sz (mk f g)=d+1:=by
 have n:sz (mk f g)<=d+1:=yI H.pos g λi q=>by rw[m i O,gA]
 let ⟨a,o,e⟩:=iY H.pos<|mk f g;have k:=(mk_eq.1 (e:mk (ps a) (bc.ps p a)=mk f g)).at d;rw[<-e,cO o]at n⊢;by_cases hl:Z a<=d
 .rw[cy,eN a hl,l,gA,H.one]at k;cases k
 .omega
def RP{p}{a}{n}(d:∀i,n<=i->a i=0):bc p a:=⟨n,λi e=>by rw[d i e,gA]⟩
structure MD(d:Y)(a:PS):Prop where
 one:a d=1
 z:∀i,d<i->a i=0
def MD.L7{d}{a}(e:MD d a) p:bc p a:=RP (n:=d+1) λi f=>e.z i O
def ZO{p:Y}(H:bp p){a k K l:PS}{d e:Y}(o:MD d a)(s:MD d k)(v:MD e K)(u:MD e l)(x:Co (mk a<|o.L7 p) (mk K<|v.L7 p))(c1:Cg p a k)(c2:Cg p K l):∀f,1<=f->Cg ((p:G)^f) (a*K) (k*l)->Cg ((p:G)^f) a k/\Cg ((p:G)^f) K l
 |0,B,_=>absurd B O
 |1,_,_=>by rw[fb,n7,jR];exact⟨c1,c2⟩
 |f+1+1,_,B=>by
  have hp:=H.hp.1;have C:Cg ((p:G)^(f+1)) (a*K) (k*l):=Cg.of λi=>by have m:=r6 ((a*K) i) (show((p:G)^(f+1))∣(p:G)^(f+1+1)from⟨p,fb _ _⟩);have F:=r6 ((k*l) i) (show((p:G)^(f+1))∣(p:G)^(f+1+1)from⟨p,fb _ _⟩);rw[<-m,B.at,F]
  let ⟨i1,i2⟩:=ZO H o s v u x c1 c2 (f+1) O C;obtain⟨q,eq⟩:∃q,q=(p:G)^(f+1):=⟨_,J⟩;have b:q≠0:=by rw[eq];exact Int.ne_of_gt<|mI O
  rw[<-eq]at i1 i2;rw[fb,<-eq]at B⊢;let ⟨U,c⟩:=i1.symm;let ⟨V,r⟩:=i2.symm;have zU:∀i,d<=i->U i=0:=λi y=>by
   have m:k i=a i+q*U i:=by rw[c,PS.eI,PS.eW]
   have F:k i=a i:=by
    by_cases e:i=d
    .subst e;rw[o.one,s.one]
    .rw[o.z i O,s.z i O]
   have L:q*U i=0:=O;exact(Int.mul_eq_zero.1 L).resolve_left b
  have zV:∀i,e<=i->V i=0:=λi y=>by
   have m:l i=K i+q*V i:=by rw[r,PS.eI,PS.eW]
   have F:l i=K i:=by
    by_cases D:i=e
    .subst D;rw[v.one,u.one]
    .rw[v.z i O,u.z i O]
   have L:q*V i=0:=O;exact(Int.mul_eq_zero.1 L).resolve_left b
  have P:bc p U:=RP zU;have E:bc p V:=RP zV;have I:(p:G)∣q:=by rw[eq,fb];exact A2 _ _
  have M:Cg p (a*V+U*K) 0:=Cg.Qi λi=>by
   have m:=B.symm.dvd i;have D:k*l=a*K+PS.K q*(a*V+U*K)+PS.K q*(PS.K q*(U*V)):=by rw[c,r];simp only[PS.mul_add,PS.add_mul];ac_rfl
   rw[D,PS.eI,PS.eI,PS.eW,PS.eW,PS.eW]at m;let ⟨w,hw⟩:=m;have F:q*((a*V+U*K) i+q*(U*V) i)=q*(p*w):=by rw[nq,<-iF q (p:G) w,<-hw];omega
   have L:=Int.eq_of_mul_eq_mul_left b F;let ⟨z,hz⟩:=I;refine⟨w-z*(U*V) i,?_⟩;rw[PS.lL,Af,CY,<-L,hz,iF];omega
  have g:=o.L7 p;have Q:=v.L7 p;have N:mk a g*mk V E+mk U P*mk K Q=0:=mk_eq.2 M;have d1:mk a g∣mk U P*mk K Q:=wI (by rw[N];exact dvd_zero _)<|dvd_mul_right _ _;have sG:sz (mk a g)=d+1:=ZN H g o.one o.z;have u0:mk U P=0:=by
   refine uO H (x.dvd<|by rw[mul_comm];exact d1) ?_;have:=yI H.pos P (n:=d) λi y=>by rw[zU i y,gA]
   omega
  rw[u0,zero_mul,add_zero]at N;have R:mk a g≠0:=λe0=>by rw[e0,kh H.pos]at sG;omega
  have v0:mk V E=0:=eX λhv=>o6 H R hv N
  have X:∀{A S W:PS}(T:bc p W),S=A+PS.K q*W->mk W T=0->Cg (q*p) A S:=λ{A S W} T hA Z=>Cg.symm (Cg.Qi λi=>by have m:=(mk_eq.1 (Z:mk W T=mk 0 (bc.zero p))).dvd i;rw[PS.lL,Af]at m;let ⟨t,ht⟩:=m;refine⟨t,?_⟩;rw[hA,PS.eI,PS.eW,ht,iF];omega)
  exact⟨X P c u0,X E r v0⟩
def bC(a:Y->Bool):Y->V (V G)->V (V G)
 |_,[]=>[]
 |i,f::l=>if a i then f::bC a (i+1) l else bC a (i+1) l
def jN(m:G)(g:V G):V (V G)->V G
 |[]=>g
 |f::l=>jN m (rZ g f m) l
def oo:V (V G)->PS
 |[]=>1
 |f::l=>ps f*oo l
def dn:V (V G)->Y
 |[]=>0
 |f::l=>(Z f-1)+dn l
def ZP(d:Y->Bool):∀(l a:V (V G))(i:Y),bC d i (l++a)=bC d i l++bC d (i+Z l) a
 |[],a,i=>rfl
 |f::l,a,i=>by rw[lY,bC,bC,ZP d l a<|i+1,gQ,(O:i+1+Z l=i+(Z l+1))];split<;>rfl
def ZQ(m:G):∀(l a:V (V G))(g:V G),jN m g (l++a)=jN m (jN m g l) a
 |[],_,_=>rfl
 |f::l,a,g=>ZQ m l a<|rZ g f m
def wZ{d:Y->Bool}{x:V G}:∀{l:V (V G)}{i:Y},x∈bC d i l->x∈l
 |[],_,a=>a
 |f::l,i,a=>by
  rw[bC]at a;split at a
  .rcases bX.1 a with rfl|a
   .simp
   .simp[wZ a]
  .simp[wZ a]
def Hr{e:Y->Bool}{d:V G->V G->Prop}:∀{l:V (V G)}{i:Y},l.Pairwise d->(bC e i l).Pairwise d
 |[],_,a=>a
 |f::l,i,a=>by
  let ⟨g,h2⟩:=jr.1 a;rw[bC];split
  .exact jr.2 ⟨λy k=>g y<|wZ k,Hr h2⟩
  .exact Hr h2
def RQ(a:Y->Bool):∀(l:V (V G))(i:Y),oo (bC a i l)*oo (bC (λi=> !a i) i l)=oo l
 |[],_=>PS.mul_one 1
 |f::l,i=>by
  have d:=RQ a l<|i+1;rw[bC,bC];cases a i
  .simp only[Cn,b7,hY,bL,oo];rw[<-d];ac_rfl
  .simp only[L8,b7,hY,bL,oo];rw[<-d];ac_rfl
def L9(a:Y->Bool):∀(l:V (V G))(i:Y),dn (bC a i l)+dn (bC (λi=> !a i) i l)=dn l
 |[],_=>rfl
 |f::l,i=>by
  have d:=L9 a l<|i+1;rw[bC,bC];cases a i
  .simp only[Cn,b7,hY,bL,dn];omega
  .simp only[L8,b7,hY,bL,dn];omega
def L'(m:G):∀(l:V (V G))(g:V G),Cg m (ps<|jN m g l) (ps g*oo l)
 |[],g=>Cg.of_eq (PS.mul_one _).symm
 |f::l,g=>by refine(L' m l<|rZ g f m).trans<|((RL g f m).Au _).trans<|Cg.of_eq ?_;rw[oo];ac_rfl
def ak1{a d}{m}(n:1<m)(g:aH a)(k:aH d):aH (rZ a d m):=by
 have t:=cv.2 g.1;have u:=cv.2 k.1;have f:=RM a d m;have o:=Cg.trans (RL a d m)<|Cg.refl m _;have l:=o.at<|Z a-1+(Z d-1);have p:(ps a*ps d) (Z a-1+(Z d-1))=1:=by
  rw[PS.e9,wT (a:=Z a-1) O λi v q=>?_]
  .rw[(O:Z a-1+(Z d-1)-(Z a-1)=Z d-1),cy,cy,g.2,k.2];rfl
  .by_cases e:Z a<=i
   .rw[cy,eN a e,mj]
   .rw[cy d,eN d O,gy]
 let ⟨r1,s⟩:=akT a d (by omega:0<m)<|Z a-1+(Z d-1);rw[p,cy,gx r1 s,gx T n]at l;refine⟨λe=>by rw[e]at f;simp at f;omega,?_⟩;rw[f,(O:Z a+Z d-1-1=Z a-1+(Z d-1))];exact l
def yM{m:G}(a:1<m):∀{l:V (V G)}{g:V G},aH g->(∀f∈l,aH f)->aH (jN m g l)/\Z (jN m g l)=Z g+dn l
 |[],g,hg,_=>⟨hg,J⟩
 |f::l,g,hg,d=>by
  have e:=d f ax;have k:=cv.2 e.1;have n:=cv.2 hg.1;let ⟨i,h2⟩:=yM a (l:=l) (ak1 a hg e) λx hx=>d x lA
  refine⟨i,?_⟩;rw[jN,h2,RM,dn];omega
def A3:aH [1]:=⟨ax,J⟩
def aH.tz{a}(d:aH a):MD (Z a-1) (ps a):=⟨d.2,λi e=>eN a O⟩
def gS(m:G)(l:V (V G))(a:Y->Bool):V G:=(jN m [1] (bC a 0 l)).map (dt · m)
section
variable{p:Y}
def fv:V (V G)->Fx p
 |[]=>1
 |f::l=>fx f*fv l
def ak2 l:bc p (oo l):=by
 induction l with
 |nil=>exact bc.one p
 |cons f l a=>exact(bc.ps p f).mul a
def DF:∀l:V (V G),(fv l:Fx p)=mk (oo l) (ak2 l)
 |[]=>rfl
 |f::l=>by rw[fv,DF l];rfl
def yN l m(a:(p:G)∣m):(fx (jN m [1] l):Fx p)=fv l:=by rw[DF];refine mk_eq.2 ?_;have h:=L' m l [1];rw[K3,PS.one_mul]at h;exact Cg.of λi=>by have d:=h.at i;rw[<-r6 _ a,d,r6 _ a]
def tA(H:bp p){g}(a:aH g):sz (fx g:Fx p)=Z g:=by have:=cv.2 a.1;have d:=ZN H (bc.ps p g) a.tz.one a.tz.z;rw[(O:Z g-1+1=Z g)]at d;exact d
def ZR(H:bp p){g a}(d:aH g)(f:aH a){i:Fx p}(n:sz i=1)(k:fx g=i*fx a):(fx g:Fx p)=fx a:=by
 have s:=tA H d;have s2:=tA H f;have t:=cv.2 d.1;have l:i≠0:=λe=>by rw[e,kh H.pos]at n;omega
 have m:(fx a:Fx p)≠0:=λe=>by rw[e,kh H.pos]at s2;have:=cv.2 f.1;omega
 have q:=dK H l m;rw[<-k]at q;obtain⟨c,u,rfl⟩:=Dt H n;have o:ps g (Z g-1)%(p:G)=(PS.K c*ps a) (Z g-1)%(p:G):=(mk_eq.1 (k:mk (ps g) (bc.ps p g)=mk (PS.K c*ps a) ((bc.K p c).mul<|bc.ps p a))).at (Z g-1);rw[PS.eW,cy,cy,d.2,(O:Z g-1=Z a-1),f.2,mm]at o;rw[k,(AS o.symm:(K c:Fx p)=K 1),oh,one_mul]
def RR(H:bp p){e:Fx p}:∀{l:V (V G)},l.Pairwise (λx a=>Co (fx x:Fx p)<|fx a)->(∀f∈l,(fx f:Fx p)∣e)->(fv l:Fx p)∣e
 |[],_,_=>⟨e,(mul_one e).symm⟩
 |f::l,hp,d=>by
  let ⟨i,h2⟩:=jr.1 hp;refine Co.akQ ?_ (d f ax)<|RR H h2 λx hx=>d x lA;have g:∀{l:V (V G)},(∀a∈l,Co (fx f:Fx p) (fx a))->Co (fx f:Fx p) (fv l):=by
   intro l;induction l with
   |nil=>intro _;exact⟨0,1,by rw[zero_mul,zero_add];exact one_mul 1⟩
   |cons a l k=>intro d;exact(d a ax).mul (k λz m=>d z<|by simp[m])
  exact g i
def Hs{g:Y->Bool}{x:V G}:∀{l:V (V G)}{i:Y},x∈bC g i l->∃a,a<Z l/\g (i+a)=ae/\l.getD a []=x
 |[],_,d=>by cases d
 |f::l,i,d=>by
  rw[bC]at d;split at d
  .rename_i k;rcases bX.1 d with rfl|d
   .exact⟨0,ax,k,J⟩
   .let ⟨a,m,h2,e⟩:=Hs d;exact⟨a+1,bV,by rw[(O:i+(a+1)=i+1+a)];exact h2,e⟩
  .let ⟨a,m,h2,e⟩:=Hs d;exact⟨a+1,bV,by rw[(O:i+(a+1)=i+1+a)];exact h2,e⟩
def RS{b:Y->Bool}:∀{l:V (V G)}{i j:Y},j<Z l->b (i+j)=ae->l.getD j []∈bC b i l
 |[],_,_,h,_=>by simp at h
 |f::l,i,0,_,h=>by rw[bC,ao dL];simp
 |f::l,i,j+1,h,a=>by
  have:=RS (l:=l) (i:=i+1) (j:=j) (by simp at h;omega) (by rw[(O:i+1+j=i+(j+1))];exact a);rw[bC];split
  .exact jF _ this
  .exact this
end
def ak3{x m}(a:2*(aA x:G)<m):dt x m=x:=by
 unfold dt;by_cases hx:0<=x
 .rw[gx hx O,w O]
 .have e:x%m=x+m:=by rw[<-Int.add_emod_right,gx O O]
  rw[e,ao O];omega
end Go.El
namespace Go.El
open Go Go.Proofs
namespace Rx
def RT{F a B}(f:Mo F)(e:F=a*B)(p:sz a≠1)(q:sz B≠1):∃u v,Mo u/\Mo v/\F=u*v/\2<=sz u/\2<=sz v:=by
 have g:a≠0:=λi=>f.ne (by rw[e,i,zero_mul])
 have k:B≠0:=λi=>f.ne (by rw[e,i,mul_zero])
 let ⟨c,hc,hm⟩:=Yw g;have l:F=(K c⁻¹ *B)*(K c*a):=by have m:K c⁻¹ *B*(K c*a)=(K c⁻¹ *K c)*(a*B):=fq;rw[m,pa hc,one_mul,<-e]
 have n:Mo (K c⁻¹ *B):=by rw[l]at f;exact f.yy hm
 have s:=eO g;have t:=eO k;have o:=dK (uM hc) g;have d:c⁻¹ ≠0:=λe=>by have:=mA _ hc;rw[e,qB]at this;exact absurd this T
 have s2:=dK (uM d) k;rw[uQ hc]at o;rw[uQ d]at s2;exact⟨K c*a,K c⁻¹ *B,hm,n,by rw[l,mul_comm],O,O⟩
def Ma{u v}(l:Mo u)(m:Mo v)(n:dk (u*v)):dk u/\dk v:=by
 let ⟨a,f⟩:=Hl u;let ⟨b,g⟩:=Hl v;have one:∀A:Rx,K ((1:Y):D)*A=A:=λA=>one_mul A
 have o:Dn (u*v) 1:=⟨T,by rw[one];exact n,λd _=>Nat.one_dvd d⟩;have e:=Ze l m f g o;have p:a=1:=Nat.dvd_one.1 ⟨b,e⟩;have q:b=1:=Nat.dvd_one.1 ⟨a,by rw[gO];exact e⟩;subst p q;have i:=f.int;have k:=g.int;rw[one]at i k;exact⟨i,k⟩
def oq:V (V G)->Rx
 |[]=>1
 |f::l=>zx f*oq l
end Rx
open Fx
def bT(a:Y->Bool):Y->Y
 |0=>0
 |n+1=>bT a n+(if a n then 1 else 0)
def Hu{a d:Y->Bool}:∀{n:Y},(∀i,i<n->a i=d i)->bT a n=bT d n
 |0,_=>rfl
 |n+1,e=>by rw[bT,bT,Hu<|λi f=>e i O,e n O]
def ZS{a d:Y->Bool}:∀{n:Y},(∀i,i<n->a i=ae->d i=ae)->bT a n<=bT d n
 |0,_=>aW _
 |n+1,e=>by
  have k:=ZS (n:=n) λi l=>e i O
  have f:=e n O;rw[bT,bT];cases g:a n
  .simp only[hY,bL];omega
  .rw[f g];simp only[b7];omega
def RU{b c:Y->Bool}:∀{n:Y},(∀i,i<n->b i=ae->c i=ae)->(∃i,i<n/\b i=false/\c i=ae)->bT b n<bT c n
 |0,_,⟨i,a,_⟩=>absurd a O
 |n+1,a,⟨i,l,h2,d⟩=>by
  rw[bT,bT];by_cases e:i=n
  .subst e;have:=ZS (n:=i) λj f=>a j O
   rw[h2,d];simp;omega
  .have m:=RU (n:=n) (λj f=>a j O) ⟨i,O,h2,d⟩;have g:=a n O;cases k:b n
   .simp only[hY,bL];omega
   .rw[g k];simp only[b7];omega
def RV(a:Y->Bool):∀n,bT a n+bT (λi=> !a i) n=n
 |0=>rfl
 |n+1=>by have:=RV a n;rw[bT,bT];cases a n<;>simp<;>omega
def ZT{a:Y->Bool}:∀{n:Y},0<bT a n->∃i,i<n/\a i=ae
 |0,h=>absurd h (by simp[bT])
 |n+1,h=>by
  cases d:a n
  .rw[bT,d]at h;obtain⟨i,f,e⟩:=ZT (n:=n) dL;exact⟨i,O,e⟩
  .exact⟨n,O,d⟩
def RX{a:Y->Bool}{n i}(d:i<n)(e:a i=ae):0<bT a n:=by have:=RU (b:=λ_=>false) (c:=a) (n:=n) (λj _ f=>by cases f) ⟨i,d,J,e⟩;omega
def ot(a:Y->Bool):Y->Y
 |0=>0
 |n+1=>(if a n then 2^n else 0)+ot a n
def Mb(a:Y->Bool):∀n,ot a n<2^n
 |0=>BA
 |n+1=>by have:=Mb a n;rw[ot,fp];split<;>omega
def RY(a:Y->Bool):∀{n i:Y},i<n->mQ (ot a n) i=a i
 |0,_,d=>absurd d O
 |n+1,i,d=>by
  rw[ot];by_cases e:i=n
  .subst e;have f:=Nat.testBit_lt_two_pow<|Mb a i;cases k:a i
   .simp only[hY,bL,eH];exact f
   .simp only[b7];rw[Nat.testBit_two_pow_add_eq,f];rfl
  .have g:=RY a (n:=n) (i:=i) O;cases k:a n
   .simp only[hY,bL,eH];exact g
   .simp only[b7];rw[Nat.testBit_two_pow_add_gt O];exact g
def tB(n s:Y):V Y:=(cd<|2^n).filter λS=>bT S.testBit n==s
def ls(n:Y):V Y:=(cd<|n/2).flatMap λs=>tB n<|s+1
def yO{n a}:a∈ls n↔a<2^n/\1<=bT a.testBit n/\bT a.testBit n<=n/2:=by
 unfold ls tB;simp only[iw,oI,nO,beq_iff_eq];constructor
 .rintro⟨s,d,e,f⟩;omega
 .rintro⟨d,e,f⟩;exact⟨bT a.testBit n-1,O,d,O⟩
def ak4 n:(ls n).Pairwise (λx a=>bT x.testBit n<=bT a.testBit n):=by
 have e:∀k,((cd k).flatMap λs=>tB n<|s+1).Pairwise (λx a=>bT x.testBit n<=bT a.testBit n):=by
  intro k;induction k with
  |zero=>exact .nil
  |succ k g=>
   rw[zt,Cy]
   refine w5.2 ⟨g,?_,λx d a f=>?_⟩
   .simp only[kD,Mc,g8];refine LV ?_ (List.pairwise_of_forall (R:=λ_ _=>True) (λ_ _=>trivial):(tB n<|k+1).Pairwise λ_ _=>True);intro x a d f _;simp only[tB,nO,beq_iff_eq]at d f;omega
   .simp only[iw,oI,kD,Mc,g8,tB,nO,beq_iff_eq]at d f;let ⟨s,i,h2,l⟩:=d;omega
 exact e _
structure gD(p:Y)(m:G)(a:V G)(l:V (V G)):Prop where
 H:bp p
 pm:∃e,1<=e/\m=(p:G)^e
 am:aH a
 lm:∀f∈l,aH f
 fI:∀f∈l,bl (fx f:Fx p)
 pair:l.Pairwise (λx d=>Co (fx x:Fx p)<|fx d)
 pr:Cg m (ps a) (oo l)
 kS:pD (fx a:Fx p)
 len:a.length=1+dn l
 bd:∀g,aH g->Rx.zx g∣Rx.zx a->∀i,2*((g.getD i 0).natAbs:G)<m
section
variable{p:Y}{m:G}{a:V G}{l:V (V G)}
def gD.m1(d:gD p m a l):1<m/\(p:G)∣m:=by obtain⟨e,g,rfl⟩:=d.pm;have i:=d.H.hp.1;obtain⟨e,rfl⟩:∃f,e=f+1:=⟨e-1,O⟩;have k:(0:G)<(p:G)^e:=mI O;rw[fb];refine⟨?_,A2 _ _⟩;have n:=gL (O:(1:G)<=(p:G)^e) (O:(0:G)<=p);omega
def gD.co(o:gD p m a l){i d}(f:i<Z l)(g:d<Z l)(k:i≠d):Co (fx (l.getD i []):Fx p) (fx<|l.getD d []):=by
 have n:=List.pairwise_iff_getElem.1 o.pair;rw[aM,aM,cK f,cK g];rcases akD k with e|e
 .exact n i d f g e
 .exact(n d i g f e).symm
def gD.Hv(e:gD p m a l){i}(d:i<Z l):l.getD i []∈l:=by rw[aM,cK d];exact si d
def ZU{Q:Fx p}(H:bp p)(d:bl Q):∀{l:V (V G)},Q∣fv l->∃f∈l,Q∣fx f
 |[],g=>absurd g<|d.AI H
 |f::l,g=>by
  rcases d.na H g with e|e
  .exact⟨f,ax,e⟩
  .let ⟨x,h1,h2⟩:=ZU H d e;exact⟨x,yA,h2⟩
def gD.ak5(e:gD p m a l)(d:Y->Bool):(fx (gS m l d):Fx p)=fv (bC d 0 l):=by let ⟨f,h2⟩:=e.m1;rw[<-yN (bC d 0 l) m h2];refine LR<|Cg.of λi=>?_;rw[cy,cy,gS,pG _ O,<-r6 _ h2,yL O,r6 _ h2]
def gD.A4(e:gD p m a l)(d:Y->Bool):aH (gS m l d)/\Z (gS m l d)=1+dn (bC d 0 l):=by let ⟨g,h2⟩:=e.m1;let ⟨i,k⟩:=yM g A3 (λf n=>e.lm f (wZ n):∀f∈bC d 0 l,aH f);refine⟨A1 g i,?_⟩;rw[gS,cR,k];rfl
def gD.ZW(d:gD p m a l)(o:Y->Bool){k}(n:k<Z l):(fx (l.getD k []):Fx p)∣fx (gS m l o)↔o k=ae:=by
 rw[d.ak5];constructor
 .intro u;let ⟨f,g,v⟩:=ZU d.H (d.fI _<|d.Hv n) u;let ⟨i,h2,s,x⟩:=Hs g;rw[eH]at s;by_cases e:k=i
  .rw[e];exact s
  .have t:=d.co n h2 e;rw[x]at t;have:=t.unit d.H v;have:=(d.fI _<|d.Hv n).1;omega
 .intro B;have:=RS (b:=o) (l:=l) (i:=0) (j:=k) n (by rw[eH];exact B);have q:∀{l:V (V G)}{f:V G},f∈l->(fx f:Fx p)∣fv l:=by
   intro l;induction l with
   |nil=>intro f g;cases g
   |cons y l C=>
    intro f g
    rcases bX.1 g with rfl|g
    .exact dvd_mul_right _ _
    .exact dI (C g) _
  exact q this
def A5{b c:Y->Bool}:∀{l:V (V G)}{i:Y},(∀d,d<Z l->b (i+d)=c (i+d))->bC b i l=bC c i l
 |[],_,_=>rfl
 |f::l,i,e=>by
  have g:=A5 (b:=b) (c:=c) (l:=l) (i:=i+1) λd k=>by have:=e (d+1) bV;rwa[(O:i+(d+1)=i+1+d)]at this
  rw[bC,bC,g];have:=e 0 ax;rw[iR]at this;rw[this]
def RZ{x d e}(f:ps x*ps d=ps e):(fx e:Fx p)=fx x*fx d:=(mk_congr f ((bc.ps p x).mul<|bc.ps p d)<|bc.ps p e).symm
def gD.mask(o:gD p m a l){g k}(F:aH g)(hk:aH k)(e:Rx.zx a=Rx.zx g*Rx.zx k):
  ∃d:Y->Bool,g=gS m l d/\k=gS m l (λi=> !d i)/\(∀n,n<Z l->(d n=ae↔(fx (l.getD n []):Fx p)∣fx g))/\Cg m (ps g) (oo<|bC d 0 l)/\Cg m (ps k) (oo<|bC (λi=> !d i) 0 l):=by
 let ⟨C,s⟩:=o.m1
 have H:=o.H
 have K:(1:G)<p:=AW
 have L:=Rx.L3 e.symm
 have u:(fx a:Fx p)=fx g*fx k:=RZ L
 classical
 let d:Y->Bool:=λn=>decide<|(fx (l.getD n []):Fx p)∣fx g
 have hb:∀n,d n=ae↔(fx (l.getD n []):Fx p)∣fx g:=λn=>decide_eq_true_iff
 have v:∀c:Y->Bool,∀f∈bC c 0 l,aH f:=λc f q=>o.lm f<|wZ q
 have d1:(fv (bC d 0 l):Fx p)∣fx g:=RR H (Hr o.pair) λf q=>by let ⟨n,_,h2,h3⟩:=Hs q;rw[eH]at h2;rw[<-h3];exact(hb n).1 h2
 have eA:(fx a:Fx p)=fv l:=by rw[DF];refine mk_eq.2<|Cg.of λi=>?_;have:=o.pr.at i;rw[<-r6 _ s,this,r6 _ s]
 have P:∀{l:V (V G)}{f:V G},f∈l->(fx f:Fx p)∣fv l:=by
  intro l;induction l with
  |nil=>intro f q;cases q
  |cons y l ih=>
   intro f q
   rcases bX.1 q with rfl|q
   .exact dvd_mul_right _ _
   .exact dI (ih q) _
 have d2:(fv (bC (λi=> !d i) 0 l):Fx p)∣fx k:=RR H (Hr o.pair) λf q=>by
  let ⟨n,x,h2,h3⟩:=Hs q;rw[eH]at h2;have U:=o.Hv x;rw[<-h3];have hd:(fx (l.getD n []):Fx p)∣fx g*fx k:=by rw[<-u,eA];exact P U
  rcases(o.fI _ U).na H hd with e1|e1
  .rw[(hb n).2 e1]at h2;cases h2
  .exact e1
 have e2:(fv (bC d 0 l)*fv (bC (λi=> !d i) 0 l):Fx p)=fv l:=by rw[DF,DF,DF,Zr];exact mk_congr (RQ d l 0) _ _
 let ⟨w,hw⟩:=d1
 let ⟨W,B⟩:=d2
 have X:(fx a:Fx p)≠0:=λr=>by have x:=tA H o.am;rw[r,kh H.pos]at x;have:=cv.2 o.am.1;omega
 have ww:w*W=1:=by refine yx H (A:=(fv l:Fx p)) (by rw[<-eA];exact X) ?_;rw[one_mul,<-e2];have e3:w*W*(fv (bC d 0 l)*fv (bC (λi=> !d i) 0 l))=w*fv (bC d 0 l)*(W*fv (bC (λi=> !d i) 0 l)):=fq;rw[e3,<-hw,<-B,<-u,eA,e2]
 have sw:sz w=1:=wK H (by rw[mul_comm];exact ww:W*w=1)
 have sw':sz W=1:=wK H ww
 let ⟨z,tl1⟩:=yM K A3<|v d
 let ⟨D,tl2⟩:=yM K A3<|v λi=> !d i
 have eg:(fx g:Fx p)=fv (bC d 0 l):=by have hp:=yN (p:=p) (bC d 0 l) p<|Hw _;rw[<-hp]at hw⊢;exact ZR H F z sw hw
 have ek:(fx k:Fx p)=fv (bC (λi=> !d i) 0 l):=by have hp:=yN (p:=p) (bC (λi=> !d i) 0 l) p<|Hw _;rw[<-hp]at B⊢;exact ZR H hk D sw' B
 have lg:Z g=1+dn (bC d 0 l):=by have x:=tA H F;rw[eg,<-yN (p:=p) (bC d 0 l) p (Hw _),tA H z,tl1]at x;rw[<-x];rfl
 have lk:Z k=1+dn (bC (λi=> !d i) 0 l):=by have x:=tA H hk;rw[ek,<-yN (p:=p) (bC (λi=> !d i) 0 l) p (Hw _),tA H D,tl2]at x;rw[<-x];rfl
 let ⟨um1,I⟩:=yM C A3<|v d
 let ⟨um2,M⟩:=yM C A3<|v λi=> !d i
 have c1:Cg p (ps g) (ps<|jN m [1] (bC d 0 l)):=mk_eq.1 (eg.trans (yN (bC d 0 l) m s).symm:Fx.mk (ps g) (bc.ps p g)=Fx.mk (ps<|jN m [1] (bC d 0 l)) (bc.ps p _))
 have c2:Cg p (ps k) (ps<|jN m [1] (bC (λi=> !d i) 0 l)):=mk_eq.1 (ek.trans (yN (bC (λi=> !d i) 0 l) m s).symm:Fx.mk (ps k) (bc.ps p k)=Fx.mk (ps<|jN m [1] (bC (λi=> !d i) 0 l)) (bc.ps p _))
 have R0:Co (fx g:Fx p) (fx k):=Du H (λr=>X<|by rw[u,r,zero_mul]) λQ hQ q1 q2=>o.kS Q hQ (by rw[u];exact wL q1 q2)
 have N:MD (Z g-1) (ps<|jN m [1] (bC d 0 l)):=by have:=um1.tz;rwa[I,show Z ([1]:V G)=1 from J,<-lg]at this
 have R:MD (Z k-1) (ps<|jN m [1] (bC (λi=> !d i) 0 l)):=by have:=um2.tz;rwa[M,show Z ([1]:V G)=1 from J,<-lk]at this
 let ⟨r,he1,S⟩:=o.pm
 have t1:=L' m (bC d 0 l) [1]
 have t2:=L' m (bC (λi=> !d i) 0 l) [1]
 rw[K3,PS.one_mul]at t1 t2
 have yP:Cg m (ps g*ps k) (ps (jN m [1] (bC d 0 l))*ps (jN m [1] (bC (λi=> !d i) 0 l))):=by rw[L];refine o.pr.trans ?_;rw[<-RQ d l 0];exact(t1.mul t2).symm
 have T:=ZO H F.tz N hk.tz R R0 c1 c2 r he1<|S▸yP
 rw[<-S]at T
 have fin:∀{g:V G}{t:V G},aH g->Rx.zx g∣Rx.zx a->Z g=Z t->Cg m (ps g) (ps t)->g=t.map (dt · m):=by
  intro g t F hd hl hc;refine LZ (by rw[cR,hl]) λn _=>?_
  rw[pG _ O,<-L6 (a:=E g n 0) (b:=E t n 0) (hc.at n)];exact(ak3<|o.bd g F hd n).symm
 refine⟨d,fin F (by rw[e];exact Rx.dvd_mul_right _ _) (by rw[I,lg];rfl) T.1,fin hk (by rw[e];exact Rx.dvd_mul_left _ _) (by rw[M,lk];rfl) T.2,λn _=>hb n,T.1.trans t1,T.2.trans t2⟩
def gD.ZX(d:gD p m a l){b:Y->Bool}(n:0<bT b (Z l)):1<=dn (bC b 0 l):=by
 let ⟨j,f,h2⟩:=ZT n;have o:=RS (b:=b) (l:=l) (i:=0) f (by rw[eH];exact h2);have q:=(d.fI _<|d.Hv f).1;rw[tA d.H (d.lm _<|d.Hv f)]at q;have g:∀{L:V (V G)},l.getD j []∈L->1<=dn L:=by
  intro L;induction L with
  |nil=>intro k;cases k
  |cons y L s=>
   intro k
   rw[dn]
   rcases bX.1 k with e|e
   .rw[<-e];omega
   .have:=s e;omega
 exact g o
def gD.C9(q:gD p m a l){u v}(d:Rx.Mo u)(f:Rx.Mo v)(e:Rx.zx a=u*v):∃g k,aH g/\aH k/\Rx.zx g=u/\Rx.zx k=v:=by let ⟨i1,i2⟩:=Rx.Ma d f<|e▸Rx.AZ a;let ⟨g,n,g2⟩:=Rx.L1 i1;let ⟨k,o,i⟩:=Rx.L1 i2;exact⟨g,k,Rx.L2 n<|g2▸d,Rx.L2 o<|i▸f,g2,i⟩
def gD.first(f:gD p m a l){d}(hS:d∈ls (Z l))(hd:Rx.zx (gS m l d.testBit)∣Rx.zx a)(hf:∀jh∈ls (Z l),bT jh.testBit (Z l)<bT d.testBit (Z l)->¬Rx.zx (gS m l jh.testBit)∣Rx.zx a):Rx.bl (Rx.zx<|gS m l d.testBit):=by
 let ⟨_,R,hS2⟩:=yO.1 hS;let ⟨C,gl⟩:=f.A4 d.testBit;have DG:=f.ZX (b:=d.testBit) O;refine⟨by rw[Rx.ko C.can];omega,λA B e=>eX λE=>?_⟩;let ⟨u,v,hu,F,H,su,sv⟩:=Rx.RT (Rx.nf C) e (λf=>E<|.inl f)<|λf=>E<|.inr f;let ⟨k,I⟩:=hd;have P:Rx.Mo k:=by have:=Rx.nf f.am;rw[I]at this;exact this.yy<|Rx.nf C
 have Q:Rx.zx a=u*(k*v):=by rw[I,H];ac_rfl
 let ⟨o,k',J,k1,g2,k2⟩:=f.C9 hu (P.mul F) Q;let ⟨b,M,b2,b3,_⟩:=f.mask J k1 (by rw[g2,k2];exact Q);have U:∃q,aH q/\Rx.zx q=v:=by let ⟨_,i2⟩:=Rx.Ma hu F<|H▸Rx.AZ _;let ⟨q,v1,v2⟩:=Rx.L1 i2;exact⟨q,Rx.L2 v1<|v2▸F,v2⟩
 let ⟨q,_,v2⟩:=U;have W:(fx (gS m l d.testBit):Fx p)=fx o*fx q:=RZ (Rx.L3<|by rw[g2,v2];exact H.symm);have sub:∀i,i<Z l->b i=ae->mQ d i=ae:=λi K s=>(f.ZW d.testBit K).1 (by rw[W];exact kN ((b3 i K).1 s) _)
 have n:Z o=1+dn (bC b 0 l):=by rw[M];exact(f.A4 b).2
 have sg':Rx.sz u=Z o:=by rw[<-g2,Rx.ko J.can]
 have X:Z o<Z (gS m l d.testBit):=by have:=Rx.dK hu.ne F.ne;rw[<-H,Rx.ko C.can]at this;omega
 have r:∃i,i<Z l/\b i=false/\mQ d i=ae:=eX λD=>by
  have:bC b 0 l=bC d.testBit 0 l:=A5 λj t=>by
   rw[eH];cases s:b j
   .cases hs:mQ d j
    .rfl
    .exact absurd ⟨j,t,s,hs⟩ D
   .exact(sub j t s).symm
  rw[n,this]at X;omega
 have q9:=RU sub r;have vY:0<bT b (Z l):=by
  rcases oW (bT b<|Z l)with N|N
  .have:bC b 0 l=bC (λ_=>false) 0 l:=A5 λj t=>by
    rw[eH];cases s:b j
    .rfl
    .have:=RX t s;omega
   have z:∀(L:V (V G))(i:Y),bC (λ_=>false) i L=[]:=by
    intro L;induction L with
    |nil=>intro i;rfl
    |cons y L ih=>intro i;rw[bC,w T,ih]
   rw[this,z]at n;have:Z o=1:=n;omega
  .exact N
 have g:∀i,i<Z l->mQ (ot b<|Z l) i=b i:=λi K=>RY b K
 have A6:bT (ot b<|Z l).testBit (Z l)=bT b (Z l):=Hu g;have x:gS m l (ot b<|Z l).testBit=o:=by rw[M,gS,gS,A5 (b:=(ot b<|Z l).testBit) (c:=b) λj t=>by rw[eH];exact g j t]
 refine hf (ot b<|Z l) (yO.2 ⟨Mb b _,O,O⟩) O ?_;rw[x,g2,Q];exact Rx.dvd_mul_right _ _
def gD.none(d:gD p m a l)(hl:l≠[])(hf:∀jh∈ls (Z l),¬Rx.zx (gS m l jh.testBit)∣Rx.zx a):Rx.bl (Rx.zx a):=by
 have q:=cv.2 hl;have n:=d.ZX (b:=λ_=>ae)<|RX (i:=0) q J;have N:∀(L:V (V G))(i:Y),bC (λ_=>ae) i L=L:=by
  intro L;induction L with
  |nil=>intro i;rfl
  |cons y L s=>intro i;rw[bC,ao J,s]
 rw[N]at n;have H:=d.len;refine⟨by rw[Rx.ko d.am.can];omega,λA B e=>eX λK=>?_⟩;let ⟨u,v,hu,R,o,P,Q⟩:=Rx.RT (Rx.nf d.am) e (λd=>K<|.inl d)<|λd=>K<|.inr d;let ⟨g,k,U,W,g2,t⟩:=d.C9 hu R o;let ⟨b,X,r,b3,_⟩:=d.mask U W (by rw[g2,t];exact o);have pos:∀{c:Y->Bool}{x:V G},x=gS m l c->2<=Z x->0<bT c (Z l):=by
  intro c x C h2;rcases oW (bT c<|Z l)with D|D
  .have S:bC c 0 l=bC (λ_=>false) 0 l:=A5 λj F=>by
    rw[eH];cases hb:c j
    .rfl
    .have:=RX F hb;omega
   have z:∀(L:V (V G))(i:Y),bC (λ_=>false) i L=[]:=by
    intro L;induction L with
    |nil=>intro i;rfl
    |cons y L s=>intro i;rw[bC,w T,s]
   have E:=(d.A4 c).2;rw[<-C,S,z]at E;have:Z x=1:=E;omega
  .exact D
 have p1:=pos X (by rw[<-g2,Rx.ko U.can]at P;exact P);have p2:=pos r (by rw[<-t,Rx.ko W.can]at Q;exact Q);have I:=RV b<|Z l;have M:∀(c:Y->Bool)(x:V G),x=gS m l c->0<bT c (Z l)->bT c (Z l)<=Z l/2->Rx.zx x∣Rx.zx a->False:=by
  intro c x C hp hle hd;have f:∀i,i<Z l->mQ (ot c<|Z l) i=c i:=λi hi=>RY c hi
  have A6:bT (ot c<|Z l).testBit (Z l)=bT c (Z l):=Hu f;refine hf (ot c<|Z l) (yO.2 ⟨Mb c _,O,O⟩) ?_;rw[show gS m l (ot c<|Z l).testBit=x by rw[C,gS,gS,A5 (b:=(ot c<|Z l).testBit) (c:=c) λj F=>by rw[eH];exact f j F]];exact hd
 by_cases hh:bT b (Z l)<=Z l/2
 .exact M b g X p1 hh (by rw[g2,o];exact Rx.dvd_mul_right _ _)
 .exact M _ k r p2 O (by rw[t,o];exact Rx.dvd_mul_left _ _)
end
open Classical in
noncomputable def lQ(a g:V G):V G:=if h:∃q,aH q/\Rx.zx a=Rx.zx g*Rx.zx q then AU h else[]
open Classical in
noncomputable def r7(m:G)(a:V G)(l:V (V G)):Option Y:=(ls<|Z l).find? λS=>decide<|Rx.zx (gS m l S.testBit)∣Rx.zx a
noncomputable def qN(m:G):Y->V G->V (V G)->V (V G)
 |0,a,_=>[a]
 |k+1,a,l=>match r7 m a l with
  |some d=>gS m l d.testBit::qN m k (lQ a<|gS m l d.testBit) (bC (λi=> !d.testBit i) 0 l)
  |none=>[a]
open Classical in
def ZY{m}{a}{l}{e}(i:r7 m a l=some e):∃d f,ls (Z l)=d++e::f/\Rx.zx (gS m l e.testBit)∣Rx.zx a/\∀g∈d,¬Rx.zx (gS m l g.testBit)∣Rx.zx a:=by unfold r7 at i;let ⟨k,d,f,h2,n⟩:=List.find?_eq_some_iff_append.1 i;refine⟨d,f,h2,aT k,λg o p=>?_⟩;have:=n g o;rw[E5]at this;exact a4 this p
open Classical in
def alb{m}{a}{l}(e:r7 m a l=none):∀d∈ls (Z l),¬Rx.zx (gS m l d.testBit)∣Rx.zx a:=by unfold r7 at e;intro d f g;exact List.find?_eq_none.1 e d f<|qq g
section
variable{p:Y}{m:G}{a:V G}{l:V (V G)}
def gD.alc(k:gD p m a l){d}(n:r7 m a l=some d):Rx.bl (Rx.zx<|gS m l d.testBit):=by
 let ⟨us,ws,f,h2,o⟩:=ZY n;have q:d∈ls (Z l):=by rw[f];simp
 refine k.first q h2 λT g s=>?_
 have i:=ak4<|Z l;rw[f]at g i;rcases aY.1 g with e|e
 .exact o T e
 .exfalso;rcases bX.1 e with e|e
  .subst e;omega
  .have:=(jr.1 (w5.1 i).2.1).1 T e;omega
def gD.rest(o:gD p m a l){d}(hS:d∈ls (Z l))(hd:Rx.zx (gS m l d.testBit)∣Rx.zx a):Rx.zx a=Rx.zx (gS m l d.testBit)*Rx.zx (lQ a<|gS m l d.testBit)/\gD p m (lQ a<|gS m l d.testBit) (bC (λi=> !d.testBit i) 0 l)/\bC (λi=> !d.testBit i) 0 l≠[]/\Z (bC (λi=> !d.testBit i) 0 l)<Z l:=by
 let ⟨_,D,E⟩:=yO.1 hS;let ⟨C,gl⟩:=o.A4 d.testBit;have t:∃q,aH q/\Rx.zx a=Rx.zx (gS m l d.testBit)*Rx.zx q:=by
  let ⟨k,F⟩:=hd;have K:Rx.Mo k:=by have:=Rx.nf o.am;rw[F]at this;exact this.yy<|Rx.nf C
  let ⟨I,z,J,_,M,_⟩:=o.C9 K (Rx.nf C) F;exact⟨I,J,by rw[M,F,Rx.mul_comm]⟩
 let ⟨P,u⟩:=uL t;have N:lQ a (gS m l d.testBit)=AU t:=by unfold lQ;rw[dif_pos t]
 rw[<-N]at P u;generalize hg:gS m l d.testBit=g at*;generalize lQ a g=q at*;let ⟨b,b1,R,T,b4,b5⟩:=o.mask C P u;have Q:∀j,j<Z l->b j=mQ d j:=λj B=>by
  have U:=T j B;rw[<-hg,o.ZW d.testBit B]at U;cases W:b j
  .cases hs:mQ d j
   .rfl
   .rw[U.2 hs]at W;cases W
  .exact(U.1 W).symm
 have s:bC (λi=> !b i) 0 l=bC (λi=> !d.testBit i) 0 l:=A5 λj B=>by rw[eH,Q j B]
 have v:∀(c:Y->Bool)(L:V (V G))(i:Y),Z (bC c i L)=bT (λj=>c<|i+j) (Z L):=by
  intro c L;induction L with
  |nil=>intro i;rfl
  |cons y L ih=>
   intro i
   have sh:∀n,bT (λj=>c<|i+j) (n+1)=(if c i then 1 else 0)+bT (λj=>c<|i+1+j) n:=by
    intro n;induction n with
    |zero=>rw[bT,bT,bT];simp
    |succ n X=>rw[bT,X,bT,(O:i+(n+1)=i+1+n)];omega
   rw[bC,gQ,sh]
   have:=ih<|i+1
   split
   .rw[gQ];omega
   .omega
 have x:Z (bC (λi=> !d.testBit i) 0 l)=bT (λi=> !d.testBit i) (Z l):=by rw[v];exact Hu λi _=>by rw[eH]
 have A:=RV d.testBit<|Z l;refine⟨u,?_,λe=>by rw[e]at x;simp at x;omega,O⟩;have r:Rx.zx q∣Rx.zx a:=by rw[u];exact Rx.dvd_mul_left _ _
 refine⟨o.H,o.pm,P,λf w=>o.lm f<|wZ w,λf w=>o.fI f<|wZ w,Hr o.pair,s▸b5,?_,?_,λz g1 g2=>o.bd z g1<|Rx.dvd_trans g2 r⟩
 .refine o.kS.of_dvd ?_;rw[RZ (Rx.L3 u.symm)];exact dvd_mul_left _ _
 .rw[R,(o.A4 _).2,s]
def gD.all:∀(k:Y){a:V G}{l:V (V G)},Z l<=k->l≠[]->gD p m a l->(∀d∈qN m k a l,aH d/\Rx.bl (Rx.zx d))/\Rx.oq (qN m k a l)=Rx.zx a
 |0,_,l,n,h2,_=>absurd (fE O) h2
 |k+1,a,l,n,h2,f=>by
  rw[qN];cases g:r7 m a l with
  |none=>
   have o:=f.none h2<|alb g
   refine⟨λd i=>?_,Rx.mul_one _⟩
   rw[iU.1 i]
   exact⟨f.am,o⟩
  |some S=>
   let ⟨us,ws,s1,s2,_⟩:=ZY g
   have q:S∈ls (Z l):=by rw[s1];simp
   let ⟨r1,s,t,u⟩:=f.rest q s2
   let ⟨i1,i2⟩:=gD.all k O t s
   refine⟨λd i=>?_,by rw[Rx.oq,i2,<-r1]⟩
   rcases bX.1 i with e|e
   .rw[e];exact⟨(f.A4 _).1,f.alc g⟩
   .exact i1 d e
end
end Go.El
namespace Go.El
open Go Go.Proofs
def ald{l}{k}t(a:k<Z l)(d:E l k 0=0):Rx.zx (l.set k t)=Rx.zx l+Rx.K (t:D)*Rx.X k:=Rx.ext λi=>by
 rw[Rx.eI,Rx.fZ,Rx.Dr,Rx.km,Rx.km,sX _ _ _ _ a];by_cases e:k=i
 .subst e;rw[ao J,ao J,d,Rat.intCast_zero];grind
 .rw[w e,w<|λa=>e a.symm];grind
end Go.El
