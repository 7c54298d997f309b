/- Plain: Bombieri's inequality for products of integer polynomials. Own work; no condition. -/
import Derived.Test.YtceihkmakfdcnaaGreatD6
import Derived.Test.YtceihkmakfdcnaaGreatD8
import Derived.Test.YtceihkmakfdcnaaGreatD7
set_option linter.all false
set_option maxHeartbeats 16000000
set_option maxRecDepth 100000
open Bool renaming true->ae
open Classical renaming choose->Ci
open Int renaming mul_zero->I1,le_of_eq->abw,natAbs->aC,natAbs_mul_self->ank
open List renaming getD->E,range->bX,length->Z,replicate->bc
open Nat renaming one_pos->C9,dvd_mul_left_of_dvd->anm,blt->dy,lt_or_gt_of_ne->anr,div_div_eq_div_mul->ans,add_mul_div_right->ant,testBit->oU
open Quotient renaming liftOn₂->anB,liftOn->anC
open _root_ renaming Nat->Y,Int->G,Rat->e,List->V
namespace Go.El
open Go Go.Proofs
def bH:Y->Y
 |0=>1
 |n+1=>(n+1)*bH n
def IX:∀n,0<bH n
 |0=>C9
 |n+1=>zc (Nat.succ_pos n)<|IX n
def uK:∀i a,ch (i+a) i*(bH i*bH a)=bH (i+a)
 |0,a=>by rw[ff,rR,bH,jn,jn]
 |i+1,0=>by rw[jy,Ic,show bH 0=1 from J,qB,jn]
 |i+1,a+1=>by
  have d:=uK i<|a+1;have f:=uK (i+1) a;rw[(O:i+1+(a+1)=(i+(a+1))+1),ch,show bH (i+(a+1)+1)=(i+(a+1)+1)*bH (i+(a+1))from J,gO];rw[(O:i+(a+1)=i+1+a)]at d⊢;have g:ch (i+1+a) i*(bH (i+1)*bH (a+1))=(i+1)*bH (i+1+a):=by rw[<-d,bH];ac_rfl
  have k:ch (i+1+a) (i+1)*(bH (i+1)*bH (a+1))=(a+1)*bH (i+1+a):=by rw[<-f,show bH (a+1)=(a+1)*bH a from J];ac_rfl
  rw[g,k,<-gO,(O:i+1+(a+1)=i+1+a+1)]
def sN(f:Y->Y):Y->Y
 |0=>0
 |k+1=>sN f k+f k
def abq{f g:Y->Y}:∀{k:Y},(∀i,i<k->f i=g i)->sN f k=sN g k
 |0,_=>rfl
 |k+1,a=>by rw[sN,sN,abq<|λi d=>a i O,a k O]
def abr(f g:Y->Y):∀k,sN (λi=>f i+g i) k=sN f k+sN g k
 |0=>rfl
 |k+1=>by simp only[sN,abr f g k];omega
def NC(f:Y->Y):∀k,sN f (k+1)=f 0+sN (λi=>f<|i+1) k
 |0=>by simp[sN]
 |k+1=>by rw[sN,NC f k,sN];omega
def TF(f:Y):∀a k,ch (a+f) k=sN (λt=>ch a t*ch f (k-t)) (k+1)
 |0,k=>by
  rw[NC,rR,jn,ff,BO];have:sN (λi=>ch 0 (i+1)*ch f (k-(i+1))) k=0:=by
   have e:∀d,sN (λi=>ch 0 (i+1)*ch f (k-(i+1))) d=0:=λd=>by
    induction d with
    |zero=>rfl
    |succ n g=>rw[sN,g,zn 0 (n+1) O,sU]
   exact e k
  rw[this];rfl
 |a+1,0=>by rw[rR,sN,sN,rR,rR]
 |a+1,k+1=>by
  rw[(O:a+1+f=a+f+1),ch,TF f a k,TF f a<|k+1,NC<|λt=>ch (a+1) t*ch f (k+1-t),NC<|λt=>ch a t*ch f (k+1-t)];have e:sN (λi=>ch (a+1) (i+1)*ch f (k+1-(i+1))) (k+1)=sN (λi=>ch a i*ch f (k-i)) (k+1)+sN (λi=>ch a (i+1)*ch f (k+1-(i+1))) (k+1):=by
   rw[<-abr];refine abq λi _=>?_
   rw[ch,gO,(O:k+1-(i+1)=k-i)]
  rw[e,rR,rR];omega
def xT{f:Y->G}{a:Y}:∀{n:Y},a<n->(∀i,i<n->i≠a->f i=0)->sm f n=f a
 |0,g,_=>by omega
 |n+1,g,d=>by
  rw[sm];by_cases k:a=n
  .subst k;rw[qF (λi l=>d i O O),BG]
  .rw[xT (n:=n) O (λi l=>d i O),d n O O,rL]
def abt(f:Y->Y):∀k,((sN f k:Y):G)=sm (λi=>((f i:Y):G)) k
 |0=>rfl
 |k+1=>by rw[sN,sm,xt,abt f k]
def tn(a:Y->Y->G)(m:Y):∀n,sm (λi=>sm (λd=>a i d) m) n=sm (λd=>sm (λi=>a i d) n) m
 |0=>(qF λ_ _=>rfl).symm
 |n+1=>by rw[sm,tn a m n,<-MH];rfl
def ND{f:Y->G}:∀{n:Y},(∀i,i<n->0<=f i)->0<=sm f n
 |0,_=>hO _
 |n+1,a=>by
  have d:=ND (f:=f) (n:=n) λi g=>a i O
  have k:=a n O;rw[sm];omega
def IZ{f g:Y->G}:∀{n:Y},(∀i,i<n->f i<=g i)->sm f n<=sm g n
 |0,_=>hO _
 |n+1,a=>by
  have d:=IZ (f:=f) (g:=g) (n:=n) λi k=>a i O
  have l:=a n O;rw[sm,sm];omega
def NF{f:Y->G}{a n}(g:a<n)(k:∀i,i<n->0<=f i):f a<=sm f n:=by
 have e:sm (λi=>if i=a then f a else 0) n=f a:=(xT g λi _ d=>w d).trans<|b J;rw[<-e];refine IZ λi d=>?_
 split
 .rename_i e;subst e;exact hO _
 .exact k i d
def s2(k l:Y)(d:Y->Y->G):G:=sm (λa=>sm (λe=>d a e)<|l+1)<|k+1
def uL{k l}{f g:Y->Y->G}(i:∀a d,a<=k->d<=l->f a d=g a d):s2 k l f=s2 k l g:=gI λa m=>gI λd n=>i a d O O
def wo k l d(f:Y->Y->G):s2 k l (λa g=>d*f a g)=d*s2 k l f:=by unfold s2;rw[<-zj];exact gI λa _=>zj _ _ _
def TG k l d(f:Y->Y->G):s2 k l (λa g=>f a g*d)=s2 k l f*d:=by rw[eX,<-wo];exact uL λ_ _ _ _=>eX _ _
def NG k l f g(i:Y->Y->Y->Y->G):s2 k l (λa d=>s2 f g<|λt s=>i a d t s)=s2 f g (λt s=>s2 k l<|λa d=>i a d t s):=by
 unfold s2;have m:∀a,sm (λd=>sm (λt=>sm (λs=>i a d t s)<|g+1)<|f+1) (l+1)=sm (λt=>sm (λs=>sm (λd=>i a d t s)<|l+1)<|g+1) (f+1):=λa=>by rw[tn];exact gI λt _=>tn _ _ _
 rw[gI λa _=>m a,tn];exact gI λt _=>tn _ _ _
def am'{k l}{f g:Y->Y->G}(i:∀a d,a<=k->d<=l->f a d<=g a d):s2 k l f<=s2 k l g:=IZ λa m=>IZ λd n=>i a d O O
def ana{k l}{d:Y->Y->G}{a e}(m:a<=k)(p:e<=l)(g:∀a e,a<=k->e<=l->0<=d a e):d a e<=s2 k l d:=by refine tq (NF (f:=λe=>d a e) (a:=e) (n:=l+1) O λi o=>g a i m O) ?_;exact NF (f:=λa=>sm (λe=>d a e)<|l+1) (a:=a) (n:=k+1) O λi o=>ND λj s=>g i j O O
def anb{k l}{n:Y->Y->G}{a m}(s:a<=k)(u:m<=l)(p:∀i d,i<=k->d<=l->¬(i=a/\d=m)->n i d=0):s2 k l n=n a m:=by unfold s2;rw[xT (a:=a) O λi v g=>qF λd t=>p i d O O λo=>g o.1];exact xT (f:=λm=>n a m) (a:=m) O λd t g=>p a d s O λo=>g o.2
def eta(t s a d:Y):G:=if t<=a/\s<=d/\a-t=d-s then((ch a t*ch d s*bH (a-t):Y):G)else 0
def abu{k l a e a' f}(ha:a<=k)(he:e<=l)(g:a'<=k)(hf:f<=l):(if a+f=a'+e then((bH (a+f):Y):G)else 0)=s2 k l (λt s=>((bH t*bH s:Y):G)*(eta t s a e*eta t s a' f)):=by
 by_cases h:a+f=a'+e
 .rw[b h,h,<-uK a' e,<-h,TF f a a',fD,abt];have A:sm (λt=>((ch a t*ch f (a'-t):Y):G)) (a'+1)=sm (λt=>((ch a t*ch f (a'-t):Y):G)*(if t<=a' then 1 else 0)) (k+1):=by
   have B:∀n,a'<=n->sm (λt=>((ch a t*ch f (a'-t):Y):G)*(if t<=a' then 1 else 0)) (n+1)=sm (λt=>((ch a t*ch f (a'-t):Y):G)) (a'+1):=λn c=>by
    induction n with
    |zero=>
     have:a'=0:=O
     subst this
     exact gI λi C=>by rw[b O,ns]
    |succ n H=>
     by_cases K:a'<=n
     .rw[sm,H K,w O,gY,rL]
     .have:a'=n+1:=by omega
      subst this;exact gI λi C=>by rw[b O,ns]
   exact(B k g).symm
  rw[A,<-Sk];unfold s2;refine gI λt L=>?_
  by_cases m:t<=a'/\t<=a/\a-t<=e
  .let ⟨m,h2,M⟩:=m;rw[b m,ns];rw[xT (a:=e-(a-t)) O λs p P=>?_]
   .have d:t<=a/\e-(a-t)<=e/\a-t=e-(e-(a-t)):=by omega
    have Q:t<=a'/\e-(a-t)<=f/\a'-t=f-(e-(a-t)):=O;dsimp only;rw[eta,b d,eta,b Q];have T:=uK t<|a-t;have u:=uK (e-(a-t))<|a-t;have v:=uK t<|a'-t;have x:=uK (e-(a-t))<|a'-t;have y:=uK (a'-t)<|e-(a-t);rw[(O:t+(a-t)=a)]at T;rw[(O:e-(a-t)+(a-t)=e)]at u;rw[(O:t+(a'-t)=a')]at v;rw[(O:e-(a-t)+(a'-t)=f)]at x;rw[(O:a'-t+(e-(a-t))=f)]at y;have o:ch a t*ch f (a'-t)*(bH a'*bH e)=bH t*bH (e-(a-t))*(ch a t*ch e (e-(a-t))*bH (a-t)*(ch a' t*ch f (e-(a-t))*bH (a'-t))):=by rw[<-v,<-u];have U:ch f (a'-t)*(bH (a'-t)*bH (e-(a-t)))=ch f (e-(a-t))*(bH (e-(a-t))*bH (a'-t)):=y.trans x.symm;have W:ch a t*ch f (a'-t)*(ch a' t*(bH t*bH (a'-t))*(ch e (e-(a-t))*(bH (e-(a-t))*bH (a-t))))=ch a t*ch a' t*bH t*ch e (e-(a-t))*bH (a-t)*(ch f (a'-t)*(bH (a'-t)*bH (e-(a-t)))):=fG;rw[W,U];ac_rfl
    rw[<-fD,<-fD,<-fD,o]
   .have:¬(t<=a/\s<=e/\a-t=e-s):=by omega
    dsimp only;rw[eta,w this,nq,gY]
  .have X:((ch a t*ch f (a'-t):Y):G)*(if t<=a' then 1 else 0)=0:=by
    by_cases h2:t<=a'
    .by_cases M:t<=a
     .rw[zn f (a'-t) O,NH];simp
     .rw[zn a t O,sU];simp
    .rw[w h2,gY]
   rw[X,nq];refine(qF λs p=>?_).symm;by_cases d:t<=a/\s<=e/\a-t=e-s
   .have:¬(t<=a'/\s<=f/\a'-t=f-s):=by omega
    dsimp only;rw[show eta t s a' f=0 by rw[eta,if_neg this],I1,I1]
   .dsimp only;rw[eta,if_neg d,Int.zero_mul,I1]
 .rw[w h];unfold s2;refine(qF λt L=>qF λs p=>?_).symm;by_cases d:t<=a/\s<=e/\a-t=e-s
  .have:¬(t<=a'/\s<=f/\a'-t=f-s):=by omega
   dsimp only;rw[show eta t s a' f=0 by rw[eta,if_neg this],I1,I1]
  .dsimp only;rw[eta,if_neg d,Int.zero_mul,I1]
def abv t s:eta t s t s=1:=by rw[eta,b O,Ic,Ic,lH];rfl
def Cc(x:G):0<=x*x:=by
 rcases Int.le_total 0 x with h|h
 .exact jx h h
 .have:=jx (a:= -x) (b:= -x) O O;rwa[Int.neg_mul_neg]at this
def anc k l(y:Y->Y->G):
  s2 k l (λt s=>((bH t*bH s:Y):G)*((bH (k-t)*bH (l-s):Y):G)*(y t s*y t s))<=
  s2 k l (λa d=>s2 k l<|λg f=>y a d*y g f*((if a+f=g+d then((bH (a+f):Y):G)else 0)*(if(k-a)+(l-f)=(k-g)+(l-d)then((bH ((k-a)+(l-f)):Y):G)else 0))):=by
 have p:s2 k l (λa d=>s2 k l<|λg f=>y a d*y g f*((if a+f=g+d then((bH (a+f):Y):G)else 0)*(if(k-a)+(l-f)=(k-g)+(l-d)then((bH ((k-a)+(l-f)):Y):G)else 0)))=
   s2 k l (λt s=>s2 k l<|λm n=>((bH t*bH s:Y):G)*((bH m*bH n:Y):G)*(s2 k l (λa d=>y a d*(eta t s a d*eta m n (k-a) (l-d)))*s2 k l (λa d=>y a d*(eta t s a d*eta m n (k-a) (l-d))))):=by
  have u:∀a d,a<=k->d<=l->s2 k l (λg f=>y a d*y g f*((if a+f=g+d then((bH (a+f):Y):G)else 0)*(if(k-a)+(l-f)=(k-g)+(l-d)then((bH ((k-a)+(l-f)):Y):G)else 0)))=s2 k l (λt s=>s2 k l<|λm n=>((bH t*bH s:Y):G)*((bH m*bH n:Y):G)*(y a d*(eta t s a d*eta m n (k-a) (l-d))*s2 k l (λa d=>y a d*(eta t s a d*eta m n (k-a) (l-d))))):=by
   intro a d v x;have A:∀g f,g<=k->f<=l->y a d*y g f*((if a+f=g+d then((bH (a+f):Y):G)else 0)*(if(k-a)+(l-f)=(k-g)+(l-d)then((bH ((k-a)+(l-f)):Y):G)else 0))=s2 k l (λt s=>s2 k l<|λm n=>((bH t*bH s:Y):G)*((bH m*bH n:Y):G)*(y a d*(eta t s a d*eta m n (k-a) (l-d))*(y g f*(eta t s g f*eta m n (k-g) (l-f))))):=by
    intro g f o B;rw[abu v x o B,abu (k:=k) (l:=l) (a:=k-a) (e:=l-d) (a':=k-g) (f:=l-f) O O O O,<-TG,<-wo];refine uL λt s _ _=>?_
    rw[<-wo,<-wo];refine uL λm n _ _=>?_
    ac_rfl
   rw[uL A,NG];refine uL λt s _ _=>?_
   rw[NG];refine uL λm n _ _=>?_
   rw[<-wo,<-wo]
  rw[uL u,NG]
  refine uL λt s _ _=>?_
  rw[NG]
  refine uL λm n _ _=>?_
  rw[wo,TG]
 rw[p]
 refine am' λt s C H=>?_
 refine tq (abw ?_)<|ana (k:=k) (l:=l) (a:=k-t) (e:=l-s) O O λm n _ _=>jx (jx (qR _)<|qR _)<|Cc _
 have K:s2 k l (λa d=>y a d*(eta t s a d*eta (k-t) (l-s) (k-a) (l-d)))=y t s:=by
  rw[anb C H λi j M P L=>?_]
  .rw[abv,abv,ns,ns]
  .by_cases c1:t<=i/\s<=j/\i-t=j-s
   .have:¬(k-t<=k-i/\l-s<=l-j/\k-i-(k-t)=l-j-(l-s)):=by omega
    rw[show eta (k-t) (l-s) (k-i) (l-j)=0 by rw[eta,w this],gY,gY]
   .rw[eta,w c1,nq,gY]
 rw[K]
def Bw(n:Y)(A:Y->G):G:=sm (λi=>((bH i*bH (n-i):Y):G)*(A i*A i))<|n+1
def ane{A B:PS}{k l i}(p:∀g,k<g->A g=0)(s:∀g,l<g->B g=0):(A*B) i=s2 k l (λa f=>if a+f=i then A a*B f else 0):=by
 rw[PS.fF];unfold s2;have t:∀a,a<=i->A a*B (i-a)=sm (λf=>if a+f=i then A a*B f else 0) (l+1):=λa m=>by
  by_cases e:i-a<=l
  .rw[xT (a:=i-a) O λf _ u=>w O,b O]
  .rw[s (i-a) O,gY];exact(qF λf L=>w O).symm
 rw[gI λa m=>t a O];have o:∀n,(∀a,n<=a->sm (λf=>if a+f=i then A a*B f else 0) (l+1)=0)->∀d,sm (λa=>sm (λf=>if a+f=i then A a*B f else 0)<|l+1) (n+d)=sm (λa=>sm (λf=>if a+f=i then A a*B f else 0)<|l+1) n:=λn v d=>by
  induction d with
  |zero=>rfl
  |succ d x=>rw[<-rq,sm,x,v _ O,rL]
 have y:∀a,i+1<=a->sm (λf=>if a+f=i then A a*B f else 0) (l+1)=0:=λa m=>qF λf _=>w O
 have C:∀a,k+1<=a->sm (λf=>if a+f=i then A a*B f else 0) (l+1)=0:=λa m=>qF λf _=>by rw[p a O,nq,ite_self]
 have H:=o _ y<|k+1;have K:=o _ C<|i+1;rw[<-H,<-K];congr 1;omega
def anf{A B:PS}{k l}(v:∀g,k<g->A g=0)(x:∀g,l<g->B g=0):Bw k A*Bw l B<=Bw (k+l) (A*B):=by
 have u:=anc k l<|λa e=>A a*B e;have y:s2 k l (λt s=>((bH t*bH s:Y):G)*((bH (k-t)*bH (l-s):Y):G)*(A t*B s*(A t*B s)))=Bw k A*Bw l B:=by
  unfold Bw s2;rw[<-Sk];refine gI λt _=>?_
  rw[<-zj];refine gI λs _=>?_
  simp only[fD];ac_rfl
 rw[y]at u;refine tq u<|abw ?_;have C:Bw (k+l) (A*B)=s2 k l (λa f=>s2 k l<|λd e=>A a*B f*(A d*B e)*(if a+f=d+e then((bH (a+f)*bH (k+l-(a+f)):Y):G)else 0)):=by
  unfold Bw;have H:∀i,i<k+l+1->((bH i*bH (k+l-i):Y):G)*((A*B) i*(A*B) i)=s2 k l (λa f=>s2 k l<|λd e=>A a*B f*(A d*B e)*(if a+f=i then(if d+e=i then((bH i*bH (k+l-i):Y):G)else 0)else 0)):=λi _=>by
   rw[ane v x,<-TG,<-wo];refine uL λa f _ _=>?_
   rw[<-wo,<-wo];refine uL λd e _ _=>?_
   by_cases c1:a+f=i
   .by_cases n:d+e=i
    .rw[b c1,b c1,b n,b n,eX]
    .rw[w n,w n,ite_self];simp only[gY]
   .rw[w c1,w c1,nq,gY,gY]
  rw[gI H];unfold s2;rw[tn];refine gI λa K=>?_
  rw[tn];refine gI λf L=>?_
  rw[tn];refine gI λd o=>?_
  rw[tn];refine gI λe M=>?_
  rw[zj];congr 1;rw[xT (a:=a+f) O λi _ p=>w λh=>p h.symm,b J];by_cases c:a+f=d+e
  .rw[b c.symm,b c]
  .rw[w λh=>c h.symm,w c]
 rw[C];unfold s2;refine gI λa K=>?_
 have P:∀(m:Y->Y->Y->G),sm (λe=>sm (λd=>sm (λf=>m e d f)<|l+1)<|k+1) (l+1)=sm (λf=>sm (λd=>sm (λe=>m e d f)<|l+1)<|k+1) (l+1):=λm=>by
  rw[tn];have Q:sm (λd=>sm (λe=>sm (λf=>m e d f)<|l+1)<|l+1) (k+1)=sm (λd=>sm (λf=>sm (λe=>m e d f)<|l+1)<|l+1) (k+1):=gI λd _=>tn _ _ _
  rw[Q,tn]
 rw[P];refine gI λf L=>gI λd o=>gI λe M=>?_
 by_cases c:a+f=d+e
 .dsimp only;rw[b c,b O,b c,<-fD,(O:k-a+(l-f)=k+l-(a+f))];ac_rfl
 .dsimp only;rw[w c,w c,nq,gY,gY]
def abx{P:Y->Prop}:∀n,P n->∃m,P m/\∀k,k<m->¬P k:=by
 intro n;induction n using Nat.strongRecOn with
 |ind n a=>
  intro h
  by_cases e:∃k,k<n/\P k
  .let ⟨k,d,h2⟩:=e;exact a k d h2
  .exact⟨n,h,λk f g=>e ⟨k,f,g⟩⟩
def ang{k}(i:2<=k):∃f,dO f/\f∣k:=by
 let ⟨m,⟨l,h2⟩,n⟩:=abx (P:=λd=>2<=d/\d∣k) k ⟨i,Nat.dvd_refl k⟩;refine⟨m,⟨l,λd g o p=>?_⟩,h2⟩;have a:d<m:=by have:d*2<=d*d:=fN d g;omega
 exact n d a ⟨g,Fb (I2 p) h2⟩
def aby(f:Y->G):∀k,((sm f k:G):e)=sq (λi=>(f i:e)) k
 |0=>rfl
 |k+1=>by rw[sm,sq,Rat.intCast_add,aby f k]
namespace Rx
def dq(A:Rx):Prop:=∀i,A i=((A i).num:e)
def nu(A:Rx):PS:=λi=>(A i).num
def dq.of{A}(d:∀i,∃a:G,A i=(a:e)):dq A:=λi=>by let ⟨a,f⟩:=d i;rw[f];rfl
def dq.at{A}(a:dq A) i:A i=((nu A i:G):e):=a i
def dq.mul'{A B}(a:dq A)(d:dq B) i:(A*B) i=(((nu A*nu B) i:G):e):=by rw[PS.fF,aby,fF];exact uB λj _=>by rw[a.at,d.at,fZ]
def dq.mul{A B}(a:dq A)(d:dq B):dq (A*B):=dq.of λi=>⟨_,a.mul' d i⟩
def Cd{A B}(a:dq A)(d:dq B):nu (A*B)=nu A*nu B:=PS.ext λi=>by show((A*B) i).num=_;rw[a.mul' d i];rfl
def dq.K(a:G):dq (K (a:e)):=dq.of λi=>by
 rw[mj];split
 .exact⟨a,J⟩
 .exact⟨0,J⟩
def anh(a:G):nu (Rx.K (a:e))=PS.K a:=PS.ext λi=>by show((Rx.K (a:e)) i).num=PS.K a i;rw[mj,PS.K];split<;>rfl
def wq{A}{i}(a:sz A<=i):nu A i=0:=by show(A i).num=0;rw[mR a];rfl
def dq.sub{A B}(a:dq A)(d:dq B):dq (A-B):=dq.of λi=>⟨nu A i-nu B i,by rw[lO,a.at,d.at,Nq]⟩
def NI a:((a.den:Y):e)*a=(a.num:e):=by
 have h:=pD a;rw[Np,zq,r9]at h;have f:=lU _<|xQ<|TH.1 a.den_pos;have d:((a.den:Y):e)*a=((a.den:Y):e)*((a.num:e)*((a.den:Y):e)⁻¹):=by rw[h]
 rw[d];grind
def ani A:∃a:Y,0<a/\dq (K ((a:Y):e)*A):=by
 have d:∀n,∃a:Y,0<a/\∀i,i<n->∃z:G,(a:e)*A i=(z:e):=by
  intro n;induction n with
  |zero=>exact⟨1,D,λi h=>absurd h O⟩
  |succ n k=>
   let ⟨a,f,h2⟩:=k
   refine⟨a*(A n).den,zc f (A n).den_pos,λi o=>?_⟩
   by_cases g:i=n
   .subst g;refine⟨(a:G)*(A i).num,?_⟩;rw[fZ,zO,ny,NI];rfl
   .let ⟨z,l⟩:=h2 i O;refine⟨z*((A n).den:G),?_⟩;rw[fZ,<-l,zO,r9];grind
 let ⟨n,m⟩:=A.fin;let ⟨a,f,h2⟩:=d n;refine⟨a,f,dq.of λi=>?_⟩;rw[fh];by_cases g:i<n
 .exact h2 i g
 .exact⟨0,by rw[m i O,fH];rfl⟩
structure Dn(A:Rx)(m:Y):Prop where
 pos:0<m
 int:dq (K ((m:Y):e)*A)
 dvd:∀d:Y,dq (K ((d:Y):e)*A)->m∣d
def I3 A:∃m,Dn A m:=by
 let ⟨D,g,h2⟩:=ani A;let ⟨m,⟨a,f⟩,i⟩:=abx (P:=λd=>0<d/\dq (K ((d:Y):e)*A)) D ⟨g,h2⟩;refine⟨m,a,f,λd k=>?_⟩;refine I2<|eZ λl=>?_;refine i (d%m) (fS _ a) ⟨O,?_⟩;have n:K ((d%m:Y):e)*A=K ((d:Y):e)*A-K (((d/m:Y):G):e)*(K ((m:Y):e)*A):=by
  have o:((d:Y):e)=((d/m:Y):e)*((m:Y):e)+((d%m:Y):e):=by rw[<-zO,<-Rat.natCast_add,gG,rC]
  rw[<-mul_assoc,<-fa,<-sub_mul,<-amE,o,r9];congr 2;grind
 rw[n];exact k.sub<|(dq.K _).mul f
def Dn.abz{A}(o:Mo A){m}(d:Dn A m){a}(t:dO a):¬∀i,nu (K ((m:Y):e)*A) i%(a:G)=0:=λp=>by
 have u:=t.1;let ⟨n,v⟩:=E7 o.ne;have y:nu (K ((m:Y):e)*A) n=(m:G):=by show((K ((m:Y):e)*A) n).num=_;rw[fh,o.at v,tj];rfl
 have B:a∣m:=xC.1<|y▸EK (p n);let ⟨k,C⟩:=B;have f:0<k:=by
  have:=d.pos;rcases qD k with g|g
  .subst g;omega
  .exact g
 have H:dq (K ((k:Y):e)*A):=dq.of λi=>by let ⟨w,hw⟩:=EK<|p i;refine⟨w,?_⟩;have s:=d.int.at i;rw[hw,fh,C,zO,fZ,r9]at s;rw[fh];have L:=lU _<|xQ (O:a≠0);have l:=be (λx=>((a:Y):e)⁻¹ *x) s;rw[<-ny,<-ny,<-ny,L]at l;rw[rZ,rZ]at l;exact l
 have:=vZ f<|d.dvd k H;have:2*k<=a*k:=eC k u;omega
def abA{P f}(B:Mo P)(H:Mo f){a g u}(n:Dn P a)(o:Dn f g)(v:Dn (P*f) u):u=a*g:=by
 have C:dq (K ((a:Y):e)*P*(K ((g:Y):e)*f)):=n.int.mul o.int;have x:K ((a:Y):e)*P*(K ((g:Y):e)*f)=K ((a*g:Y):e)*(P*f):=by rw[zO,fa];ac_rfl
 let ⟨k,L⟩:=v.dvd (a*g)<|x▸C;by_cases p:k=1
 .subst p;omega
 have M:=zc n.pos o.pos;have Q:0<k:=by
  rcases qD k with m|m
  .subst m;omega
  .exact m
 let ⟨q,s,t⟩:=ang (k:=k) O;have T:∀i,(nu (K ((a:Y):e)*P)*nu (K ((g:Y):e)*f)) i%(q:G)=0:=λi=>by have l:=n.int.mul' o.int i;rw[x,L,zO,fa,mul_comm (K _)<|K _,mul_assoc,fh,v.int.at i,<-r9,<-fZ]at l;rw[<-xU.1 l];exact BL<|Is (xC.2 t)<|Int.dvd_mul_right _ _
 have y:∀A:Rx,Dl (q:G) (sz A) (nu A):=λA i U=>by rw[wq U,gZ]
 rcases ER (y<|K ((a:Y):e)*P)with l|⟨d,_,d1,d2⟩
 .exact absurd (λi=>by have:=l.at i;rwa[PS.mO,gZ]at this)<|n.abz B s
 rcases ER (y<|K ((g:Y):e)*f)with l|⟨m,_,f1,f2⟩
 .exact absurd (λi=>by have:=l.at i;rwa[PS.mO,gZ]at this)<|o.abz H s
 exact absurd (T<|d+m)<|Go.El.BS s d2 f2 d1 f1
def nR(n:Y)(A:PS):G:=sm (λi=>(aC (A i):G))<|n+1
def abB(f:Y->G):∀n,(∀i,0<=f i)->sm (λi=>f i*f i) n<=sm f n*sm f n
 |0,_=>by simp[sm]
 |n+1,a=>by
  have g:=abB f n a;have d:=ND (f:=f) (n:=n) λi _=>a i
  have k:=jx d<|a n;rw[sm,sm,nI,om,om,eX (f n)<|sm f n];omega
def anj n(A:PS):Bw n A<=((bH n:Y):G)*(nR n A*nR n A):=by
 unfold Bw nR;have d:=abB (λi=>(aC (A i):G)) (n+1)<|λ_=>qR _;refine tq ?_<|kK d<|qR _;rw[<-zj];refine IZ λi l=>?_
 have f:bH i*bH (n-i)<=bH n:=by
  have a:=uK i<|n-i;rw[(O:i+(n-i)=n)]at a;have g:0<ch n i:=by
   rcases qD (ch n i)with e|e
   .rw[e,sU]at a;have:=IX n;omega
   .exact e
  rw[<-a];exact MN _ g
 have k:(aC (A i):G)*(aC (A i):G)=A i*A i:=by rw[<-fD,ank]
 rw[k];exact hP (NJ.2 f)<|Cc _
def abC n:∀k,ch n k<=2^n:=by
 induction n with
 |zero=>
  intro k
  cases k with
  |zero=>exact aO _
  |succ k=>exact aY _
 |succ n a=>
  intro k
  have d:=gQ (n:=n) (D:0<2)
  rw[fO]
  cases k with
  |zero=>rw[rR];omega
  |succ k=>
   have:=a k
   have:=a<|k+1
   rw[ch];omega
def anl{x y}(d:0<=y)(g:x*x<=y*y):(aC x:G)<=y:=by
 refine eZ λi=>?_
 have k:((aC x:G))*aC x=x*x:=by rw[<-fD,ank]
 have f:y<aC x:=O;have l:y*y<(aC x:G)*aC x:=by have m:=kK (a:=y) (O:y<=(aC x:G)) d;have n:=HV f (O:(0:G)<aC x);omega
 omega
def abD{A B}{k l}(p:∀d,k<d->A d=0)(y:∀d,l<d->B d=0)(s:B l≠0) i:(aC (A i):G)<=2^(k+l)*nR (k+l) (A*B):=by
 have g:0<=nR (k+l) (A*B):=ND λ_ _=>qR _
 have m:(0:G)<=2^(k+l):=Int.le_of_lt<|nH D;by_cases C:k<i
 .rw[p i C];exact jx m g
 refine anl (jx m g) ?_;have H:=tq (anf p y)<|anj (k+l)<|A*B;have t:((bH l:Y):G)<=Bw l B:=by
  have:=NF (f:=λi=>((bH i*bH (l-i):Y):G)*(B i*B i)) (a:=l) (n:=l+1) O λi _=>jx (qR _)<|Cc _
  refine tq ?_ this;rw[lH,show bH 0=1 from J,qB];have o:1<=B l*B l:=by have u:=Cc<|B l;have v:B l*B l≠0:=zp s s;omega
  have:=kK o<|qR<|bH l;rwa[ns]at this
 have o:((bH i*bH (k-i):Y):G)*(A i*A i)<=Bw k A:=NF (f:=λi=>((bH i*bH (k-i):Y):G)*(A i*A i)) (a:=i) (n:=k+1) O λi _=>jx (qR _)<|Cc _
 have u:((bH i*bH (k-i):Y):G)*(A i*A i)*((bH l:Y):G)<=((bH (k+l):Y):G)*(nR (k+l) (A*B)*nR (k+l) (A*B)):=by refine tq ?_ H;refine tq (kK t<|jx (qR _)<|Cc _) ?_;exact hP o<|tq (qR _) t
 have v:bH (k+l)=bH i*bH (k-i)*bH l*(ch (k+l) k*ch k i):=by have K:=uK k l;have x:=uK i<|k-i;rw[(O:i+(k-i)=k)]at x;rw[<-K,<-x];ac_rfl
 have L:ch (k+l) k*ch k i<=2^(k+l)*2^(k+l):=mL (abC _ _)<|bm (abC _ _)<|eQ D O;have M:0<bH i*bH (k-i)*bH l:=zc (zc (IX _)<|IX _)<|IX _;generalize nR (k+l) (A*B)=S at*;have P:((bH i*bH (k-i)*bH l:Y):G)*(A i*A i)<=((bH i*bH (k-i)*bH l:Y):G)*((2^(k+l)*2^(k+l))*(S*S)):=by
  have Q:((bH i*bH (k-i)*bH l:Y):G)*(A i*A i)=((bH i*bH (k-i):Y):G)*(A i*A i)*((bH l:Y):G):=by rw[fD];ac_rfl
  rw[Q];refine tq u ?_;rw[v,fD,jl];refine kK ?_<|qR _;refine hP ?_<|Cc S;have:=NJ.2 L;rw[fD (2^(k+l)),uv]at this;exact this
 have T:=Int.le_of_mul_le_mul_left P<|Int.natCast_pos.2 M;refine tq T<|abw ?_;ac_rfl
end Rx
def sb:V Y:=[1073741827,1073741831,1073741833,1073741839,1073741843,1073741857,1073741891,1073741909,1073741939,1073741953,1073741969,1073741971,
 1073741987,1073741993,1073742037,1073742053,1073742073,1073742077,1073742091,1073742113,1073742169,1073742203,1073742209,1073742223,
 1073742233,1073742259,1073742277,1073742289,1073742343,1073742353,1073742361,1073742391,1073742403,1073742463,1073742493,1073742517,
 1073742583,1073742623,1073742653,1073742667,1073742671,1073742673,1073742707,1073742713,1073742721,1073742731,1073742767,1073742773,
 1073742811,1073742851,1073742853,1073742881,1073742889,1073742913,1073742931,1073742937,1073742959,1073742983,1073743007,1073743037,
 1073743049,1073743051,1073743079,1073743091,1073743093,1073743123,1073743129,1073743141,1073743159,1073743163,1073743189,1073743199,
 1073743207,1073743243,1073743291,1073743303,1073743313,1073743327,1073743331,1073743337,1073743381,1073743387,1073743393,1073743397,
 1073743403,1073743417,1073743421,1073743427,1073743457,1073743459,1073743469,1073743501,1073743507,1073743513,1073743543,1073743577,
 1073743591,1073743633,1073743739,1073743757,1073743831,1073743861,1073743871]
def I4:Y->Y->Y
 |0,l=>l+1
 |d+1,l=>I4 d (2*l)*I4 d (2*l+1)
def TJ:∀(d l x:Y),x<2^d->2^d*l+x+1∣I4 d l
 |0,l,x,h=>by have:x=0:=et;subst this;rw[po,jn,jy];exact Nat.dvd_refl _
 |d+1,l,x,h=>by
  rw[fO]at h⊢;by_cases e:x<2^d
  .have:=TJ d (2*l) x e;rw[(fG:2^d*(2*l)=2^d*2*l)]at this;exact Nat.dvd_mul_right_of_dvd this _
  .have:=TJ d (2*l+1) (x-2^d) O;rw[show 2^d*(2*l+1)+(x-2^d)=2^d*2*l+x by rw[vY,(fG:2^d*(2*l)=2^d*2*l)];omega]at this;exact anm this _
def qT(l:V Y):Y:=l.foldr (·*·) 1
def ann{l}{x}(a:x∈l):x∣qT l:=by
 induction l with
 |nil=>cases a
 |cons y l d=>
  rcases b9.1 a with rfl|a
  .exact Nat.dvd_mul_right _ _
  .exact anm (d a) _
def ano:Nat.gcd (qT sb) (I4 15 0)=1:=dZ
def anp:(sb.all λp=>dy 1073741824 p&&dy p 1073743872)=ae:=dZ
def abE{p}(a:p∈sb):1073741824<p/\p<1073743872:=by have:=jS.1 anp p a;rw[cz]at this;exact⟨c8 this.1,c8 this.2⟩
def anq{p}(a:p∈sb):dO p:=by
 let ⟨m,h2⟩:=abE a;refine⟨O,λd n g i=>?_⟩;have o:d<=32768:=by
  by_cases e:d<=32768
  .exact e
  .have:=mL (O:32769<=d) (O:32769<=d);omega
 have k:d∣I4 15 0:=by have:=TJ 15 0 (d-1) (O:d-1<32768);rwa[NH,ff,(O:d-1+1=d)]at this
 have l:d∣qT sb:=Fb (I2 i)<|ann a;have f:=Nat.dvd_gcd l k;rw[ano]at f;have:=vZ D f;omega
def NK:∀(d a:Y)(f:Y->Y),d<a->(∀i,i<a->f i<d)->∃i g,i<g/\g<a/\f i=f g
 |0,a,f,s,m=>absurd (m 0 s) O
 |d+1,a,f,s,m=>by
  by_cases n:∃i,i<a/\f i=d
  .let ⟨i0,x,h2⟩:=n;by_cases t:∃i,i<a/\i≠i0/\f i=d
   .let ⟨i1,u,v,o⟩:=t;rcases anr v with p|p
    .exact⟨i1,i0,p,x,by rw[o,h2]⟩
    .exact⟨i0,i1,p,u,by rw[o,h2]⟩
   .have l:∀i,i<a->i≠i0->f i<d:=λi k y=>by
     have:=m i k;have:f i≠d:=λn=>t ⟨i,k,y,n⟩
     omega
    let ⟨i,g,u,v,o⟩:=NK d (a-1) (λi=>if i<i0 then f i else f (i+1)) O λi k=>by
     split
     .exact l i O O
     .exact l (i+1) O O
    refine⟨if i<i0 then i else i+1,if g<i0 then g else g+1,?_,?_,?_⟩
    .split<;>split<;>omega
    .split<;>omega
    .split<;>split<;>simp_all
  .exact NK d a f O λi k=>by
    have:=m i k;have:f i≠d:=λA=>n ⟨i,k,A⟩
    omega
def abF{K:Y}(m:0<K):∀(C i a:Y),i<K^C->a<K^C->(∀d,d<C->i/K^d%K=a/K^d%K)->i=a
 |0,i,a,f,g,_=>by rw[po]at f g;omega
 |C+1,i,a,f,g,k=>by
  have l:=k 0 O;rw[po,Nat.div_one,Nat.div_one]at l;have n:=abF m C (i/K) (a/K) (yL<|by rwa[fO,gG]at f) (yL<|by rwa[fO,gG]at g) λd o=>by have:=k (d+1) O;rwa[fO,gG,<-ans,<-ans]at this
  rw[<-rC i K,<-rC a K,l,n]
def code(K:Y)(v:Y->Y):Y->Y
 |0=>0
 |a+1=>code K v a+v a*K^a
def I5{K:Y}(v:Y->Y):∀a,(∀d,d<a->v d<K)->code K v a<K^a
 |0,_=>C9
 |a+1,f=>by
  have i:=I5 v a λd k=>f d O
  have g:=eC (K^a) (show v a+1<=K from f a O);rw[gO,jn]at g;rw[code,fO,gG (K^a) K];omega
def TL{K:Y}(v f:Y->Y):∀a,(∀d,d<a->v d<K)->(∀d,d<a->f d<K)->code K v a=code K f a->∀d,d<a->v d=f d
 |0,_,_,_,d,i=>absurd i O
 |a+1,l,hw,k,d,i=>by
  have n:=I5 v a λd i=>l d O
  have o:=I5 f a λd i=>hw d O
  rw[code,code]at k;have g:0<K^a:=O;have m:v a=f a:=by
   have p:(code K v a+v a*K^a)/K^a=v a:=by rw[ant _ _ g,BA n,ff]
   have s:(code K f a+f a*K^a)/K^a=f a:=by rw[ant _ _ g,BA o,ff]
   rw[<-p,<-s,k]
  by_cases e:d=a
  .rw[e];exact m
  .exact TL v f a (λd i=>l d O) (λd i=>hw d O) (by rw[m]at k;omega) d O
def abG{f:Y->G}{g:Y->Y}{X:Y}:∀n,(∀i,i<n->(f i).natAbs<=g i*X)->(sm f n).natAbs<=sN g n*X
 |0,_=>by simp[sm]
 |n+1,a=>by
  have d:=abG n λi k=>a i O
  have l:=a n O;rw[sm,sN,gO];omega
def abH(f g:Y->G):∀k,sm (λi=>f i-g i) k=sm f k-sm g k
 |0=>rfl
 |k+1=>by simp only[sm,abH f g k];omega
def anu(M:Y->Y->G) f W(H:∀d,d<f->sN (λa=>aC<|M d a) (f+1)<=W)(L:1<=W):
  ∃x:Y->G,(∃a,a<f+1/\x a≠0)/\(∀a,a<f+1->aC (x a)<=(2*W)^f)/\∀d,d<f->sm (λa=>M d a*x a) (f+1)=0:=by
 obtain⟨X,y⟩:∃X,X=(2*W)^f:=⟨_,J⟩
 let k:Y->Y->G:=λi a=>((i/(X+1)^a%(X+1):Y):G)
 have m:∀i a,0<=k i a/\k i a<=X:=λi a=>by have:=fS (i/(X+1)^a) (O:0<X+1);show 0<=((i/(X+1)^a%(X+1):Y):G)/\((i/(X+1)^a%(X+1):Y):G)<=X;omega
 have n:∀i d,d<f->(sm (λa=>M d a*k i a)<|f+1).natAbs<=W*X:=λi d l=>by refine bm (abG (g:=λa=>aC<|M d a) (X:=X) (f+1) λa _=>?_)<|eC X<|H d l;rw[rQ];have:=m i a;exact fN _ O
 let v:Y->Y->Y:=λi d=>(sm (λa=>M d a*k i a) (f+1)+((W*X:Y):G)).toNat
 have o:∀i d,d<f->v i d<2*W*X+1/\((v i d:Y):G)=sm (λa=>M d a*k i a) (f+1)+((W*X:Y):G):=λi d l=>by
  have p:=n i d l;have e:v i d=(sm (λa=>M d a*k i a) (f+1)+((W*X:Y):G)).toNat:=rfl;have b:2*W*X=W*X+W*X:=by rw[pj,Nat.two_mul]
  generalize sm (λa=>M d a*k i a) (f+1)=s at*;rw[e];omega
 have t:(2*W*X+1)^f<(X+1)^(f+1):=by
  have p:2*W*X+1<=2*W*(X+1):=by rw[vY,qB];omega
  have A:=zR p f;rw[Nat.mul_pow,<-y]at A;have B:X*(X+1)^f<(X+1)*(X+1)^f:=R9 O<|gQ O;rw[fO,gG<|(X+1)^f];omega
 let ⟨i,j,p,A,B⟩:=NK _ _ (λi=>code (2*W*X+1) (v i) f) t λi _=>I5 (v i) f λd l=>(o i d l).1
 have P:=TL (v i) (v j) f (λd l=>(o i d l).1) (λd l=>(o j d l).1) B
 refine⟨λa=>k i a-k j a,?_,λa _=>?_,λd l=>?_⟩
 .refine eZ λQ=>?_
  have:i=j:=abF (K:=X+1) O (f+1) i j O O λa T=>by
   have u:k i a-k j a=0:=eZ λu=>Q ⟨a,T,u⟩
   have h:((i/(X+1)^a%(X+1):Y):G)-((j/(X+1)^a%(X+1):Y):G)=0:=u;omega
  omega
 .have C:=m i a;have U:=m j a;show aC (k i a-k j a)<=_;rw[<-y];omega
 .have C:=(o i d l).2;have U:=(o j d l).2;have e:sm (λa=>M d a*(k i a-k j a)) (f+1)=sm (λa=>M d a*k i a) (f+1)-sm (λa=>M d a*k j a) (f+1):=by rw[<-abH];exact gI λa _=>Ey _ _ _
  rw[e];rw[P d l]at C;omega
def Ce(f g:PS)(n d a:Y):G:=if a<n then(if a<=d then f (d-a)else 0)else if a<2*n+1 then(if a-n<=d then g (d-(a-n))else 0)else(if d=0 then-1 else 0)
def abI(f:Y->G)(a:Y):∀d,sm f (a+d)=sm f a+sm (λi=>f<|a+i) d
 |0=>by simp[sm]
 |d+1=>by rw[<-rq,sm,abI f a d,sm];omega
def abJ{f:Y->Y}{m:Y}:∀n,(∀i,i<n->f i<=m)->sN f n<=n*m
 |0,_=>by simp[sN]
 |n+1,a=>by
  have d:=abJ n λi g=>a i O
  have k:=a n O;rw[sN,gO,jn];omega
def abK{f g}{n}{B}(t:1<=B)(H:∀i,n+1<i->f i=0)(L:∀i,n<i->g i=0)(M:∀i,(f i).natAbs<=B)(P:∀i,(g i).natAbs<=B):
  ∃(u v:PS)(l:G),(∀i,n<=i->u i=0)/\(∀i,n+1<=i->v i=0)/\u*f+v*g=PS.K l/\aC l<=(2*((2*n+2)*B))^(2*n+1)/\(l=0->v=0->u=0->False)/\∀i,aC (v i)<=(2*((2*n+2)*B))^(2*n+1):=by
 let ⟨x,⟨c0,I,h2⟩,y,Q⟩:=anu (Ce f g n) (2*n+1) ((2*n+2)*B) (λr _=>abJ _ λc _=>by
  unfold Ce;split
  .split
   .exact M _
   .exact aY _
  .split
   .split
    .exact P _
    .exact aY _
   .split
    .exact t
    .exact aY _) (by have:=mL (O:1<=2*n+2) t;omega)
 refine⟨λi=>if i<n then x i else 0,λi=>if i<n+1 then x (n+i)else 0,x (2*n+1),λi o=>w O,λi o=>w O,?_,y _ O,?_,λi=>?_⟩
 .refine PS.ext λr=>?_
  have C:∀(h A:PS)(m k:Y),(∀i,m<=i->A i=0)->(A*h) k=sm (λc=>(if c<=k then h (k-c)else 0)*A c) m:=λh A m k T=>by
   rw[PS.fF];have U:∀d,sm (λc=>(if c<=k then h (k-c)else 0)*A c) (k+1+d)=sm (λc=>(if c<=k then h (k-c)else 0)*A c) (k+1):=λd=>by
    induction d with
    |zero=>rfl
    |succ d p=>rw[<-rq,sm,p,w O,nq,rL]
   have W:∀d,sm (λc=>(if c<=k then h (k-c)else 0)*A c) (m+d)=sm (λc=>(if c<=k then h (k-c)else 0)*A c) m:=λd=>by
    induction d with
    |zero=>rfl
    |succ d p=>rw[<-rq,sm,p,T _ O,gY,rL]
   rw[<-W (k+1),K9 m,U m];exact gI λc a=>by rw[b O,eX]
  rw[PS.eV,C f _ n r<|λi o=>w O,C g _ (n+1) r<|λi o=>w O];by_cases X:r<2*n+1
  .have s:=Q r X;rw[(O:2*n+1+1=n+(n+1)+1),sm,abI]at s;have j:sm (λc=>Ce f g n r c*x c) n=sm (λc=>(if c<=r then f (r-c)else 0)*(if c<n then x c else 0)) n:=gI λc a=>by rw[Ce,b a,b a]
   have q:sm (λi=>Ce f g n r (n+i)*x (n+i)) (n+1)=sm (λc=>(if c<=r then g (r-c)else 0)*(if c<n+1 then x (n+c)else 0)) (n+1):=gI λc a=>by rw[Ce,w O,b O,b a,zh]
   rw[j,q,Ce,w O,w O]at s;rw[PS.K,(O:2*n+1=n+(n+1))];split at s
   .rename_i e;rw[b e];omega
   .rename_i e;rw[w e];omega
  .rw[PS.K,w O,qF λc a=>?_,qF λc a=>?_]
   .rfl
   .split
    .exact(be (·*_)<|L _ O).trans<|nq _
    .rw[nq]
   .split
    .exact(be (·*_)<|H _ O).trans<|nq _
    .rw[nq]
 .intro z E F;refine h2 ?_;by_cases c1:c0<n
  .have:=congrFun F c0;rwa[b c1]at this
  .by_cases J:c0<2*n+1
   .have:=congrFun E<|c0-n;rwa[b O,(O:n+(c0-n)=c0)]at this
   .rw[(O:c0=2*n+1)];exact z
 .show aC (if i<n+1 then x (n+i)else 0)<=_;split
  .exact y _ O
  .exact aY _
def anv{f g}{n}{B}(d:1<=B)(k:∀i,n+1<i->f i=0)(l:∀i,n<i->g i=0)(m:∀i,(f i).natAbs<=B)(o:∀i,(g i).natAbs<=B):
  ∃(u v:PS)(a:G),(∀i,n<=i->u i=0)/\(∀i,n+1<=i->v i=0)/\u*f+v*g=PS.K a/\aC a<=(2*((2*n+2)*B))^(2*n+1)/\(a=0->v=0->u=0->False):=
 let ⟨u,v,a,p,h2,s,t,x,_⟩:=abK d k l m o
 ⟨u,v,a,p,h2,s,t,x⟩
def abL{D:Y}:∀{l:V Y},l.Nodup->(∀p∈l,dO p/\p∣D)->qT l∣D
 |[],_,_=>Nat.one_dvd D
 |p::l,s,f=>by
  let ⟨t,h2⟩:=AK.1 s;have i:=abL h2 λq k=>f q (by simp[k])
  have g:=(f p az).1;have u:Nat.Coprime p (qT l):=g.coprime λd=>by
   have m:∀{l:V Y},(∀q∈l,dO q/\q∣D)->p∣qT l->p∈l:=by
    intro l;induction l with
    |nil=>intro _ d;have v:=g.1;have:=vZ C9 d;omega
    |cons q l i=>
     intro n d
     rcases g.dvd_mul (a:=q) (b:=qT l) d with e|e
     .rcases(n q az).1.EL e with o|o
      .have v:=g.1;omega
      .rw[o];simp
     .have:=i (λr x=>n r<|by simp[x]) e;simp[this]
   exact t<|m (λq k=>f q<|by simp[k]) d
  exact u.mul_dvd_of_dvd_of_dvd (f p az).2 i
def anw:sb.Nodup:=by
 have h:(sb.zip<|sb.drop 1).all (λx=>dy x.1 x.2)=ae:=dZ;have f:∀(l:V Y),(l.zip<|List.drop 1 l).all (λx=>dy x.1 x.2)=ae->l.Pairwise (·<·):=by
  intro l;induction l with
  |nil=>intro _;exact .nil
  |cons a l i=>
   intro h
   cases l with
   |nil=>exact TM _ _
   |cons b l=>
    have h:(((a,b)::((b::l).zip l)).all λx=>dy x.1 x.2)=ae:=h
    rw[List.all_cons,cz]at h
    have g:=i h.2
    refine jR.2 ⟨λc k=>?_,g⟩
    have d:a<b:=c8 h.1
    rcases b9.1 k with e|e
    .rw[e];exact d
    .exact Nat.lt_trans d<|(jR.1 g).1 c e
 exact(f sb h).imp λh=>Nat.ne_of_lt h
def xV:Y:=2^3089
def anx:Nat.ble (xV+1) (qT sb)=ae:=dZ
def abM{a d}(f:Nat.ble (a+1) d=ae):a<d:=Nat.lt_of_succ_le<|c8 f
def anz:xV<qT sb:=abM anx
def anA{l}(f:l.Nodup)(g:∀p∈l,dO p)(i:xV<qT l){a}(t:a≠0)(k:aC a<=xV):∃p∈l,¬(p:G)∣a:=eZ λm=>by
 have n:=abL (D:=aC a) f λp d=>⟨g p d,TN.1<|eZ λo=>m ⟨p,d,o⟩⟩
 have s:=vZ O n;exact absurd k<|Nat.not_le_of_lt<|iI i s
def TO(p:G):Setoid {A:PS//bp p A}:=⟨λA B=>Cg p A.1 B.1,⟨λA=>Cg.refl p A.1,Cg.symm,Cg.trans⟩⟩
def Fx(p:G):Type:=Quotient<|TO p
namespace Fx
variable{p:G}
def mk(A:PS)(a:bp p A):Fx p:=Quotient.mk (TO p) ⟨A,a⟩
def mk_eq{A B}{a:bp p A}{k:bp p B}:mk A a=mk B k↔Cg p A B:=⟨λe=>Quotient.exact e,λe=>Quotient.sound (s:=TO p) e⟩
def ex x:∃A,∃a:bp p A,x=mk A a:=by refine Quotient.inductionOn x<|λA=>?_;exact⟨A.1,A.2,J⟩
instance:Add (Fx p):=⟨λx y=>anB x y (λA B=>mk (A.1+B.1)<|A.2.add B.2)<|λ_ _ _ _ h k=>mk_eq.2<|Cg.add h k⟩
instance:Mul (Fx p):=⟨λx y=>anB x y (λA B=>mk (A.1*B.1)<|A.2.mul B.2)<|λ_ _ _ _ h k=>mk_eq.2<|Cg.mul h k⟩
instance:Neg (Fx p):=⟨λx=>anC x (λA=>mk (-A.1) A.2.neg)<|λ_ _ h=>mk_eq.2<|Cg.neg h⟩
instance:_root_.Sub (Fx p):=⟨λx y=>x+ -y⟩
instance:OfNat (Fx p) 0:=⟨mk 0<|bp.zero p⟩
instance:OfNat (Fx p) 1:=⟨mk 1<|bp.one p⟩
def abN{A B}{a:bp p A}{k:bp p B}:mk A a+mk B k=mk (A+B) (a.add k):=rfl
def abO{A B}{a:bp p A}{k:bp p B}:mk A a*mk B k=mk (A*B) (a.mul k):=rfl
def mk_congr{A B}(a:A=B)(d:bp p A)(k:bp p B):mk A d=mk B k:=mk_eq.2<|Cg.of_eq a
def add_comm(x y:Fx p):x+y=y+x:=by obtain⟨A,h,rfl⟩:=ex x;obtain⟨B,k,rfl⟩:=ex y;exact mk_congr (PS.add_comm A B) _ _
def add_assoc(x y a:Fx p):x+y+a=x+(y+a):=by obtain⟨A,h,rfl⟩:=ex x;obtain⟨B,k,rfl⟩:=ex y;obtain⟨C,l,rfl⟩:=ex a;exact mk_congr (PS.add_assoc A B C) _ _
def mul_comm(x y:Fx p):x*y=y*x:=by obtain⟨A,h,rfl⟩:=ex x;obtain⟨B,k,rfl⟩:=ex y;exact mk_congr (PS.mul_comm A B) _ _
def mul_assoc(x y a:Fx p):x*y*a=x*(y*a):=by obtain⟨A,h,rfl⟩:=ex x;obtain⟨B,k,rfl⟩:=ex y;obtain⟨C,l,rfl⟩:=ex a;exact mk_congr (PS.mul_assoc A B C) _ _
def mul_add(x y a:Fx p):x*(y+a)=x*y+x*a:=by obtain⟨A,h,rfl⟩:=ex x;obtain⟨B,k,rfl⟩:=ex y;obtain⟨C,l,rfl⟩:=ex a;exact mk_congr (PS.mul_add A B C) _ _
def add_mul(x y a:Fx p):(x+y)*a=x*a+y*a:=by rw[mul_comm,mul_add,mul_comm a x,mul_comm a y]
def zero_add(x:Fx p):0+x=x:=by obtain⟨A,h,rfl⟩:=ex x;exact mk_congr (PS.zero_add A) ((bp.zero p).add h) h
def add_zero(x:Fx p):x+0=x:=by rw[add_comm,zero_add]
def one_mul(x:Fx p):1*x=x:=by obtain⟨A,h,rfl⟩:=ex x;exact mk_congr (PS.one_mul A) ((bp.one p).mul h) h
def mul_one(x:Fx p):x*1=x:=by rw[mul_comm,one_mul]
def zero_mul(x:Fx p):0*x=0:=by obtain⟨A,h,rfl⟩:=ex x;exact mk_congr (PS.zero_mul A) ((bp.zero p).mul h)<|bp.zero p
def mul_zero(x:Fx p):x*0=0:=by rw[mul_comm,zero_mul]
def add_neg(x:Fx p):x+ -x=0:=by obtain⟨A,h,rfl⟩:=ex x;exact mk_congr (PS.add_neg A) (h.add h.neg)<|bp.zero p
def neg_add(x:Fx p): -x+x=0:=by rw[add_comm,add_neg]
def sub_def(x y:Fx p):x-y=x+ -y:=rfl
instance:Std.Associative (α:=Fx p) (·+·):=⟨add_assoc⟩
instance:Std.Commutative (α:=Fx p) (·+·):=⟨add_comm⟩
instance:Std.Associative (α:=Fx p) (·*·):=⟨mul_assoc⟩
instance:Std.Commutative (α:=Fx p) (·*·):=⟨mul_comm⟩
def add_left_cancel{x y a:Fx p}(d:x+y=x+a):y=a:=by have:=be (-x+·) d;simpa only[<-add_assoc,neg_add,zero_add]using this
def kA(x y:Fx p):x-y+y=x:=by rw[sub_def,add_assoc,neg_add,add_zero]
def uC(x y:Fx p):x+y-y=x:=by rw[sub_def,add_assoc,add_neg,add_zero]
def xL{x y a:Fx p}(d:x+y=a):x=a-y:=by rw[<-d,uC]
def sub_eq{x y a:Fx p}(d:x=a+y):x-y=a:=by rw[d,uC]
def sub_self(x:Fx p):x-x=0:=add_neg x
def sub_zero(x:Fx p):x-0=x:=sub_eq (add_zero x).symm
def E0{x y:Fx p}(a:x-y=0):x=y:=by rw[<-kA x y,a,zero_add]
def sub_mul(x y a:Fx p):(x-y)*a=x*a-y*a:=xL (by rw[<-add_mul,kA])
def mul_sub(x y a:Fx p):x*(y-a)=x*y-x*a:=by rw[mul_comm,sub_mul,mul_comm y,mul_comm a]
def neg_mul(x y:Fx p): -x*y= -(x*y):=add_left_cancel (x:=x*y) (by rw[<-add_mul,add_neg,add_neg,zero_mul])
def mul_neg(x y:Fx p):x* -y= -(x*y):=by rw[mul_comm,neg_mul,mul_comm]
def neg_sub(x y:Fx p): -(x-y)=y-x:=add_left_cancel (x:=x-y) (by rw[add_neg,sub_def,sub_def];have:x+ -y+(y+ -x)=(x+ -x)+(-y+y):=fG;rw[this,add_neg,neg_add,add_zero])
def Iy(x y a:Fx p):(x-y)+(y-a)=x-a:=by rw[sub_def,sub_def,sub_def];have:x+ -y+(y+ -a)=x+ -a+(-y+y):=fG;rw[this,neg_add,add_zero]
def Ng(x y a d:Fx p):(x+y)-(a+d)=(x-a)+(y-d):=sub_eq (by have:x-a+(y-d)+(a+d)=(x-a+a)+(y-d+d):=fG;rw[this,kA,kA])
instance:Dvd (Fx p):=⟨λa b=>∃w,b=w*a⟩
def dvd_refl(a:Fx p):a∣a:=⟨1,(one_mul a).symm⟩
def dvd_zero(a:Fx p):a∣0:=⟨0,(zero_mul a).symm⟩
def dvd_trans{a d f:Fx p}(g:a∣d)(k:d∣f):a∣f:=by obtain⟨w,rfl⟩:=g;obtain⟨v,rfl⟩:=k;exact⟨v*w,(mul_assoc v w a).symm⟩
def dvd_mul_left(a d:Fx p):a∣d*a:=⟨d,J⟩
def dvd_mul_right(a d:Fx p):a∣a*d:=⟨d,mul_comm a d⟩
def dw{a d}(g:a∣d)(f:Fx p):a∣f*d:=dvd_trans g<|dvd_mul_left d f
def kD{a d}(g:a∣d)(f:Fx p):a∣d*f:=dvd_trans g<|dvd_mul_right d f
def dvd_add{a d f:Fx p}(g:a∣d)(k:a∣f):a∣d+f:=by obtain⟨w,rfl⟩:=g;obtain⟨v,rfl⟩:=k;exact⟨w+v,(add_mul w v a).symm⟩
def dvd_neg{a d:Fx p}(f:a∣d):a∣-d:=by obtain⟨w,rfl⟩:=f;exact⟨-w,(neg_mul w a).symm⟩
def dvd_sub{a d f:Fx p}(g:a∣d)(k:a∣f):a∣d-f:=dvd_add g<|dvd_neg k
def uD{a d f:Fx p}(g:a∣d+f)(k:a∣d):a∣f:=by have:=dvd_sub g k;rwa[add_comm d f,uC]at this
def nz{a d f:Fx p}(g:a∣d-f):a∣f-d:=by rw[<-neg_sub];exact dvd_neg g
def lT{a f g d:Fx p}(i:a∣f-g)(k:a∣g-d):a∣f-d:=by rw[<-Iy f g d];exact dvd_add i k
def Nh{a f g d i:Fx p}(l:a∣f-g)(k:a∣d-i):a∣(f+d)-(g+i):=by rw[Ng];exact dvd_add l k
def nA{a g f d i:Fx p}(l:a∣g-f)(k:a∣d-i):a∣g*d-f*i:=by
 have:g*d-f*i=(g-f)*d+f*(d-i):=by rw[sub_mul,mul_sub,Iy]
 rw[this];exact dvd_add (kD l d)<|dw k f
def fP(a d:Fx p):a∣d-d:=by rw[sub_self];exact dvd_zero a
def pk(a:Fx p):Y->Fx p
 |0=>1
 |n+1=>pk a n*a
def r6(a:Fx p):pk a 1=a:=one_mul a
def zu(a:Fx p)(m:Y):∀n,pk a (m+n)=pk a m*pk a n
 |0=>(mul_one _).symm
 |n+1=>by rw[<-rq,pk,pk,zu a m n,mul_assoc]
def uE(a:Fx p)(m:Y):∀n,pk a (m*n)=pk (pk a m) n
 |0=>rfl
 |n+1=>by rw[Nat.mul_succ,zu,pk,uE a m n]
def uF(a d:Fx p):∀n,pk (a*d) n=pk a n*pk d n
 |0=>(one_mul 1).symm
 |n+1=>by rw[pk,pk,pk,uF a d n];ac_rfl
def BY:∀n,pk (1:Fx p) n=1
 |0=>rfl
 |n+1=>by rw[pk,BY n,one_mul]
def abP{n}(a:0<n):pk (0:Fx p) n=0:=by obtain⟨m,rfl⟩:∃m,n=m+1:=⟨n-1,O⟩;rw[pk,mul_zero]
def I6{a d f:Fx p}(g:a∣d-f):∀n,a∣pk d n-pk f n
 |0=>fP a 1
 |n+1=>nA (I6 g n) g
def NL{A:PS}(a:bp p A):∀n(k:bp p (pw A n)),mk (pw A n) k=pk (mk A a) n
 |0,_=>rfl
 |n+1,k=>by
  have d:bp p (pw A n):=by
   clear k;induction n with
   |zero=>exact bp.one p
   |succ n f=>exact f.mul a
  rw[pk,<-NL a n d,abO];rfl
def NM{A:PS}(a:bp p A):∀n,bp p (pw A n)
 |0=>bp.one p
 |n+1=>(NM a n).mul a
def K(a:G):Fx p:=mk (PS.K a)<|bp.K p a
def zW k:bp p (PS.X k):=⟨_,alI p k⟩
def X:Fx p:=mk (PS.X 1)<|zW 1
def fx(a:V G):Fx p:=mk (ps a)<|bp.ps p a
def fa a d:(K (a*d):Fx p)=K a*K d:=mk_congr (PS.zk a d) _ _
def pq:(K 0:Fx p)=0:=mk_congr PS.pq _ _
def oC:(K 1:Fx p)=1:=rfl
def Cf{a b}(d:a%p=b%p):(K a:Fx p)=K b:=mk_eq.2<|Cg.K d
def S4{a d}(f:(K a:Fx p)=K d):a%p=d%p:=(mk_eq.1 f).at 0
def abQ(a:G):∀n,pk (K a:Fx p) n=K (a^n)
 |0=>by rw[o8,oC];rfl
 |n+1=>by rw[pk,abQ a n,fK,fa]
def kF:(fx []:Fx p)=0:=mk_congr BR _ _
def Ch:(fx [1]:Fx p)=1:=mk_congr MU _ _
def TP a:(fx [a]:Fx p)=K a:=mk_congr (PS.ext λi=>by
 cases i with
 |zero=>rfl
 |succ i=>rfl) _ _
def anD d a:ps (d::a)=PS.K d+PS.X 1*ps a:=PS.ext λi=>by
 rw[PS.eV,PS.nt];cases i with
 |zero=>rw[w O];show d=PS.K d 0+0;rw[PS.K,b J];omega
 |succ i=>rw[b O];show E a i 0=PS.K d (i+1)+E a i 0;rw[PS.K,w O];omega
def I7 d a:(fx (d::a):Fx p)=K d+X*fx a:=mk_congr (anD d a) _ _
def NN{a d}(f:Cg p (ps a) (ps d)):(fx a:Fx p)=fx d:=mk_eq.2 f
def wu a d:(fx (cT a d p):Fx p)=fx a*fx d:=mk_eq.2<|EP a d p
def Ff a:(fx (aN a):Fx p)=fx a:=mk_congr (qJ a) _ _
def abR a:(fx (md p a):Fx p)=fx a:=mk_eq.2<|aae p a
def TQ a d:(fx (aN<|gx a d p):Fx p)=fx a-fx d:=(show mk _ (bp.ps p _)=mk _ ((bp.ps p a).sub<|bp.ps p d)from mk_eq.2<|aai a d p).trans<|mk_congr (PS.sub_def _ _) _<|(bp.ps p a).add (bp.ps p d).neg
def uM{a d}(f:bA p a)(g:bA p d)(i:(fx a:Fx p)=fx d):a=d:=MS f g<|mk_eq.1 i
def abS{a d}(f:(fx a:Fx p)=fx d) i:E a i 0%p=E d i 0%p:=(mk_eq.1 f).at i
def jr(d:0<p)(A:Fx p):∃a,bA p a/\fx a=A:=by
 obtain⟨A,⟨n,g⟩,rfl⟩:=ex A;have f:∀i,E ((bX n).map λi=>A i%p) i 0=if i<n then A i%p else 0:=λi=>by
  rw[aK,jh];by_cases e:i<n
  .rw[b e,k6 e];rfl
  .rw[w e,iX b8];rfl
 refine⟨aN<|(bX n).map λi=>A i%p,k7 d<|λi=>?_,?_⟩
 .rw[f];split
  .exact⟨iN _ O,iO _ d⟩
  .exact⟨hO _,d⟩
 .rw[Ff];refine mk_eq.2<|Cg.of λi=>?_;rw[cH,f];split
  .rw[mP]
  .rw[g i O,gZ]
open Classical in
noncomputable def sz(A:Fx p):Y:=if h:∃a,bA p a/\fx a=A then Z (Ci h)else 0
def dc{a}(d:bA p a):sz (fx a:Fx p)=Z a:=by have h:∃b,bA p b/\(fx b:Fx p)=fx a:=⟨a,d,J⟩;unfold sz;rw[dif_pos h];have f:=wb h;rw[uM f.1 d f.2]
def zX{n}(g:0<p){A}(d:bp p A)(i:Dl p n A):sz (mk A d)<=n:=by let ⟨a,f,e⟩:=jr g<|mk A d;rw[<-e,dc f];exact f.len<|i.cg (mk_eq.1 e).symm
def IA(d:0<p) a:sz (fx a:Fx p)<=Z a:=zX d _<|k5 p a
def k8(a:0<p):sz (0:Fx p)=0:=by rw[<-kF,dc<|rV a];rfl
def S6(d:0<p) a:sz (K a:Fx p)<=1:=zX d _<|So p a
def S7(f:0<p){A:Fx p}(d:sz A=0):A=0:=by obtain⟨a,g,rfl⟩:=jr f A;rw[dc g]at d;rw[eT d,kF]
def fq(a:0<p){A:Fx p}(d:A≠0):0<sz A:=by
 rcases qD (sz A)with e|e
 .exact absurd (S7 a e) d
 .exact e
def S8(d:0<p)(A B:Fx p):sz (A+B)<=max (sz A) (sz B):=by obtain⟨a,f,rfl⟩:=jr d A;obtain⟨b,g,rfl⟩:=jr d B;rw[dc f,dc g];exact zX d _<|((k5 p a).le O).add<|(k5 p b).le O
def S9(d:0<p)(A:Fx p):sz (-A)<=sz A:=by obtain⟨a,f,rfl⟩:=jr d A;rw[dc f];exact zX d _ (k5 p a).neg
def IB(a:0<p)(A B:Fx p):sz (A-B)<=max (sz A) (sz B):=by have d:=S8 a A<| -B;have f:=S9 a B;rw[sub_def];omega
end Fx
structure br(p:Y):Prop where
 hp:dO p
 le:p<=2147483648
def br.pos{p}(H:br p):(0:G)<(p:G):=Cj
def br.one{p}(H:br p):(1:G)%(p:G)=1:=by have:=H.hp.1;exact gX D O
namespace Fx
variable{p:Y}
def qK(H:br p):(1:Fx p)≠0:=λe=>by rw[<-oC,<-pq]at e;have:=S4 e;rw[H.one,gZ]at this;cases this
def pH(H:br p){c}(a:c%(p:G)≠0):∃d,(K d*K c:Fx p)=1:=by have f:=iN c (show(p:G)≠0 by have:=H.pos;omega);have g:=iO c H.pos;have e:(K c:Fx p)=K (c%(p:G)):=Cf (by rw[mP]);refine⟨((jg (Int.toNat<|c%(p:G)) (Int.toNat ((p:Y):G)):Y):G),?_⟩;rw[e,<-fa,<-oC];refine Cf ?_;rw[eX,ES H.hp H.le f g a,H.one]
def th(H:br p){a}(g:a%(p:G)≠0):(K a:Fx p)≠0:=λe=>by let ⟨d,f⟩:=pH H g;rw[e,mul_zero]at f;exact qK H f.symm
def eh(H:br p){A B:Fx p}(s:A≠0)(t:B≠0):sz (A*B)+1=sz A+sz B:=by
 obtain⟨a,g,rfl⟩:=jr H.pos A;obtain⟨b,i,rfl⟩:=jr H.pos B;have u:=fq H.pos s;have v:=fq H.pos t;rw[dc g]at u⊢;rw[dc i]at v⊢;obtain⟨n,k⟩:∃n,Z a=n+1:=⟨Z a-1,O⟩;obtain⟨m,l⟩:∃m,Z b=m+1:=⟨Z b-1,O⟩;have d:=k5 (p:G) a;have f:=k5 (p:G) b;rw[k]at d⊢;rw[l]at f⊢;have x:=zX H.pos ((bp.ps (p:G) a).mul<|bp.ps p b)<|d.mul f;rw[<-wu,dc<|nv H.pos a b];have o:=BS H.hp d f (g.top k)<|i.top l;have y:=(EP a b (p:G)).at (n+m);have C:Z (cT a b (p:G))<=n+(m+1):=by have e:sz (fx (cT a b p):Fx p)=Z (cT a b p):=dc<|nv H.pos a b;rw[wu]at e;rw[<-e];exact x
 by_cases e:Z (cT a b (p:G))<=n+m
 .exfalso;rw[<-y,cH,fp _ e,gZ]at o;exact o J
 .omega
def nW(H:br p){A B:Fx p}(a:A≠0)(d:B≠0):A*B≠0:=λe=>by have h:=eh H a d;rw[e,k8 H.pos]at h;have f:=fq H.pos a;have g:=fq H.pos d;omega
def zw(H:br p){A B C:Fx p}(a:A≠0)(d:B*A=C*A):B=C:=by
 refine E0 ?_;refine eZ λf=>?_
 exact nW H f a (by rw[sub_mul,d,sub_self])
def r7(H:br p):sz (1:Fx p)=1:=by have a:=S6 H.pos 1 (p:=(p:G));have d:=fq H.pos<|qK H;rw[oC]at a;omega
def E4(H:br p){A:Fx p}(g:sz A=1):∃d:G,d%(p:G)≠0/\A=K d:=by
 obtain⟨a,f,rfl⟩:=jr H.pos A;rw[dc f]at g;match a,g,f with
 |[d],_,f=>exact⟨d,f.top (n:=0) J,TP d⟩
def wc(H:br p){A}(a:sz A=1):∃B:Fx p,B*A=1:=by obtain⟨c,f,rfl⟩:=E4 H a;let ⟨d,g⟩:=pH H f;exact⟨_,g⟩
def xN(H:br p){A B:Fx p}(a:B*A=1):sz A=1:=by
 have d:A≠0:=λe=>qK H (by rw[<-a,e,mul_zero])
 have f:B≠0:=λe=>qK H (by rw[<-a,e,zero_mul])
 have g:=eh H f d;rw[a,r7 H]at g;have i:=fq H.pos d;have k:=fq H.pos f;omega
def dvd_one(H:br p){A:Fx p}(a:A∣1):sz A=1:=by let ⟨w,hw⟩:=a;exact xN H hw.symm
def jJ(H:br p){A B:Fx p}(f:A∣B)(a:B≠0):sz A<=sz B:=by
 obtain⟨w,rfl⟩:=f;have d:w≠0:=λe=>a IC
 have g:A≠0:=λe=>a (by rw[e,mul_zero])
 have i:=eh H d g;have pw:=fq H.pos d;omega
def uG(H:br p){A B:Fx p}(a:A∣B)(d:sz B<sz A):B=0:=
 eZ λf=>by have:=jJ H a f;omega
def S'(H:br p) A{B:Fx p}(k:B≠0):∃Q f,A=Q*B+f/\sz f<sz B:=by
 obtain⟨a,g,rfl⟩:=jr H.pos A;obtain⟨b,i,rfl⟩:=jr H.pos B;have d:b≠[]:=λe=>k (by rw[e,kF])
 let ⟨d1,d2,d3,d4,d5,d6⟩:=mi H.hp H.le g.1 i d;refine⟨fx (aS a b p).1,fx (aS a b p).2,mk_eq.2 d1,?_⟩;rw[dc i,dc<|d5 g];have:=bQ.2 d;omega
def BZ(H:br p):∀(n:Y)(A B:Fx p),sz B<n->∃d U a,d∣A/\d∣B/\d=U*A+a*B
 |0,_,_,l=>by omega
 |n+1,A,B,l=>by
  by_cases g:B=0
  .subst g;exact⟨A,1,0,dvd_refl A,dvd_zero A,by rw[one_mul,mul_zero,add_zero]⟩
  .let ⟨Q,f,i,h2⟩:=S' H A g;let ⟨d,U,a,k,m,o⟩:=BZ H n B f O;refine⟨d,a,U-a*Q,?_,k,?_⟩
   .rw[i];exact dvd_add (dw k Q) m
   .rw[o,i,mul_add,sub_mul];have:a*(Q*B)+a*f+(U*B-a*Q*B)=(U*B-a*Q*B+a*Q*B)+a*f:=fG;rw[this,kA]
def Co(A B:Fx p):Prop:=∃U V,U*A+V*B=1
def Co.symm{A B:Fx p}(a:Co A B):Co B A:=by let ⟨U,V,a⟩:=a;exact⟨V,U,by rw[add_comm];exact a⟩
def anE{a g}:Co (fx a:Fx p) (fx g)↔xG p (ps a) (ps g):=by
 constructor
 .rintro⟨U,V,h⟩;obtain⟨U,d,rfl⟩:=ex U;obtain⟨V,f,rfl⟩:=ex V;exact⟨U,V,d,f,mk_eq.1 (h:mk _ ((d.mul<|bp.ps p a).add<|f.mul<|bp.ps p g)=mk 1 (bp.one p))⟩
 .rintro⟨U,V,d,f,h⟩;exact⟨mk U d,mk V f,mk_eq.2 h⟩
def Co.dvd{A B C:Fx p}(a:Co A B)(k:A∣B*C):A∣C:=by
 let ⟨U,V,a⟩:=a;have:C=C*U*A+V*(B*C):=by have d:C*(U*A)+C*(V*B)=C*U*A+V*(B*C):=fG;rw[<-d,<-mul_add,a,mul_one]
 rw[this];exact dvd_add (dvd_mul_left A _)<|dw k V
def Co.anF{A B C:Fx p}(d:Co A B)(a:A∣C)(kb:B∣C):A*B∣C:=by obtain⟨w,rfl⟩:=kb;rw[mul_comm w B]at a;obtain⟨v,rfl⟩:=d.dvd a;exact⟨v,fG⟩
def Co.mul{A B C:Fx p}(a:Co A B)(k:Co A C):Co A (B*C):=by
 let ⟨U,V,a⟩:=a;let ⟨d,f,k⟩:=k;refine⟨U*d*A+U*(f*C)+V*B*d,V*f,?_⟩;have:(U*A+V*B)*(d*A+f*C)=1:=by rw[a,k,one_mul]
 rw[<-this];simp only[mul_add,add_mul];ac_rfl
def Co.unit{A B:Fx p}(H:br p)(a:Co A B)(k:A∣B):sz A=1:=by let ⟨U,V,a⟩:=a;exact dvd_one H<|a▸dvd_add (dvd_mul_left A U) (dw k V)
def bq(Q:Fx p):Prop:=2<=sz Q/\∀A B,Q=A*B->sz A=1\/sz B=1
def bq.ne{Q:Fx p}(H:br p)(a:bq Q):Q≠0:=λe=>by have:=a.1;rw[e,k8 H.pos]at this;omega
def bq.or{Q}(H:br p)(d:bq Q)(A:Fx p):Q∣A\/Co Q A:=by
 let ⟨D,U,V,f,h2,g⟩:=BZ H _ Q A<|dK _;let ⟨w,hw⟩:=f;rcases d.2 _ _ hw with e|e
 .let ⟨B,a⟩:=wc H e;left;refine dvd_trans ⟨B,?_⟩ h2;rw[hw,<-mul_assoc,a,one_mul]
 .let ⟨B,a⟩:=wc H e;right;refine⟨B*U,B*V,?_⟩;rw[<-a,g,mul_add,mul_assoc,mul_assoc]
def bq.zy{Q:Fx p}(H:br p)(a:bq Q):¬Q∣1:=λe=>by have:=dvd_one H e;have:=a.1;omega
def bq.nZ{Q}(H:br p)(a:bq Q){A B:Fx p}(k:Q∣A*B):Q∣A\/Q∣B:=by
 rcases a.or H A with e|e
 .exact .inl e
 .exact .inr<|e.dvd k
def tk(H:br p):∀(n:Y)(A:Fx p),sz A<n->2<=sz A->∃Q,bq Q/\Q∣A
 |0,_,l,_=>by omega
 |n+1,A,l,h2=>by
  by_cases d:bq A
  .exact⟨A,d,dvd_refl A⟩
  .have:∃B C,A=B*C/\¬(sz B=1\/sz C=1):=eZ λm=>d ⟨h2,λB C e=>eZ λf=>m ⟨B,C,e,f⟩⟩
   let ⟨B,C,e,f⟩:=this;have g:A≠0:=λe=>by rw[e,k8 H.pos]at h2;omega
   have i:B≠0:=λa=>g (by rw[e,a,zero_mul])
   have k:C≠0:=λa=>g (by rw[e,a,mul_zero])
   have o:=eh H i k;rw[<-e]at o;have u:=fq H.pos i;have v:=fq H.pos k;let ⟨Q,s,t⟩:=tk H n B O O;exact⟨Q,s,by rw[e];exact kD t C⟩
def E5(H:br p){A B:Fx p}(f:A≠0)(g:∀Q,bq Q->Q∣A->Q∣B->False):Co A B:=by
 let ⟨D,U,V,a,h2,i⟩:=BZ H _ A B<|dK _;have k:D≠0:=λe=>by let ⟨w,hw⟩:=a;rw[e,mul_zero]at hw;exact f hw
 have n:=fq H.pos k;by_cases e:sz D=1
 .let ⟨C,l⟩:=wc H e;refine⟨C*U,C*V,?_⟩;rw[<-l,i,mul_add,mul_assoc,mul_assoc]
 .let ⟨Q,m,d⟩:=tk H _ D (dK _) O;exact(g Q m (dvd_trans d a)<|dvd_trans d h2).elim
def Ie(H:br p)(A B:Fx p):pk (A+B) p=pk A p+pk B p:=by obtain⟨A,a,rfl⟩:=ex A;obtain⟨B,d,rfl⟩:=ex B;rw[abN,<-NL (a.add d) _ (NM (a.add d) _),<-NL a _ (NM a _),<-NL d _ (NM d _),abN];exact mk_eq.2<|H.hp.Ie A B
def EM(H:br p) d:pk (K d:Fx p) p=K d:=by have f:=iN d (show(p:G)≠0 by have:=H.pos;omega);let ⟨a,g⟩:=BF f;have e:(K d:Fx p)=K (a:G):=Cf (by rw[<-g,mP]);rw[e,abQ];exact Cf<|H.hp.EM a
def NO(H:br p)(A B:Fx p):∀i,pk (A+B) (p^i)=pk A (p^i)+pk B (p^i)
 |0=>by simp only[po,r6]
 |i+1=>by rw[fO,uE,uE,uE,NO H A B i,Ie H]
def TS(H:br p)(a:G):∀i,pk (K a:Fx p) (p^i)=K a
 |0=>r6 _
 |i+1=>by rw[fO,uE,TS H a i,EM H]
def ev:V (Fx p)->Fx p->Fx p
 |[],_=>1
 |a::cs,y=>a+y*ev cs y
def abT(a:Fx p):∀(d:V (Fx p))(f:Fx p),∃g:V (Fx p),Z g=Z d/\∀y,ev (f::d) y=ev (f::d) a+(y-a)*ev g y
 |[],f=>⟨[],J,λy=>by show f+y*1=f+a*1+(y-a)*1;rw[mul_one,mul_one,mul_one,add_assoc,add_comm a,kA]⟩
 |i::d,f=>by let ⟨g,h1,h2⟩:=abT a d i;refine⟨ev (i::d) a::g,zC,λy=>?_⟩;show f+y*ev (i::d) y=f+a*ev (i::d) a+(y-a)*(ev (i::d) a+y*ev g y);rw[h2 y];generalize ev (i::d) a=w;generalize ev g y=v;rw[mul_add,mul_add,add_assoc f,<-add_assoc (a*w),<-add_mul a,add_comm a,kA];congr 2;ac_rfl
def roots(H:br p){Q:Fx p}(k:bq Q):∀(d:V (Fx p))(f:V (Fx p)),Z d<Z f->(∀y∈f,Q∣ev d y)->f.Pairwise (λa s=>¬Q∣a-s)->False
 |_,[],g,_,_=>by simp at g
 |[],y::_,_,g,_=>k.zy H<|g y az
 |t::d,n::f,hl,g,hp=>by
  let ⟨ds,v,h2⟩:=abT n d t;let ⟨l,m⟩:=jR.1 hp;have u:=g n az;have i:Z ds<Z f:=by simp only[ik]at hl;omega
  refine roots H k ds f i (λy hy=>?_) m;have o:=g y uH;rw[h2 y]at o;rcases k.nZ H (uD o u)with e|e
  .exact absurd (nz e)<|l y hy
  .exact e
termination_by d=>Z d
decreasing_by simp only[ik];omega
def abU(y:Fx p):∀m,ev (bc m 0) y=pk y m
 |0=>rfl
 |m+1=>by rw[wP,ev,abU y m,zero_add,pk,mul_comm]
def anG m(y:Fx p):ev (0:: -1::bc m 0) y=pk y (m+2)-y:=by rw[ev,ev,abU,zero_add,mul_add,mul_neg,mul_one,pk,pk,sub_def,add_comm];congr 1;ac_rfl
def n6(p:Y):Y->Y->V G
 |0,_=>[]
 |n+1,k=>((k%p:Y):G)::n6 p n (k/p)
def abV(p:Y):∀n k,Z (n6 p n k)=n
 |0,_=>rfl
 |n+1,k=>by rw[n6,ik,abV p n]
def NP{p:Y}(a:0<p):∀n k l,k<p^n->l<p^n->(∀i,E (n6 p n k) i 0%(p:G)=E (n6 p n l) i 0%(p:G))->k=l
 |0,k,l,d,f,_=>by rw[po]at d f;omega
 |n+1,k,l,d,f,g=>by
  have m:=g 0;simp only[n6,List.getD_cons_zero]at m;have o:k%p=l%p:=by have:=fS k a;have:=fS l a;rw[gX O O,gX O O]at m;omega
  have s:=NP a n (k/p) (l/p) (yL<|by rw[gG,<-fO];exact d) (yL<|by rw[gG,<-fO];exact f) (λi=>by simpa only[n6,PW]using g (i+1));rw[<-rC k p,<-rC l p,o,s]
def abW(H:br p){Q:Fx p}{i:Y}(a:Q∣pk X (p^i)-X):∀l:V G,Q∣pk (fx l) (p^i)-fx l
 |[]=>by rw[kF,abP<|gQ Cj,sub_self];exact dvd_zero Q
 |d::l=>by rw[I7,NO H,TS H,uF];exact Nh (fP Q _)<|nA a<|abW H a l
def abX(H:br p){Q:Fx p}(n:bq Q){i}(o:0<i)(L:i+1<sz Q):¬Q∣pk X (p^i)-X:=λh=>by
 have s:=H.hp.1;have d:0<p:=O;have t:2<=p^i:=bm s (by rw[<-Nat.pow_one p,<-EO,jn];exact eQ d o);have u:p^i<p^(i+1):=Tn O O;obtain⟨m,f⟩:∃m,p^i=m+2:=⟨p^i-2,O⟩;refine roots H n (0:: -1::bc m 0) ((bX<|p^i+1).map λk=>fx<|n6 p (i+1) k) (by simp[f]) (λy v=>?_) ?_
 .rw[anG,<-f];obtain⟨k,_,rfl⟩:=iJ.1 v;exact abW H h _
 .refine Fg.2<|NQ ?_ Ke;intro a b g l x A;have g:=l3.1 g;have l:=l3.1 l;have B:=uG H A (by have M:=IB H.pos (fx (n6 p (i+1) a):Fx p)<|fx<|n6 p (i+1) b;have C:=IA H.pos<|n6 p (i+1) a;have K:=IA H.pos<|n6 p (i+1) b;rw[abV]at C K;omega);have:=NP d (i+1) a b O O<|λj=>abS (E0 B) j;omega
end Fx
namespace Fx
variable{p:Y}
def qU(a:Fx p):Prop:=∀Q,bq Q->¬Q*Q∣a
def qU.of_dvd{a d:Fx p}(f:qU a)(k:d∣a):qU d:=λQ g i=>f Q g<|dvd_trans i k
def xO{A B C a:Fx p}(d:A∣B)(k:C∣a):A*C∣B*a:=by obtain⟨w,rfl⟩:=d;obtain⟨v,rfl⟩:=k;exact⟨w*v,fG⟩
def we(H:br p){a}(f:a%(p:G)≠0):sz (K a:Fx p)=1:=by let ⟨d,g⟩:=pH H f;exact xN H g
end Fx
def qV(A:PS):PS:=λi=>((i:G)+1)*A (i+1)
def anH{p}{A B}(a:Cg p A B):Cg p (qV A) (qV B):=Cg.of λi=>by show((i:G)+1)*A (i+1)%p=((i:G)+1)*B (i+1)%p;rw[qG,a.at,<-qG]
def xW{p}{A}(a:bp p A):bp p (qV A):=by let ⟨n,a⟩:=a;exact⟨n,λi d=>MK<|a (i+1) O⟩
def mV(p:Y)(a:V G)(k:Y):V G:=(bX k).map λj=>E a (j*p) 0
def Ck(p:Y)(a:V G):PS:=λi=>if i%p=0 then E a (i/p) 0 else 0
namespace Fx
variable{p:Y}
def bC(A:Fx p):Fx p:=anC A (λA=>mk (qV A.1)<|xW A.2)<|λ_ _ h=>mk_eq.2<|anH h
def ID(x y:Fx p):bC (x+y)=bC x+bC y:=by obtain⟨A,h,rfl⟩:=ex x;obtain⟨B,k,rfl⟩:=ex y;exact mk_congr (PS.ext λi=>by show((i:G)+1)*(A (i+1)+B (i+1))=_;rw[om];rfl) _ _
def E6 a:bC (K a:Fx p)=0:=mk_congr (PS.ext λi=>by show((i:G)+1)*PS.K a (i+1)=0;rw[PS.K,w O,gY]) _ _
def Ta:bC (0:Fx p)=0:=by have h:=E6 (p:=p) 0;rwa[pq]at h
def IE a(x:Fx p):bC (K a*x)=K a*bC x:=by obtain⟨A,h,rfl⟩:=ex x;exact mk_congr (PS.ext λi=>by show((i:G)+1)*(PS.K a*A) (i+1)=(PS.K a*qV A) i;rw[PS.fa,PS.fa,qV,Int.mul_left_comm]) (xW<|(bp.K p a).mul h)<|(bp.K p a).mul<|xW h
def IF(x:Fx p):bC (X*x)=x+X*bC x:=by
 obtain⟨A,h,rfl⟩:=ex x;exact mk_congr (PS.ext λi=>by
  show((i:G)+1)*(PS.X 1*A) (i+1)=A i+(PS.X 1*qV A) i;rw[PS.nt,PS.nt,b O,eK];cases i with
  |zero=>simp
  |succ i=>
   rw[b O,eK,qV,nI,kL,vS];rfl) (xW<|(zW 1).mul h) (h.add<|(zW 1).mul<|xW h)
def IG(B:Fx p):∀a:V G,bC (fx a*B)=bC (fx a)*B+fx a*bC B
 |[]=>by rw[kF,zero_mul,Ta,zero_mul,zero_mul,zero_add]
 |f::a=>by have d:=IG B a;rw[I7,add_mul,ID,IE,mul_assoc,IF,d,ID,E6,zero_add,IF];simp only[add_mul,mul_add];ac_rfl
def wg(H:br p)(A B:Fx p):bC (A*B)=bC A*B+A*bC B:=by obtain⟨a,_,rfl⟩:=jr H.pos A;exact IG B a
def II(H:br p)(Q:Fx p):∀a,pk Q a∣bC (pk Q<|a+1)
 |0=>⟨bC<|pk Q 1,(mul_one _).symm⟩
 |a+1=>by show pk Q a*Q∣bC (pk Q (a+1)*Q);rw[wg H];exact dvd_add (xO (II H Q a)<|dvd_refl Q)<|dvd_mul_right _ _
def Nj(H:br p)(A:Fx p):sz (bC A)<=sz A-1:=by obtain⟨a,d,rfl⟩:=jr H.pos A;rw[dc d];exact zX H.pos (xW<|bp.ps p a)<|λi f=>MK<|k5 (p:G) a (i+1) O
def mult(H:br p){Q:Fx p}(f:bq Q):∀(n:Y)(a:Fx p),sz a<n->a≠0->∃e d,a=pk Q e*d/\¬Q∣d
 |0,_,d,_=>by omega
 |n+1,a,d,m=>by
  by_cases i:Q∣a
  .obtain⟨k,rfl⟩:=i;have l:k≠0:=λe=>m IC
   have s:=eh H l<|f.ne H;have t:=f.1;obtain⟨e,g,rfl,o⟩:=mult H f n k O l;exact⟨e+1,g,by rw[pk];ac_rfl,o⟩
  .exact⟨0,a,(one_mul a).symm,i⟩
def Cm(H:br p){Q:Fx p}(d:Q≠0):∀a,pk Q a≠0
 |0=>qK H
 |a+1=>nW H (Cm H d a) d
def abY(H:br p){a D W U V:Fx p}(l:a≠0)(f:a=W*D)(m:D=U*a+V*bC a):qU W:=by
 intro Q g i;let ⟨e,h,d,k⟩:=mult H g _ a (dK _) l;cases e with
 |zero=>
  refine k ?_
  have d:a=1*h:=d
  rw[one_mul]at d
  rw[<-d,f]
  exact kD (dvd_trans (dvd_mul_left Q Q) i) D
 |succ e=>
  have n:pk Q e∣a:=by rw[d,pk];exact kD (dvd_mul_right _ _) h
  have o:pk Q e∣bC a:=by rw[d,wg H];exact dvd_add (kD (II H Q e) h)<|kD (by rw[pk];exact dvd_mul_right _ _)<|bC h
  have s:pk Q e∣D:=by rw[m];exact dvd_add (dw n U)<|dw o V
  have t:Q*Q*pk Q e∣a:=by rw[f];exact xO i s
  let ⟨v,u⟩:=t
  refine k ⟨v,?_⟩
  refine zw H (Cm H (g.ne H)<|e+1) ?_
  rw[mul_comm h,<-d,u,pk];ac_rfl
def abZ:∀n,pk (X:Fx p) n=mk (PS.X n) (zW n)
 |0=>rfl
 |n+1=>by rw[pk,abZ n];exact mk_congr (PS.MI n 1).symm ((zW n).mul<|zW 1)<|zW<|n+1
def ab0(d:0<p) a:bp p (Ck p a):=⟨Z a*p,λi f=>by
 unfold Ck;split
 .rw[fp a ((Nat.le_div_iff_mul_le d).2 f),gZ]
 .exact gZ _⟩
def ab1(H:br p)(d:0<p):∀a:V G,pk (fx a) p=mk (Ck p a) (ab0 d a)
 |[]=>by rw[kF,abP d];exact mk_congr (PS.ext λi=>by unfold Ck;split<;>rfl) (bp.zero p) _
 |k::a=>by
  rw[I7,Ie H,EM H,uF,ab1 H d a,abZ];refine mk_congr (PS.ext λi=>?_) ((bp.K p k).add<|(zW p).mul<|ab0 d a) _;rw[PS.eV,PS.nt];by_cases f:p<=i
  .obtain⟨g,rfl⟩:∃g,i=g+p:=⟨i-p,O⟩;rw[b f,eK,PS.K,w O,BG];unfold Ck;rw[Nat.add_mod_right,Nat.add_div_right _ d];rfl
  .rw[w f,rL,PS.K];unfold Ck;rw[o6 O,BA O];rfl
def de(H:br p){a}(f:bC (fx a:Fx p)=0){k}(t:Z a<=k*p):(fx a:Fx p)=pk (fx<|mV p a k) p:=by
 have g:0<p:=Cj;have l:=mk_eq.1 (f:mk (qV<|ps a) (xW<|bp.ps p a)=mk 0 (bp.zero p));rw[ab1 H g];refine mk_eq.2<|Cg.of λi=>?_;unfold Ck;by_cases e:i%p=0
 .rw[b e];congr 1;have m:i/p*p=i:=by have:=rC i p;rw[gG];omega
  unfold mV;by_cases n:i/p<k
  .rw[aK,jh,k6 n];show _=E a (i/p*p) 0;rw[m];rfl
  .rw[fp (List.map _ _) b8,cH,fp a];have:k*p<=i/p*p:=eC p O;omega
 .rw[w e,gZ];cases i with
  |zero=>rw[Nat.zero_mod]at e;exact absurd J e
  |succ i=>
   have d:=l.at i
   rw[PS.mO,gZ]at d
   refine eZ λo=>?_
   refine H.hp.nW (a:=(i:G)+1) (λs=>e ?_) o d
   have:((i+1:Y):G)%(p:G)=0:=by rw[xt];exact s
   omega
structure Mon(p:Y)(a:V G):Prop where
 c:bA p a
 ne:a≠[]
 one:a.getD (a.length-1) 0=1
def Mon.pos{a}(d:Mon p a):1<=Z a:=bQ.2 d.ne
def Mon.kH(H:br p){a}(d:Mon p a):(fx a:Fx p)≠0:=λe=>by rw[<-kF]at e;exact d.ne<|uM d.c (rV H.pos) e
def TU(H:br p){a d}(o:Mon p a)(i:Mon p d)(B:Z d<=Z a):Mon p (aS a d p).1:=by
 let ⟨d1,d2,d3,d4,d5,d6⟩:=mi H.hp H.le o.c.1 i.c i.ne;have C:=i.pos;obtain⟨n,s⟩:∃n,Z d=n+1:=⟨Z d-1,O⟩;obtain⟨m,y⟩:∃m,Z a=m+n+1:=⟨Z a-1-n,O⟩;have k:(aS a d p).1.length=m+1:=O;have t:=k5 (p:G) (aS a d p).1;have u:=k5 (p:G) d;rw[k]at t;rw[s]at u;have l:=d1.at<|m+n;have f:=o.one;have g:=i.one;rw[y,eK]at f;rw[s,eK]at g;have A:(ps (aS a d p).2) (m+n)=0:=by rw[cH];exact fp _ O
 rw[PS.eV,A,rL,t.top u,cH,cH,cH,f,g,ns]at l;have v:=d2 m;rw[H.one,gX v.1 v.2]at l;have x:(aS a d p).1.getD ((aS a d p).1.length-1) 0=1:=by rw[k,eK];exact l.symm
 refine⟨⟨d2,.inr<|by rw[x];decide⟩,λe=>by rw[e]at k;simp at k,x⟩
def NR(H:br p){a d}(g:bA p a)(i:bA p d)(f:d≠[]):(aS a d p).2=[]↔(fx d:Fx p)∣fx a:=by
 let ⟨d1,d2,d3,d4,d5,d6⟩:=mi H.hp H.le g.1 i f;have e:(fx a:Fx p)=fx (aS a d p).1*fx d+fx (aS a d p).2:=mk_eq.2 d1;have l:=bQ.2 f;constructor
 .intro h;rw[e,h,kF,add_zero];exact dvd_mul_left _ _
 .intro h;rw[e]at h;have k:=uG H (uD h<|dvd_mul_left _ _) (by rw[dc (d5 g),dc i];omega);rw[<-kF]at k;exact uM (d5 g) (rV H.pos) k
def zE(H:br p){a d}(g:bA p a)(i:bA p d)(f:d≠[])(k:(fx d:Fx p)∣fx a):(fx a:Fx p)=fx (aS a d p).1*fx d:=by let ⟨d1,d2,d3,d4,d5,d6⟩:=mi H.hp H.le g.1 i f;have e:(fx a:Fx p)=fx (aS a d p).1*fx d+fx (aS a d p).2:=mk_eq.2 d1;rwa[(NR H g i f).2 k,kF,add_zero]at e
def NS(H:br p){a d}(g:bA p a)(i:bA p d)(f:d≠[]):(fx d:Fx p)∣fx (aS a d p).2-fx a:=by let ⟨d1,_⟩:=mi H.hp H.le g.1 i f;have e:(fx a:Fx p)=fx (aS a d p).1*fx d+fx (aS a d p).2:=mk_eq.2 d1;refine nz ?_;rw[e,uC];exact dvd_mul_left _ _
def ab2(H:br p):∀(k:Y)(f g:V G),bA p f->bA p g->Z g<k->(fx (pC p k f g):Fx p)∣fx f/\(fx (pC p k f g):Fx p)∣fx g/\∃U a,(fx (pC p k f g):Fx p)=U*fx f+a*fx g
 |0,_,_,_,_,m=>by omega
 |k+1,f,g,i,hg,m=>by
  rw[pC];split
  .rename_i d;subst d;exact⟨dvd_refl _,by rw[kF];exact dvd_zero _,1,0,by rw[one_mul,zero_mul,add_zero]⟩
  .rename_i d;let ⟨d1,d2,d3,d4,d5,d6⟩:=mi H.hp H.le i.1 hg d;have n:=bQ.2 d;have l:(fx f:Fx p)=fx (aS f g p).1*fx g+fx (aS f g p).2:=mk_eq.2 d1;let ⟨i1,i2,U,a,i3⟩:=ab2 H k g (aS f g p).2 hg (d5 i) O;refine⟨by rw[l];exact dvd_add (dw i1 _) i2,i1,a,U-a*fx (aS f g p).1,?_⟩;rw[i3,l,mul_add,sub_mul];have:a*(fx (aS f g p).1*fx g)+a*fx (aS f g p).2+(U*fx g-a*fx (aS f g p).1*fx g)=(U*fx g-a*fx (aS f g p).1*fx g+a*fx (aS f g p).1*fx g)+a*fx (aS f g p).2:=fG;rw[this,kA]
def NT(H:br p){a}(g:bA p a)(f:a≠[]):Mon p (lR p a)/\Z (lR p a)=Z a/\(fx (lR p a):Fx p)∣fx a/\(∃i,(fx (lR p a):Fx p)=K i*fx a)/\(fx a:Fx p)=K (E a (Z a-1) 0)*fx (lR p a):=by
 let ⟨m1,d,k,l,m⟩:=SA H.hp H.le g f;have n:=bQ.2 f;have e:(fx a:Fx p)=K (E a (Z a-1) 0)*fx (lR p a):=by rw[mul_comm];exact mk_eq.2 m
 refine⟨⟨m1,λe=>by rw[e]at d;simp at d;omega,by rw[d];exact k⟩,d,⟨_,e⟩,⟨((jg (E a (Z a-1) 0).toNat (Int.toNat ((p:Y):G)):Y):G),?_⟩,e⟩;rw[mul_comm];exact mk_eq.2 l
def zY(H:br p){f g}(a:bA p f)(l:bA p g)(d:f≠[]):Mon p (gy p f g)/\(fx (gy p f g):Fx p)∣fx f/\(fx (gy p f g):Fx p)∣fx g/\∃U i,(fx (gy p f g):Fx p)=U*fx f+i*fx g:=by
 let ⟨k,h2,U,i,n⟩:=ab2 H (Z g+1) f g a l<|dK _;let ⟨o,_,_⟩:=Sz H.hp H.le (Z g+1) f g a l<|dK _;have s:pC p (Z g+1) f g≠[]:=λe=>by rw[e,kF]at k;let ⟨w,hw⟩:=k;rw[mul_zero,<-kF]at hw;exact d<|uM a (rV H.pos) hw
 let ⟨m1,u,m,⟨c,t⟩,_⟩:=NT H o s;exact⟨m1,dvd_trans m k,dvd_trans m h2,K c*U,K c*i,by rw[gy,t,n,mul_add,mul_assoc,mul_assoc]⟩
end Fx
def zZ(a g:V G)(i:Y):Y->V G->V G
 |0,f=>f
 |d+1,f=>(zZ a g i d f).set (i+d)<|E (zZ a g i d f) (i+d) 0+E a i 0*E g d 0
def xX(a d:V G):Y->V G
 |0=>bc (Z a+Z d-1) 0
 |i+1=>zZ a d i (Z d)<|xX a d i
def tr(a d:V G)(m:G):V G:=(xX a d<|Z a).map (·%m)
def TV(a g:V G)(i:Y)(d:V G):∀f,Z (zZ a g i f d)=Z d
 |0=>rfl
 |f+1=>by rw[zZ,ru,TV a g i d f]
def TW(a d:V G):∀i,Z (xX a d i)=Z a+Z d-1
 |0=>by simp[xX]
 |i+1=>by rw[xX,TV,TW a d i]
def ab3(a g:V G)(i:Y)(f:V G):∀d,i+d<=Z f->ps (zZ a g i d f)=ps f+PS.K (E a i 0)*PS.X i*ps (List.take d g)
 |0,_=>by rw[zZ,Im,PS.mul_zero,PS.add_zero]
 |d+1,k=>by rw[zZ,Ik _ (by rw[TV];omega),Il,PS.mul_add,<-PS.add_assoc,ab3 a g i f d O];congr 1;rw[show∀x y:G,x+y-x=y by intros;omega];rw[PS.zk,PS.MI];ac_rfl
def ab4(a d:V G):∀i,i<=Z a->ps (xX a d i)=ps (List.take i a)*ps d
 |0,_=>by rw[xX,MV,Im,PS.zero_mul]
 |i+1,g=>by have f:=ab3 a d i (xX a d i) (Z d) (by rw[TW];omega);rw[fR]at f;rw[xX,f,ab4 a d i O,Il,PS.add_mul]
def TX a d m:Cg m (ps<|tr a d m) (ps a*ps d):=by have h:=ab4 a d (Z a)<|aO _;rw[fR]at h;rw[<-h];exact aae m _
def TY a d m:Z (tr a d m)=Z a+Z d-1:=by rw[tr,cy,TW]
def NU{a f:V G}(i:Z a=Z f)(k:∀d,d<Z a->E a d 0=E f d 0):a=f:=by refine rF i<|λd g l=>?_;have:=k d g;rw[aK,aK,cO g,cO l]at this;exact this
def anI a d{m}(f:0<m) k:0<=E (tr a d m) k 0/\E (tr a d m) k 0<m:=by rw[tr,getD_map<|gZ m];exact⟨iN _ O,iO _ f⟩
def TZ a d i:E (lN a d) i 0=if i<Z a+Z d-1 then conv (λi=>E a i 0) (λi=>E d i 0) i else 0:=by
 unfold lN;rw[aK,jh];split
 .rename_i h;rw[k6 h];rfl
 .rename_i h;rw[iX b8];rfl
def I9 a d:Z (lN a d)=Z a+Z d-1:=by simp[lN]
def ab5 a d(f:a≠[])(g:d≠[]):ps (lN a d)=ps a*ps d:=PS.ext λi=>by
 have k:=bQ.2 f;have l:=bQ.2 g;rw[cH,TZ];show _=conv (λi=>E a i 0) (λi=>E d i 0) i
 split
 .rfl
 .symm;refine R4 _ _ i (i+1) λj m=>?_
  by_cases e:j<Z a
  .show E a j 0*E d (i-j) 0=0;rw[fp d O,gY]
  .show E a j 0*E d (i-j) 0=0;rw[fp a O,nq]
def anJ a d(f:a≠[])(g:d≠[]):E (lN a d) (Z (lN a d)-1) 0=E a (Z a-1) 0*E d (Z d-1) 0:=by have l:=bQ.2 f;have m:=bQ.2 g;rw[I9,TZ,b O,(O:Z a+Z d-1-1=(Z a-1)+(Z d-1))];exact akW (λi k=>fp a O)<|λi k=>fp d O
def ab6 a d u v(f:∀i,aH u (E a i 0))(g:∀i,aH v (E d i 0))(k:Z a<=1000)(l:Z d<=1000) i:aH (u+v+1) (E (lN a d) i 0):=by
 rw[TZ];split
 .exact aan a d u v f g i (i+1) O
 .exact aH.zero _
def aJ(a:V G):Prop:=a≠[]/\E a (Z a-1) 0=1
def aJ.can{a}(d:aJ a):can a:= .inr (by rw[d.2];decide)
def aJ.trim{a}(d:aJ a):aN a=a:=v3 d.can
def aJ.ab7{a d}(f:aJ a)(g:aJ d):aJ (lN a d):=by have k:=bQ.2 f.1;have l:=bQ.2 g.1;refine⟨λe=>?_,by rw[anJ a d f.1 g.1,f.2,g.2];rfl⟩;have i:=I9 a d;rw[e]at i;simp at i;omega
def aJ.md{p}(f:1<p){a}(d:aJ a):aJ (md p a):=by refine⟨λe=>d.1 (eT<|by rw[<-xD p a,e];rfl),?_⟩;rw[xD,Ig,d.2];exact gX D f
namespace Rx
def zx(a:V G):Rx:=lx (a.map λx:G=>(x:e))
def ll a i:zx a i=((E a i 0:G):e):=by show E (a.map λx:G=>(x:e)) i 0=_;rw[aK,jh,aK];cases a[i]? <;>rfl
def Cn a:dq (zx a):=dq.of λi=>⟨_,ll a i⟩
def NV a:nu (zx a)=ps a:=PS.ext λi=>by show(zx a i).num=_;rw[ll];rfl
def anK{a}(d:can a):bI (a.map λx:G=>(x:e)):=by
 rcases d with d|d
 .subst d;exact .inl J
 .right;rw[cy];intro g;have f:=ll a<|Z a-1;rw[show zx a (Z a-1)=0 from g]at f;exact d<|Rat.intCast_eq_zero_iff.1 f.symm
def ln{a}(d:can a):sz (zx a)=Z a:=by rw[zx,fY<|anK d,cy]
def aJ.can{a}(d:aJ a):can a:= .inr (by rw[d.2];decide)
def n7{a}(d:aJ a):Mo (zx a):=by rw[Mo,ln<|aJ.can d,ll,d.2];rfl
def anL{a d}(k:can a)(l:can d)(f:zx a=zx d):a=d:=by
 have m:∀i,E a i 0=E d i 0:=λi=>by
  have e:zx a i=zx d i:=by rw[f]
  rw[ll,ll]at e;exact xU.1 e
 refine NU ?_ λj _=>m j
 have g:=ln k;rw[f,ln l]at g;exact g.symm
def NW{A}(f:dq A):∃a,can a/\zx a=A:=by
 obtain⟨a,d,rfl⟩:=jr A;have e:∀i,E (a.map Rat.num) i 0=(E a i 0).num:=λi=>by rw[aK,jh,aK];cases a[i]? <;>rfl
 refine⟨a.map Rat.num,?_,ext λi=>?_⟩
 .rcases d with d|d
  .subst d;exact .inl J
  .right;rw[cy,e];exact λg=>d<|Rat.num_eq_zero.1 g
 .rw[ll,e];exact(f i).symm
def NX{a}(g:can a)(d:Mo (zx a)):aJ a:=by have f:=d;rw[Mo,ln g,ll]at f;refine⟨λe=>?_,xU.1 (f.trans Rat.intCast_one.symm)⟩;subst e;exact d.ne<|show zx []=0 from kE
def NY{a d f}(g:zx a*zx d=zx f):ps a*ps d=ps f:=by rw[<-NV,<-NV,<-Cd (Cn a) (Cn d),g,NV]
def uN(A:PS){n:Y}(a:∀i,n<=i->A i=0):Rx:=⟨λi=>(A i:e),n,λi d=>by rw[a i d];rfl⟩
def Fh A{n}(a:∀i,n<=i->A i=0):dq (uN A a):=λ_=>rfl
def z0 A{n}(a:∀i,n<=i->A i=0):nu (uN A a)=A:=rfl
def ab8{A B}(a:dq A)(d:dq B)(f:nu A=nu B):A=B:=ext λi=>by rw[a.at,d.at,f]
def NZ{A B}(d:dq A)(f:dq B):dq (A+B)/\nu (A+B)=nu A+nu B:=by
 have a:∀i,(A+B) i=(((nu A+nu B) i:G):e):=λi=>by rw[eV,d.at,f.at,<-Rat.intCast_add];rfl
 exact⟨dq.of λi=>⟨_,a i⟩,PS.ext λi=>by show((A+B) i).num=_;rw[a];rfl⟩
def T1 a:dq (bC<|zx a)/\nu (bC<|zx a)=qV (ps a):=by
 have d:∀i,bC (zx a) i=((qV (ps a) i:G):e):=λi=>by rw[qL,ll];show _=((((i:G)+1)*ps a (i+1):G):e);rw[fZ];rfl
 exact⟨dq.of λi=>⟨_,d i⟩,PS.ext λi=>by show(bC (zx a) i).num=_;rw[d];rfl⟩
def anM{l}(hn:l.Nodup)(P:∀p∈l,br p)(hb:xV<qT l){A}{n}(hl:Z A=n+2)(Q:aJ A)(m:Co (zx A) (bC<|zx A)){B}(h1B:1<=B)(T:∀i,(E A i 0).natAbs<=B)(f:(2*((2*n+2)*((n+1)*B)))^(2*n+1)<=xV):
  ∃p∈l,Fx.Co (Fx.fx A:Fx (p:Y)) (Fx.bC<|Fx.fx A):=by
 have U:∀i,n+1<i->ps A i=0:=λi a=>fp A O
 have g:∀i,n<i->qV (ps A) i=0:=λi a=>by show _*ps A (i+1)=0;rw[U (i+1) O,gY]
 have o:B<=(n+1)*B:=by have:=eC B (O:1<=n+1);omega
 let ⟨u,v,D,u1,v1,W,q,s⟩:=anv (B:=(n+1)*B) O U g (λi=>bm (T i) o) (λi=>by
  by_cases a:n<i
  .rw[g i a];exact aY _
  .show aC (((i:G)+1)*ps A (i+1))<=_;rw[rQ];exact mL O<|T _)
 have r:=n7 Q
 have w:sz (zx A)=n+2:=by rw[ln (aJ.can Q),hl]
 have t:D≠0:=λz=>by
  subst z;have x:uN u u1*zx A+uN v v1*bC (zx A)=0:=by have X:=(Fh u u1).mul<|Cn A;have b:=(Fh v v1).mul (T1 A).1;refine ab8 (NZ X b).1 (λ_=>rfl) ?_;rw[(NZ X b).2,Cd (Fh u u1)<|Cn A,Cd (Fh v v1) (T1 A).1,z0,z0,NV,(T1 A).2,W,PS.pq];rfl
  have h:zx A∣uN v v1*bC (zx A):=by refine uD ?_<|dvd_mul_left (zx A)<|uN u u1;rw[x];exact dvd_zero _
  rw[mul_comm]at h;have F:=m.dvd h;have j:uN v v1=0:=uG F (by have:=pI (A:=uN v v1) (n:=n+1) (λi a=>by show((v i:G):e)=0;rw[v1 i a];rfl);omega);rw[j,zero_mul,add_zero]at x;have I:uN u u1=0:=eZ λN=>nW N r.ne x
  refine s J ?_ ?_
  .rw[<-z0 v v1,j];rfl
  .rw[<-z0 u u1,I];rfl
 let ⟨p,k,y⟩:=anA hn (λp k=>(P p k).hp) hb t<|bm q f
 refine⟨p,k,?_⟩
 have H:=P p k
 have C:bp p u:=⟨n,λi a=>by rw[u1 i a,gZ]⟩
 have L:bp p v:=⟨n+1,λi a=>by rw[v1 i a,gZ]⟩
 let ⟨d,R⟩:=Fx.pH H (c:=D)<|λS=>y<|EK S
 refine⟨Fx.K d*Fx.mk u C,Fx.K d*Fx.mk v L,?_⟩
 have M:(Fx.mk u C*Fx.fx A+Fx.mk v L*Fx.bC (Fx.fx A):Fx p)=Fx.K D:=Fx.mk_congr W ((C.mul<|bp.ps p A).add<|L.mul<|xW<|bp.ps p A)<|bp.K p D
 rw[Fx.mul_assoc,Fx.mul_assoc,<-Fx.mul_add,M]
 exact R
end Rx
def N0{a b m}(d:a%m=b%m):dH a m=dH b m:=by unfold dH;rw[d]
def z5{m}(d:0<m) a:dH a m%m=a%m:=by
 unfold dH;split
 .rw[xF,mP,Int.emod_self,Bv,mP]
 .exact mP _ _
def ab9{m}(a:1<m):dH 1 m=1:=by unfold dH;rw[gX D a,w O]
def anN m(a:0<m):dH 0 m=0:=by unfold dH;rw[gZ,w O]
def qW a{m}(d:0<m) i:(a.map (dH · m)).getD i 0=dH (E a i 0) m:=getD_map (f:=(dH · m)) (anN m d) a i
def anO{a d}{m}(f:0<m)(g:Z a=Z d)(k:∀i,E a i 0%m=E d i 0%m):a.map (dH · m)=d.map (dH · m):=NU (by rw[cy,cy,g]) λj _=>by rw[qW a f,qW d f];exact N0<|k j
def Cp{a}{m}(f:1<m)(d:aJ a):aJ (a.map (dH · m)):=by refine⟨λe=>d.1<|List.map_eq_nil_iff.1 e,?_⟩;rw[cy,qW a O,d.2];exact ab9 f
open Fx
def ab'{p}(H:br p){f}{d}(g:bp p f)(l:f d=1)(m:∀i,d<i->f i=0):sz (mk f g)=d+1:=by
 have n:sz (mk f g)<=d+1:=zX H.pos g λi s=>by rw[m i O,gZ]
 let ⟨a,o,e⟩:=jr H.pos<|mk f g;have k:=(mk_eq.1 (e:mk (ps a) (bp.ps p a)=mk f g)).at d;rw[<-e,dc o]at n⊢;by_cases hl:Z a<=d
 .rw[cH,fp a hl,l,gZ,H.one]at k;cases k
 .omega
def T2{p}{A}{n}(a:∀i,n<=i->A i=0):bp p A:=⟨n,λi d=>by rw[a i d,gZ]⟩
structure MD(d:Y)(a:PS):Prop where
 one:a d=1
 z:∀i,d<i->a i=0
def MD.N1{d}{a}(f:MD d a) p:bp p a:=T2 (n:=d+1) λi g=>f.z i O
def aca{p:Y}(H:br p){a k K l:PS}{d v:Y}(o:MD d a)(s:MD d k)(x:MD v K)(u:MD v l)(y:Co (mk a<|o.N1 p) (mk K<|x.N1 p))(c1:Cg p a k)(c2:Cg p K l):∀f,1<=f->Cg ((p:G)^f) (a*K) (k*l)->Cg ((p:G)^f) a k/\Cg ((p:G)^f) K l
 |0,B,_=>absurd B O
 |1,_,_=>by rw[fK,o8,kL];exact⟨c1,c2⟩
 |f+1+1,_,B=>by
  have hp:=H.hp.1;have C:Cg ((p:G)^(f+1)) (a*K) (k*l):=Cg.of λi=>by have m:=tu ((a*K) i) (show((p:G)^(f+1))∣(p:G)^(f+1+1)from⟨p,fK _ _⟩);have L:=tu ((k*l) i) (show((p:G)^(f+1))∣(p:G)^(f+1+1)from⟨p,fK _ _⟩);rw[<-m,B.at,L]
  let ⟨i1,i2⟩:=aca H o s x u y c1 c2 (f+1) O C;obtain⟨q,eq⟩:∃q,q=(p:G)^(f+1):=⟨_,J⟩;have X:q≠0:=by rw[eq];exact Int.ne_of_gt<|nH O
  rw[<-eq]at i1 i2;rw[fK,<-eq]at B⊢;let ⟨U,b⟩:=i1.symm;let ⟨V,c⟩:=i2.symm;have zU:∀i,d<=i->U i=0:=λi r=>by
   have m:k i=a i+q*U i:=by rw[b,PS.eV,PS.fa]
   have L:k i=a i:=by
    by_cases v:i=d
    .subst v;rw[o.one,s.one]
    .rw[o.z i O,s.z i O]
   have M:q*U i=0:=O;exact(Int.mul_eq_zero.1 M).resolve_left X
  have zV:∀i,v<=i->V i=0:=λi r=>by
   have m:l i=K i+q*V i:=by rw[c,PS.eV,PS.fa]
   have L:l i=K i:=by
    by_cases D:i=v
    .subst D;rw[x.one,u.one]
    .rw[x.z i O,u.z i O]
   have M:q*V i=0:=O;exact(Int.mul_eq_zero.1 M).resolve_left X
  have P:bp p U:=T2 zU;have E:bp p V:=T2 zV;have F:(p:G)∣q:=by rw[eq,fK];exact Cq _ _
  have I:Cg p (a*V+U*K) 0:=Cg.Sl λi=>by
   have m:=B.symm.dvd i;have D:k*l=a*K+PS.K q*(a*V+U*K)+PS.K q*(PS.K q*(U*V)):=by rw[b,c];simp only[PS.mul_add,PS.add_mul];ac_rfl
   rw[D,PS.eV,PS.eV,PS.fa,PS.fa,PS.fa]at m;let ⟨w,hw⟩:=m;have L:q*((a*V+U*K) i+q*(U*V) i)=q*(p*w):=by rw[om,<-jl q (p:G) w,<-hw];omega
   have M:=Int.eq_of_mul_eq_mul_left X L;let ⟨z,hz⟩:=F;refine⟨w-z*(U*V) i,?_⟩;rw[PS.mO,Bv,Ey,<-M,hz,jl];omega
  have g:=o.N1 p;have Q:=x.N1 p;have N:mk a g*mk V E+mk U P*mk K Q=0:=mk_eq.2 I;have d1:mk a g∣mk U P*mk K Q:=uD (by rw[N];exact dvd_zero _)<|dvd_mul_right _ _;have sG:sz (mk a g)=d+1:=ab' H g o.one o.z;have u0:mk U P=0:=by
   refine uG H (y.dvd<|by rw[mul_comm];exact d1) ?_;have:=zX H.pos P (n:=d) λi r=>by rw[zU i r,gZ]
   omega
  rw[u0,zero_mul,add_zero]at N;have R:mk a g≠0:=λe0=>by rw[e0,k8 H.pos]at sG;omega
  have v0:mk V E=0:=eZ λhv=>nW H R hv N
  have T:∀{A S W:PS}(Z:bp p W),S=A+PS.K q*W->mk W Z=0->Cg (q*p) A S:=λ{A S W} Z hA hW0=>Cg.symm (Cg.Sl λi=>by have m:=(mk_eq.1 (hW0:mk W Z=mk 0 (bp.zero p))).dvd i;rw[PS.mO,Bv]at m;let ⟨t,ht⟩:=m;refine⟨t,?_⟩;rw[hA,PS.eV,PS.fa,ht,jl];omega)
  exact⟨T P b u0,T E c v0⟩
def bJ(a:Y->Bool):Y->V (V G)->V (V G)
 |_,[]=>[]
 |i,f::l=>if a i then f::bJ a (i+1) l else bJ a (i+1) l
def kI(m:G)(g:V G):V (V G)->V G
 |[]=>g
 |f::l=>kI m (tr g f m) l
def pN:V (V G)->PS
 |[]=>1
 |f::l=>ps f*pN l
def dD:V (V G)->Y
 |[]=>0
 |f::l=>(Z f-1)+dD l
def acb(d:Y->Bool):∀(l a:V (V G))(i:Y),bJ d i (l++a)=bJ d i l++bJ d (i+Z l) a
 |[],a,i=>rfl
 |f::l,a,i=>by rw[m7,bJ,bJ,acb d l a<|i+1,ik,(O:i+1+Z l=i+(Z l+1))];split<;>rfl
def acd(m:G):∀(l a:V (V G))(g:V G),kI m g (l++a)=kI m (kI m g l) a
 |[],_,_=>rfl
 |f::l,a,g=>acd m l a<|tr g f m
def xY{d:Y->Bool}{x:V G}:∀{l:V (V G)}{i:Y},x∈bJ d i l->x∈l
 |[],_,a=>a
 |f::l,i,a=>by
  rw[bJ]at a;split at a
  .rcases b9.1 a with rfl|a
   .simp
   .simp[xY a]
  .simp[xY a]
def I'{g:Y->Bool}{d:V G->V G->Prop}:∀{l:V (V G)}{i:Y},l.Pairwise d->(bJ g i l).Pairwise d
 |[],_,a=>a
 |f::l,i,a=>by
  let ⟨k,h2⟩:=jR.1 a;rw[bJ];split
  .exact jR.2 ⟨λy m=>k y<|xY m,I' h2⟩
  .exact I' h2
def T3(a:Y->Bool):∀(l:V (V G))(i:Y),pN (bJ a i l)*pN (bJ (λi=> !a i) i l)=pN l
 |[],_=>PS.mul_one 1
 |f::l,i=>by
  have d:=T3 a l<|i+1;rw[bJ,bJ];cases a i
  .simp only[DW,cj,iB,bN,pN];rw[<-d];ac_rfl
  .simp only[N2,cj,iB,bN,pN];rw[<-d];ac_rfl
def N3(a:Y->Bool):∀(l:V (V G))(i:Y),dD (bJ a i l)+dD (bJ (λi=> !a i) i l)=dD l
 |[],_=>rfl
 |f::l,i=>by
  have d:=N3 a l<|i+1;rw[bJ,bJ];cases a i
  .simp only[DW,cj,iB,bN,dD];omega
  .simp only[N2,cj,iB,bN,dD];omega
def N4(m:G):∀(l:V (V G))(g:V G),Cg m (ps<|kI m g l) (ps g*pN l)
 |[],g=>Cg.of_eq (PS.mul_one _).symm
 |f::l,g=>by refine(N4 m l<|tr g f m).trans<|((TX g f m).BM _).trans<|Cg.of_eq ?_;rw[pN];ac_rfl
def anQ{a d}{m}(n:1<m)(g:aJ a)(k:aJ d):aJ (tr a d m):=by
 have u:=bQ.2 g.1;have v:=bQ.2 k.1;have f:=TY a d m;have o:=Cg.trans (TX a d m)<|Cg.refl m _;have l:=o.at<|Z a-1+(Z d-1);have p:(ps a*ps d) (Z a-1+(Z d-1))=1:=by
  rw[PS.fF,xT (a:=Z a-1) O λi x s=>?_]
  .rw[(O:Z a-1+(Z d-1)-(Z a-1)=Z d-1),cH,cH,g.2,k.2];rfl
  .by_cases e:Z a<=i
   .rw[cH,fp a e,nq]
   .rw[cH d,fp d O,gY]
 let ⟨r1,t⟩:=anI a d (by omega:0<m)<|Z a-1+(Z d-1);rw[p,cH,gX r1 t,gX D n]at l;refine⟨λe=>by rw[e]at f;simp at f;omega,?_⟩;rw[f,(O:Z a+Z d-1-1=Z a-1+(Z d-1))];exact l
def z6{m:G}(a:1<m):∀{l:V (V G)}{g:V G},aJ g->(∀f∈l,aJ f)->aJ (kI m g l)/\Z (kI m g l)=Z g+dD l
 |[],g,hg,_=>⟨hg,J⟩
 |f::l,g,hg,d=>by
  have i:=d f az;have n:=bQ.2 i.1;have o:=bQ.2 hg.1;let ⟨k,h2⟩:=z6 a (l:=l) (anQ a hg i) λx hx=>d x mB
  refine⟨k,?_⟩;rw[kI,h2,TY,dD];omega
def Cs:aJ [1]:=⟨az,J⟩
def aJ.uO{a}(d:aJ a):MD (Z a-1) (ps a):=⟨d.2,λi f=>fp a O⟩
def gS(m:G)(l:V (V G))(a:Y->Bool):V G:=(kI m [1] (bJ a 0 l)).map (dH · m)
section
variable{p:Y}
def gf:V (V G)->Fx p
 |[]=>1
 |f::l=>fx f*gf l
def anR l:bp p (pN l):=by
 induction l with
 |nil=>exact bp.one p
 |cons f l a=>exact(bp.ps p f).mul a
def Fi:∀l:V (V G),(gf l:Fx p)=mk (pN l) (anR l)
 |[]=>rfl
 |f::l=>by rw[gf,Fi l];rfl
def z7 l m(a:(p:G)∣m):(fx (kI m [1] l):Fx p)=gf l:=by rw[Fi];refine mk_eq.2 ?_;have h:=N4 m l [1];rw[MU,PS.one_mul]at h;exact Cg.of λi=>by have d:=h.at i;rw[<-tu _ a,d,tu _ a]
def uQ(H:br p){g}(a:aJ g):sz (fx g:Fx p)=Z g:=by have:=bQ.2 a.1;have d:=ab' H (bp.ps p g) a.uO.one a.uO.z;rw[(O:Z g-1+1=Z g)]at d;exact d
def ace(H:br p){g a}(d:aJ g)(f:aJ a){i:Fx p}(n:sz i=1)(k:fx g=i*fx a):(fx g:Fx p)=fx a:=by
 have t:=uQ H d;have s2:=uQ H f;have u:=bQ.2 d.1;have l:i≠0:=λe=>by rw[e,k8 H.pos]at n;omega
 have m:(fx a:Fx p)≠0:=λe=>by rw[e,k8 H.pos]at s2;have:=bQ.2 f.1;omega
 have s:=eh H l m;rw[<-k]at s;obtain⟨c,v,rfl⟩:=E4 H n;have o:ps g (Z g-1)%(p:G)=(PS.K c*ps a) (Z g-1)%(p:G):=(mk_eq.1 (k:mk (ps g) (bp.ps p g)=mk (PS.K c*ps a) ((bp.K p c).mul<|bp.ps p a))).at (Z g-1);rw[PS.fa,cH,cH,d.2,(O:Z g-1=Z a-1),f.2,ns]at o;rw[k,(Cf o.symm:(K c:Fx p)=K 1),oC,one_mul]
def T5(H:br p){d:Fx p}:∀{l:V (V G)},l.Pairwise (λx y=>Co (fx x:Fx p)<|fx y)->(∀f∈l,(fx f:Fx p)∣d)->(gf l:Fx p)∣d
 |[],_,_=>⟨d,(mul_one d).symm⟩
 |f::l,hp,a=>by
  let ⟨i,h2⟩:=jR.1 hp;refine Co.anF ?_ (a f az)<|T5 H h2 λx hx=>a x mB;have g:∀{l:V (V G)},(∀y∈l,Co (fx f:Fx p) (fx y))->Co (fx f:Fx p) (gf l):=by
   intro l;induction l with
   |nil=>intro _;exact⟨0,1,by rw[zero_mul,zero_add];exact one_mul 1⟩
   |cons y l k=>intro a;exact(a y az).mul (k λz m=>a z<|by simp[m])
  exact g i
def Ja{k:Y->Bool}{x:V G}:∀{l:V (V G)}{i:Y},x∈bJ k i l->∃a,a<Z l/\k (i+a)=ae/\l.getD a []=x
 |[],_,d=>by cases d
 |f::l,i,d=>by
  rw[bJ]at d;split at d
  .rename_i m;rcases b9.1 d with rfl|d
   .exact⟨0,az,m,J⟩
   .let ⟨a,n,h2,g⟩:=Ja d;exact⟨a+1,b8,by rw[(O:i+(a+1)=i+1+a)];exact h2,g⟩
  .let ⟨a,n,h2,g⟩:=Ja d;exact⟨a+1,b8,by rw[(O:i+(a+1)=i+1+a)];exact h2,g⟩
def T6{b:Y->Bool}:∀{l:V (V G)}{i j:Y},j<Z l->b (i+j)=ae->l.getD j []∈bJ b i l
 |[],_,_,h,_=>by simp at h
 |f::l,i,0,_,h=>by rw[bJ,gw et];simp
 |f::l,i,j+1,h,a=>by
  have:=T6 (l:=l) (i:=i+1) (j:=j) (by simp at h;omega) (by rw[(O:i+1+j=i+(j+1))];exact a);rw[bJ];split
  .exact ko _ this
  .exact this
end
def anS{x m}(a:2*(aC x:G)<m):dH x m=x:=by
 unfold dH;by_cases hx:0<=x
 .rw[gX hx O,w O]
 .have e:x%m=x+m:=by rw[<-Int.add_emod_right,gX O O]
  rw[e,b O];omega
end Go.El
namespace Go.El
open Go Go.Proofs
namespace Rx
def T7{f A B}(g:Mo f)(a:f=A*B)(s:sz A≠1)(t:sz B≠1):∃u v,Mo u/\Mo v/\f=u*v/\2<=sz u/\2<=sz v:=by
 have i:A≠0:=λk=>g.ne (by rw[a,k,zero_mul])
 have l:B≠0:=λk=>g.ne (by rw[a,k,mul_zero])
 let ⟨c,hc,hm⟩:=aaV i;have m:f=(K c⁻¹ *B)*(K c*A):=by have n:K c⁻¹ *B*(K c*A)=(K c⁻¹ *K c)*(A*B):=fG;rw[n,pH hc,one_mul,<-a]
 have o:Mo (K c⁻¹ *B):=by rw[m]at g;exact g.zz hm
 have x:=fq i;have y:=fq l;have p:=eh (th hc) i;have d:c⁻¹ ≠0:=λa=>by have:=lU _ hc;rw[a,rX]at this;exact absurd this D
 have s2:=eh (th d) l;rw[we hc]at p;rw[we d]at s2;exact⟨K c*A,K c⁻¹ *B,hm,o,by rw[m,mul_comm],O,O⟩
def N5{u v}(m:Mo u)(n:Mo v)(o:dq (u*v)):dq u/\dq v:=by
 let ⟨a,f⟩:=I3 u;let ⟨b,g⟩:=I3 v;have one:∀A:Rx,K ((1:Y):e)*A=A:=λA=>one_mul A
 have p:Dn (u*v) 1:=⟨D,by rw[one];exact o,λd _=>Nat.one_dvd d⟩;have i:=abA m n f g p;have s:a=1:=Nat.dvd_one.1 ⟨b,i⟩;have t:b=1:=Nat.dvd_one.1 ⟨a,by rw[gG];exact i⟩;subst s t;have k:=f.int;have l:=g.int;rw[one]at k l;exact⟨k,l⟩
def pO:V (V G)->Rx
 |[]=>1
 |f::l=>zx f*pO l
end Rx
open Fx
def bZ(a:Y->Bool):Y->Y
 |0=>0
 |n+1=>bZ a n+(if a n then 1 else 0)
def Jb{a d:Y->Bool}:∀{n:Y},(∀i,i<n->a i=d i)->bZ a n=bZ d n
 |0,_=>rfl
 |n+1,f=>by rw[bZ,bZ,Jb<|λi g=>f i O,f n O]
def acf{a d:Y->Bool}:∀{n:Y},(∀i,i<n->a i=ae->d i=ae)->bZ a n<=bZ d n
 |0,_=>aO _
 |n+1,f=>by
  have l:=acf (n:=n) λi m=>f i O
  have g:=f n O;rw[bZ,bZ];cases k:a n
  .simp only[iB,bN];omega
  .rw[g k];simp only[cj];omega
def T8{b c:Y->Bool}:∀{n:Y},(∀i,i<n->b i=ae->c i=ae)->(∃i,i<n/\b i=false/\c i=ae)->bZ b n<bZ c n
 |0,_,⟨i,a,_⟩=>absurd a O
 |n+1,a,⟨i,m,h2,d⟩=>by
  rw[bZ,bZ];by_cases f:i=n
  .subst f;have:=acf (n:=i) λj g=>a j O
   rw[h2,d];simp;omega
  .have o:=T8 (n:=n) (λj g=>a j O) ⟨i,O,h2,d⟩;have k:=a n O;cases l:b n
   .simp only[iB,bN];omega
   .rw[k l];simp only[cj];omega
def T9(a:Y->Bool):∀n,bZ a n+bZ (λi=> !a i) n=n
 |0=>rfl
 |n+1=>by have:=T9 a n;rw[bZ,bZ];cases a n<;>simp<;>omega
def acg{a:Y->Bool}:∀{n:Y},0<bZ a n->∃i,i<n/\a i=ae
 |0,h=>absurd h (by simp[bZ])
 |n+1,h=>by
  cases d:a n
  .rw[bZ,d]at h;obtain⟨i,g,f⟩:=acg (n:=n) et;exact⟨i,O,f⟩
  .exact⟨n,O,d⟩
def Ua{a:Y->Bool}{n i}(d:i<n)(f:a i=ae):0<bZ a n:=by have:=T8 (b:=λ_=>false) (c:=a) (n:=n) (λj _ g=>by cases g) ⟨i,d,J,f⟩;omega
def pP(a:Y->Bool):Y->Y
 |0=>0
 |n+1=>(if a n then 2^n else 0)+pP a n
def N6(a:Y->Bool):∀n,pP a n<2^n
 |0=>C9
 |n+1=>by have:=N6 a n;rw[pP,fO];split<;>omega
def Ub(a:Y->Bool):∀{n i:Y},i<n->oU (pP a n) i=a i
 |0,_,d=>absurd d O
 |n+1,i,d=>by
  rw[pP];by_cases k:i=n
  .subst k;have f:=Nat.testBit_lt_two_pow<|N6 a i;cases l:a i
   .simp only[iB,bN,ff];exact f
   .simp only[cj];rw[Nat.testBit_two_pow_add_eq,f];rfl
  .have g:=Ub a (n:=n) (i:=i) O;cases l:a n
   .simp only[iB,bN,ff];exact g
   .simp only[cj];rw[Nat.testBit_two_pow_add_gt O];exact g
def uR(n s:Y):V Y:=(bX<|2^n).filter λS=>bZ S.testBit n==s
def mm(n:Y):V Y:=(bX<|n/2).flatMap λs=>uR n<|s+1
def z8{n T}:T∈mm n↔T<2^n/\1<=bZ T.testBit n/\bZ T.testBit n<=n/2:=by
 unfold mm uR;simp only[jb,l3,oP,beq_iff_eq];constructor
 .rintro⟨s,a,d,f⟩;omega
 .rintro⟨a,d,f⟩;exact⟨bZ T.testBit n-1,O,a,O⟩
def anT n:(mm n).Pairwise (λx y=>bZ x.testBit n<=bZ y.testBit n):=by
 have d:∀k,((bX k).flatMap λs=>uR n<|s+1).Pairwise (λx y=>bZ x.testBit n<=bZ y.testBit n):=by
  intro k;induction k with
  |zero=>exact .nil
  |succ k g=>
   rw[yx,D5]
   refine xZ.2 ⟨g,?_,λx a y f=>?_⟩
   .simp only[lG,N7,iD];refine NQ ?_ (List.pairwise_of_forall (R:=λ_ _=>True) (λ_ _=>trivial):(uR n<|k+1).Pairwise λ_ _=>True);intro x y a f _;simp only[uR,oP,beq_iff_eq]at a f;omega
   .simp only[jb,l3,lG,N7,iD,uR,oP,beq_iff_eq]at a f;let ⟨s,i,h2,l⟩:=a;omega
 exact d _
structure g5(p:Y)(m:G)(a:V G)(l:V (V G)):Prop where
 H:br p
 pm:∃e,1<=e/\m=(p:G)^e
 am:aJ a
 lm:∀f∈l,aJ f
 fI:∀f∈l,bq (fx f:Fx p)
 pair:l.Pairwise (λx y=>Co (fx x:Fx p)<|fx y)
 pr:Cg m (ps a) (pN l)
 lV:qU (fx a:Fx p)
 len:a.length=1+dD l
 bd:∀g,aJ g->Rx.zx g∣Rx.zx a->∀i,2*((g.getD i 0).natAbs:G)<m
section
variable{p:Y}{m:G}{a:V G}{l:V (V G)}
def g5.m1(d:g5 p m a l):1<m/\(p:G)∣m:=by obtain⟨e,g,rfl⟩:=d.pm;have i:=d.H.hp.1;obtain⟨e,rfl⟩:∃f,e=f+1:=⟨e-1,O⟩;have k:(0:G)<(p:G)^e:=nH O;rw[fK];refine⟨?_,Cq _ _⟩;have n:=hP (O:(1:G)<=(p:G)^e) (O:(0:G)<=p);omega
def g5.co(o:g5 p m a l){i d}(f:i<Z l)(g:d<Z l)(k:i≠d):Co (fx (l.getD i []):Fx p) (fx<|l.getD d []):=by
 have n:=List.pairwise_iff_getElem.1 o.pair;rw[aK,aK,cO f,cO g];rcases anr k with e|e
 .exact n i d f g e
 .exact(n d i g f e).symm
def g5.Jc(f:g5 p m a l){i}(d:i<Z l):l.getD i []∈l:=by rw[aK,cO d];exact sF d
def ach{Q:Fx p}(H:br p)(d:bq Q):∀{l:V (V G)},Q∣gf l->∃f∈l,Q∣fx f
 |[],g=>absurd g<|d.zy H
 |f::l,g=>by
  rcases d.nZ H g with i|i
  .exact⟨f,az,i⟩
  .let ⟨x,h1,h2⟩:=ach H d i;exact⟨x,zC,h2⟩
def g5.anU(f:g5 p m a l)(d:Y->Bool):(fx (gS m l d):Fx p)=gf (bJ d 0 l):=by let ⟨g,h2⟩:=f.m1;rw[<-z7 (bJ d 0 l) m h2];refine NN<|Cg.of λi=>?_;rw[cH,cH,gS,qW _ O,<-tu _ h2,z5 O,tu _ h2]
def g5.Ct(g:g5 p m a l)(d:Y->Bool):aJ (gS m l d)/\Z (gS m l d)=1+dD (bJ d 0 l):=by let ⟨i,h2⟩:=g.m1;let ⟨k,n⟩:=z6 i Cs (λf o=>g.lm f (xY o):∀f∈bJ d 0 l,aJ f);refine⟨Cp i k,?_⟩;rw[gS,cy,n];rfl
def g5.aci(d:g5 p m a l)(o:Y->Bool){k}(n:k<Z l):(fx (l.getD k []):Fx p)∣fx (gS m l o)↔o k=ae:=by
 rw[d.anU];constructor
 .intro v;let ⟨f,g,x⟩:=ach d.H (d.fI _<|d.Jc n) v;let ⟨i,h2,t,A⟩:=Ja g;rw[ff]at t;by_cases e:k=i
  .rw[e];exact t
  .have u:=d.co n h2 e;rw[A]at u;have:=u.unit d.H x;have:=(d.fI _<|d.Jc n).1;omega
 .intro B;have:=T6 (b:=o) (l:=l) (i:=0) (j:=k) n (by rw[ff];exact B);have s:∀{l:V (V G)}{f:V G},f∈l->(fx f:Fx p)∣gf l:=by
   intro l;induction l with
   |nil=>intro f g;cases g
   |cons y l C=>
    intro f g
    rcases b9.1 g with rfl|g
    .exact dvd_mul_right _ _
    .exact dw (C g) _
  exact s this
def Cu{b c:Y->Bool}:∀{l:V (V G)}{i:Y},(∀d,d<Z l->b (i+d)=c (i+d))->bJ b i l=bJ c i l
 |[],_,_=>rfl
 |f::l,i,g=>by
  have k:=Cu (b:=b) (c:=c) (l:=l) (i:=i+1) λd n=>by have:=g (d+1) b8;rwa[(O:i+(d+1)=i+1+d)]at this
  rw[bJ,bJ,k];have:=g 0 az;rw[jy]at this;rw[this]
def Uc{x y d}(f:ps x*ps y=ps d):(fx d:Fx p)=fx x*fx y:=(mk_congr f ((bp.ps p x).mul<|bp.ps p y)<|bp.ps p d).symm
def g5.mask(o:g5 p m a l){g k}(L:aJ g)(hk:aJ k)(dN:Rx.zx a=Rx.zx g*Rx.zx k):
  ∃d:Y->Bool,g=gS m l d/\k=gS m l (λi=> !d i)/\(∀n,n<Z l->(d n=ae↔(fx (l.getD n []):Fx p)∣fx g))/\Cg m (ps g) (pN<|bJ d 0 l)/\Cg m (ps k) (pN<|bJ (λi=> !d i) 0 l):=by
 let ⟨K,u⟩:=o.m1
 have H:=o.H
 have M:(1:G)<p:=Cj
 have P:=Rx.NY dN.symm
 have v:(fx a:Fx p)=fx g*fx k:=Uc P
 classical
 let d:Y->Bool:=λn=>decide<|(fx (l.getD n []):Fx p)∣fx g
 have hb:∀n,d n=ae↔(fx (l.getD n []):Fx p)∣fx g:=λn=>decide_eq_true_iff
 have x:∀c:Y->Bool,∀f∈bJ c 0 l,aJ f:=λc f s=>o.lm f<|xY s
 have d1:(gf (bJ d 0 l):Fx p)∣fx g:=T5 H (I' o.pair) λf s=>by let ⟨n,_,h2,h3⟩:=Ja s;rw[ff]at h2;rw[<-h3];exact(hb n).1 h2
 have eA:(fx a:Fx p)=gf l:=by rw[Fi];refine mk_eq.2<|Cg.of λi=>?_;have:=o.pr.at i;rw[<-tu _ u,this,tu _ u]
 have T:∀{l:V (V G)}{f:V G},f∈l->(fx f:Fx p)∣gf l:=by
  intro l;induction l with
  |nil=>intro f s;cases s
  |cons y l ih=>
   intro f s
   rcases b9.1 s with rfl|s
   .exact dvd_mul_right _ _
   .exact dw (ih s) _
 have d2:(gf (bJ (λi=> !d i) 0 l):Fx p)∣fx k:=T5 H (I' o.pair) λf s=>by
  let ⟨n,B,h2,h3⟩:=Ja s;rw[ff]at h2;have U:=o.Jc B;rw[<-h3];have hd:(fx (l.getD n []):Fx p)∣fx g*fx k:=by rw[<-v,eA];exact T U
  rcases(o.fI _ U).nZ H hd with e1|e1
  .rw[(hb n).2 e1]at h2;cases h2
  .exact e1
 have e2:(gf (bJ d 0 l)*gf (bJ (λi=> !d i) 0 l):Fx p)=gf l:=by rw[Fi,Fi,Fi,abO];exact mk_congr (T3 d l 0) _ _
 let ⟨w,hw⟩:=d1
 let ⟨W,C⟩:=d2
 have X:(fx a:Fx p)≠0:=λq=>by have B:=uQ H o.am;rw[q,k8 H.pos]at B;have:=bQ.2 o.am.1;omega
 have ww:w*W=1:=by refine zw H (A:=(gf l:Fx p)) (by rw[<-eA];exact X) ?_;rw[one_mul,<-e2];have e3:w*W*(gf (bJ d 0 l)*gf (bJ (λi=> !d i) 0 l))=w*gf (bJ d 0 l)*(W*gf (bJ (λi=> !d i) 0 l)):=fG;rw[e3,<-hw,<-C,<-v,eA,e2]
 have sw:sz w=1:=xN H (by rw[mul_comm];exact ww:W*w=1)
 have sw':sz W=1:=xN H ww
 let ⟨r,tl1⟩:=z6 M Cs<|x d
 let ⟨z,tl2⟩:=z6 M Cs<|x λi=> !d i
 have eg:(fx g:Fx p)=gf (bJ d 0 l):=by have hp:=z7 (p:=p) (bJ d 0 l) p<|Jd _;rw[<-hp]at hw⊢;exact ace H L r sw hw
 have ek:(fx k:Fx p)=gf (bJ (λi=> !d i) 0 l):=by have hp:=z7 (p:=p) (bJ (λi=> !d i) 0 l) p<|Jd _;rw[<-hp]at C⊢;exact ace H hk z sw' C
 have lg:Z g=1+dD (bJ d 0 l):=by have B:=uQ H L;rw[eg,<-z7 (p:=p) (bJ d 0 l) p (Jd _),uQ H r,tl1]at B;rw[<-B];rfl
 have lk:Z k=1+dD (bJ (λi=> !d i) 0 l):=by have B:=uQ H hk;rw[ek,<-z7 (p:=p) (bJ (λi=> !d i) 0 l) p (Jd _),uQ H z,tl2]at B;rw[<-B];rfl
 let ⟨um1,D⟩:=z6 K Cs<|x d
 let ⟨um2,F⟩:=z6 K Cs<|x λi=> !d i
 have c1:Cg p (ps g) (ps<|kI m [1] (bJ d 0 l)):=mk_eq.1 (eg.trans (z7 (bJ d 0 l) m u).symm:Fx.mk (ps g) (bp.ps p g)=Fx.mk (ps<|kI m [1] (bJ d 0 l)) (bp.ps p _))
 have c2:Cg p (ps k) (ps<|kI m [1] (bJ (λi=> !d i) 0 l)):=mk_eq.1 (ek.trans (z7 (bJ (λi=> !d i) 0 l) m u).symm:Fx.mk (ps k) (bp.ps p k)=Fx.mk (ps<|kI m [1] (bJ (λi=> !d i) 0 l)) (bp.ps p _))
 have Je:Co (fx g:Fx p) (fx k):=E5 H (λq=>X<|by rw[v,q,zero_mul]) λQ hQ q1 q2=>o.lV Q hQ (by rw[v];exact xO q1 q2)
 have I:MD (Z g-1) (ps<|kI m [1] (bJ d 0 l)):=by have:=um1.uO;rwa[D,show Z ([1]:V G)=1 from J,<-lg]at this
 have N:MD (Z k-1) (ps<|kI m [1] (bJ (λi=> !d i) 0 l)):=by have:=um2.uO;rwa[F,show Z ([1]:V G)=1 from J,<-lk]at this
 let ⟨q,he1,R⟩:=o.pm
 have t1:=N4 m (bJ d 0 l) [1]
 have t2:=N4 m (bJ (λi=> !d i) 0 l) [1]
 rw[MU,PS.one_mul]at t1 t2
 have z9:Cg m (ps g*ps k) (ps (kI m [1] (bJ d 0 l))*ps (kI m [1] (bJ (λi=> !d i) 0 l))):=by rw[P];refine o.pr.trans ?_;rw[<-T3 d l 0];exact(t1.mul t2).symm
 have S:=aca H L.uO I hk.uO N Je c1 c2 q he1<|R▸z9
 rw[<-R]at S
 have fin:∀{g:V G}{t:V G},aJ g->Rx.zx g∣Rx.zx a->Z g=Z t->Cg m (ps g) (ps t)->g=t.map (dH · m):=by
  intro g t L hd hl hc;refine NU (by rw[cy,hl]) λn _=>?_
  rw[qW _ O,<-N0 (a:=E g n 0) (b:=E t n 0) (hc.at n)];exact(anS<|o.bd g L hd n).symm
 refine⟨d,fin L (by rw[dN];exact Rx.dvd_mul_right _ _) (by rw[D,lg];rfl) S.1,fin hk (by rw[dN];exact Rx.dvd_mul_left _ _) (by rw[F,lk];rfl) S.2,λn _=>hb n,S.1.trans t1,S.2.trans t2⟩
def g5.acj(d:g5 p m a l){b:Y->Bool}(n:0<bZ b (Z l)):1<=dD (bJ b 0 l):=by
 let ⟨j,f,h2⟩:=acg n;have o:=T6 (b:=b) (l:=l) (i:=0) f (by rw[ff];exact h2);have s:=(d.fI _<|d.Jc f).1;rw[uQ d.H (d.lm _<|d.Jc f)]at s;have g:∀{L:V (V G)},l.getD j []∈L->1<=dD L:=by
  intro L;induction L with
  |nil=>intro k;cases k
  |cons y L t=>
   intro k
   rw[dD]
   rcases b9.1 k with e|e
   .rw[<-e];omega
   .have:=t e;omega
 exact g o
def g5.EL(t:g5 p m a l){u v}(d:Rx.Mo u)(f:Rx.Mo v)(n:Rx.zx a=u*v):∃g k,aJ g/\aJ k/\Rx.zx g=u/\Rx.zx k=v:=by let ⟨i1,i2⟩:=Rx.N5 d f<|n▸Rx.Cn a;let ⟨g,o,g2⟩:=Rx.NW i1;let ⟨k,s,i⟩:=Rx.NW i2;exact⟨g,k,Rx.NX o<|g2▸d,Rx.NX s<|i▸f,g2,i⟩
def g5.first(f:g5 p m a l){d}(hS:d∈mm (Z l))(hd:Rx.zx (gS m l d.testBit)∣Rx.zx a)(hf:∀T∈mm (Z l),bZ T.testBit (Z l)<bZ d.testBit (Z l)->¬Rx.zx (gS m l T.testBit)∣Rx.zx a):Rx.bq (Rx.zx<|gS m l d.testBit):=by
 let ⟨_,hS1,hS2⟩:=z8.1 hS;let ⟨H,gl⟩:=f.Ct d.testBit;have Fj:=f.acj (b:=d.testBit) O;refine⟨by rw[Rx.ln H.can];omega,λA B e=>eZ λF=>?_⟩;let ⟨u,v,hu,K,M,su,sv⟩:=Rx.T7 (Rx.n7 H) e (λf=>F<|.inl f)<|λf=>F<|.inr f;let ⟨k,I⟩:=hd;have Q:Rx.Mo k:=by have:=Rx.n7 f.am;rw[I]at this;exact this.zz<|Rx.n7 H
 have U:Rx.zx a=u*(k*v):=by rw[I,M];ac_rfl
 let ⟨o,k',J,k1,g2,k2⟩:=f.EL hu (Q.mul K) U;let ⟨b,N,b2,b3,_⟩:=f.mask J k1 (by rw[g2,k2];exact U);have W:∃s,aJ s/\Rx.zx s=v:=by let ⟨_,i2⟩:=Rx.N5 hu K<|M▸Rx.Cn _;let ⟨s,v1,v2⟩:=Rx.NW i2;exact⟨s,Rx.NX v1<|v2▸K,v2⟩
 let ⟨s,_,v2⟩:=W;have X:(fx (gS m l d.testBit):Fx p)=fx o*fx s:=Uc (Rx.NY<|by rw[g2,v2];exact M.symm);have sub:∀i,i<Z l->b i=ae->oU d i=ae:=λi P t=>(f.aci d.testBit P).1 (by rw[X];exact kD ((b3 i P).1 t) _)
 have n:Z o=1+dD (bJ b 0 l):=by rw[N];exact(f.Ct b).2
 have sg':Rx.sz u=Z o:=by rw[<-g2,Rx.ln J.can]
 have q:Z o<Z (gS m l d.testBit):=by have:=Rx.eh hu.ne K.ne;rw[<-M,Rx.ln H.can]at this;omega
 have r:∃i,i<Z l/\b i=false/\oU d i=ae:=eZ λE=>by
  have:bJ b 0 l=bJ d.testBit 0 l:=Cu λj x=>by
   rw[ff];cases t:b j
   .cases hs:oU d j
    .rfl
    .exact absurd ⟨j,x,t,hs⟩ E
   .exact(sub j x t).symm
  rw[n,this]at q;omega
 have sK:=T8 sub r;have xh:0<bZ b (Z l):=by
  rcases qD (bZ b<|Z l)with R|R
  .have:bJ b 0 l=bJ (λ_=>false) 0 l:=Cu λj x=>by
    rw[ff];cases t:b j
    .rfl
    .have:=Ua x t;omega
   have z:∀(L:V (V G))(i:Y),bJ (λ_=>false) i L=[]:=by
    intro L;induction L with
    |nil=>intro i;rfl
    |cons y L ih=>intro i;rw[bJ,w D,ih]
   rw[this,z]at n;have:Z o=1:=n;omega
  .exact R
 have g:∀i,i<Z l->oU (pP b<|Z l) i=b i:=λi P=>Ub b P
 have Cv:bZ (pP b<|Z l).testBit (Z l)=bZ b (Z l):=Jb g;have C:gS m l (pP b<|Z l).testBit=o:=by rw[N,gS,gS,Cu (b:=(pP b<|Z l).testBit) (c:=b) λj x=>by rw[ff];exact g j x]
 refine hf (pP b<|Z l) (z8.2 ⟨N6 b _,O,O⟩) O ?_;rw[C,g2,U];exact Rx.dvd_mul_right _ _
def g5.none(d:g5 p m a l)(hl:l≠[])(hf:∀T∈mm (Z l),¬Rx.zx (gS m l T.testBit)∣Rx.zx a):Rx.bq (Rx.zx a):=by
 have s:=bQ.2 hl;have n:=d.acj (b:=λ_=>ae)<|Ua (i:=0) s J;have S:∀(L:V (V G))(i:Y),bJ (λ_=>ae) i L=L:=by
  intro L;induction L with
  |nil=>intro i;rfl
  |cons y L t=>intro i;rw[bJ,b J,t]
 rw[S]at n;have P:=d.len;refine⟨by rw[Rx.ln d.am.can];omega,λA B e=>eZ λQ=>?_⟩;let ⟨u,v,hu,hv,o,U,W⟩:=Rx.T7 (Rx.n7 d.am) e (λd=>Q<|.inl d)<|λd=>Q<|.inr d;let ⟨g,k,X,q,g2,C⟩:=d.EL hu hv o;let ⟨H,r,E,b3,_⟩:=d.mask X q (by rw[g2,C];exact o);have pos:∀{c:Y->Bool}{x:V G},x=gS m l c->2<=Z x->0<bZ c (Z l):=by
  intro c x K h2;rcases qD (bZ c<|Z l)with F|F
  .have e1:bJ c 0 l=bJ (λ_=>false) 0 l:=Cu λj M=>by
    rw[ff];cases hb:c j
    .rfl
    .have:=Ua M hb;omega
   have z:∀(L:V (V G))(i:Y),bJ (λ_=>false) i L=[]:=by
    intro L;induction L with
    |nil=>intro i;rfl
    |cons y L t=>intro i;rw[bJ,w D,t]
   have I:=(d.Ct c).2;rw[<-K,e1,z]at I;have:Z x=1:=I;omega
  .exact F
 have p1:=pos r (by rw[<-g2,Rx.ln X.can]at U;exact U);have p2:=pos E (by rw[<-C,Rx.ln q.can]at W;exact W);have N:=T9 H<|Z l;have R:∀(c:Y->Bool)(x:V G),x=gS m l c->0<bZ c (Z l)->bZ c (Z l)<=Z l/2->Rx.zx x∣Rx.zx a->False:=by
  intro c x K hp hle hd;have f:∀i,i<Z l->oU (pP c<|Z l) i=c i:=λi hi=>Ub c hi
  have Cv:bZ (pP c<|Z l).testBit (Z l)=bZ c (Z l):=Jb f;refine hf (pP c<|Z l) (z8.2 ⟨N6 c _,O,O⟩) ?_;rw[show gS m l (pP c<|Z l).testBit=x by rw[K,gS,gS,Cu (b:=(pP c<|Z l).testBit) (c:=c) λj M=>by rw[ff];exact f j M]];exact hd
 by_cases hh:bZ H (Z l)<=Z l/2
 .exact R H g r p1 hh (by rw[g2,o];exact Rx.dvd_mul_right _ _)
 .exact R _ k E p2 O (by rw[C,o];exact Rx.dvd_mul_left _ _)
end
open Classical in
noncomputable def mW(a g:V G):V G:=if h:∃q,aJ q/\Rx.zx a=Rx.zx g*Rx.zx q then Ci h else[]
open Classical in
noncomputable def tv(m:G)(a:V G)(l:V (V G)):Option Y:=(mm<|Z l).find? λS=>decide<|Rx.zx (gS m l S.testBit)∣Rx.zx a
noncomputable def sc(m:G):Y->V G->V (V G)->V (V G)
 |0,a,_=>[a]
 |k+1,a,l=>match tv m a l with
  |some d=>gS m l d.testBit::sc m k (mW a<|gS m l d.testBit) (bJ (λi=> !d.testBit i) 0 l)
  |none=>[a]
open Classical in
def ack{m}{a}{l}{f}(i:tv m a l=some f):∃d g,mm (Z l)=d++f::g/\Rx.zx (gS m l f.testBit)∣Rx.zx a/\∀T∈d,¬Rx.zx (gS m l T.testBit)∣Rx.zx a:=by unfold tv at i;let ⟨k,d,g,h2,n⟩:=List.find?_eq_some_iff_append.1 i;refine⟨d,g,h2,aU k,λT o p=>?_⟩;have:=n T o;rw[GY]at this;exact a6 this p
open Classical in
def an1{m}{a}{l}(d:tv m a l=none):∀T∈mm (Z l),¬Rx.zx (gS m l T.testBit)∣Rx.zx a:=by unfold tv at d;intro T f g;exact List.find?_eq_none.1 d T f<|o9 g
section
variable{p:Y}{m:G}{a:V G}{l:V (V G)}
def g5.an2(k:g5 p m a l){d}(n:tv m a l=some d):Rx.bq (Rx.zx<|gS m l d.testBit):=by
 let ⟨us,ws,f,h2,o⟩:=ack n;have s:d∈mm (Z l):=by rw[f];simp
 refine k.first s h2 λT g t=>?_
 have i:=anT<|Z l;rw[f]at g i;rcases bg.1 g with e|e
 .exact o T e
 .exfalso;rcases b9.1 e with e|e
  .subst e;omega
  .have:=(jR.1 (xZ.1 i).2.1).1 T e;omega
def g5.rest(o:g5 p m a l){d}(hS:d∈mm (Z l))(hd:Rx.zx (gS m l d.testBit)∣Rx.zx a):Rx.zx a=Rx.zx (gS m l d.testBit)*Rx.zx (mW a<|gS m l d.testBit)/\g5 p m (mW a<|gS m l d.testBit) (bJ (λi=> !d.testBit i) 0 l)/\bJ (λi=> !d.testBit i) 0 l≠[]/\Z (bJ (λi=> !d.testBit i) 0 l)<Z l:=by
 let ⟨_,z,D⟩:=z8.1 hS;let ⟨B,gl⟩:=o.Ct d.testBit;have t:∃q,aJ q/\Rx.zx a=Rx.zx (gS m l d.testBit)*Rx.zx q:=by
  let ⟨k,C⟩:=hd;have K:Rx.Mo k:=by have:=Rx.n7 o.am;rw[C]at this;exact this.zz<|Rx.n7 B
  let ⟨E,r,F,_,I,_⟩:=o.EL K (Rx.n7 B) C;exact⟨E,F,by rw[I,C,Rx.mul_comm]⟩
 let ⟨M,u⟩:=wb t;have J:mW a (gS m l d.testBit)=Ci t:=by unfold mW;rw[dif_pos t]
 rw[<-J]at M u;generalize hg:gS m l d.testBit=g at*;generalize mW a g=q at*;let ⟨b,b1,N,R,b4,b5⟩:=o.mask B M u;have P:∀j,j<Z l->b j=oU d j:=λj A=>by
  have Q:=R j A;rw[<-hg,o.aci d.testBit A]at Q;cases T:b j
  .cases hs:oU d j
   .rfl
   .rw[Q.2 hs]at T;cases T
  .exact(Q.1 T).symm
 have s:bJ (λi=> !b i) 0 l=bJ (λi=> !d.testBit i) 0 l:=Cu λj A=>by rw[ff,P j A]
 have v:∀(c:Y->Bool)(L:V (V G))(i:Y),Z (bJ c i L)=bZ (λj=>c<|i+j) (Z L):=by
  intro c L;induction L with
  |nil=>intro i;rfl
  |cons y L ih=>
   intro i
   have sh:∀n,bZ (λj=>c<|i+j) (n+1)=(if c i then 1 else 0)+bZ (λj=>c<|i+1+j) n:=by
    intro n;induction n with
    |zero=>rw[bZ,bZ,bZ];simp
    |succ n U=>rw[bZ,U,bZ,(O:i+(n+1)=i+1+n)];omega
   rw[bJ,ik,sh]
   have:=ih<|i+1
   split
   .rw[ik];omega
   .omega
 have x:Z (bJ (λi=> !d.testBit i) 0 l)=bZ (λi=> !d.testBit i) (Z l):=by rw[v];exact Jb λi _=>by rw[ff]
 have w:=T9 d.testBit<|Z l;refine⟨u,?_,λe=>by rw[e]at x;simp at x;omega,O⟩;have W:Rx.zx q∣Rx.zx a:=by rw[u];exact Rx.dvd_mul_left _ _
 refine⟨o.H,o.pm,M,λf X=>o.lm f<|xY X,λf X=>o.fI f<|xY X,I' o.pair,s▸b5,?_,?_,λr g1 g2=>o.bd r g1<|Rx.dvd_trans g2 W⟩
 .refine o.lV.of_dvd ?_;rw[Uc (Rx.NY u.symm)];exact dvd_mul_left _ _
 .rw[N,(o.Ct _).2,s]
def g5.all:∀(k:Y){a:V G}{l:V (V G)},Z l<=k->l≠[]->g5 p m a l->(∀d∈sc m k a l,aJ d/\Rx.bq (Rx.zx d))/\Rx.pO (sc m k a l)=Rx.zx a
 |0,_,l,n,h2,_=>absurd (eT O) h2
 |k+1,a,l,n,h2,f=>by
  rw[sc];cases g:tv m a l with
  |none=>
   have o:=f.none h2<|an1 g
   refine⟨λd i=>?_,Rx.mul_one _⟩
   rw[iK.1 i]
   exact⟨f.am,o⟩
  |some S=>
   let ⟨us,ws,s1,s2,_⟩:=ack g
   have s:S∈mm (Z l):=by rw[s1];simp
   let ⟨r1,t,u,v⟩:=f.rest s s2
   let ⟨i1,i2⟩:=g5.all k O u t
   refine⟨λd i=>?_,by rw[Rx.pO,i2,<-r1]⟩
   rcases b9.1 i with e|e
   .rw[e];exact⟨(f.Ct _).1,f.an2 g⟩
   .exact i1 d e
end
end Go.El
