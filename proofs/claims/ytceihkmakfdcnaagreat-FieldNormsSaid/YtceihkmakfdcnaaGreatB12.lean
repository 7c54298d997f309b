/- Contracts: small functions on the reference's polynomials over the rationals. Own work; no condition. -/
import Derived.Test.YtceihkmakfdcnaaGreatB11
import Derived.Test.YtceihkmakfdcnaaGreatB9
import Derived.Test.YtceihkmakfdcnaaGreatB10
import Derived.Test.YtceihkmakfdcnaaGreatB7
set_option linter.all false
set_option maxHeartbeats 16000000
set_option maxRecDepth 100000
open Bool renaming false->ah
open Classical renaming choose->yb
open Go.El renaming rr->e,cS->S,K0->F,re->z,dj->j,cI->O,rb->R
open Go.Proofs.Tryz renaming prog->c
open Int renaming toNat->af,natAbs->aA,natAbs_mul_self'->arb
open List renaming getD->I,length->Z,range->cw,take->M
open List.Pairwise renaming nil->F7
open Rat renaming divInt->jC
open _root_ renaming Rat->N,List->E,Int->Y,Nat->V
namespace Go.El
open Go Go.Proofs
def iC(a:N):E N:=fI [a]
def VE a:ao c 44 [aQ a] (S .q<|iC a):=by refine aL Tryz.func44 ?_;exact e J<|R<|rl .q [_] J J (rc J J (CT [a] (by rw[rA];omega))<|z J<|c7 J)
def sb(a b:E N):E N:=kD a<|jd ((-1:Y):N) b
def JR a b i:I (sb a b) i 0=I a i 0-I b i 0:=by rw[sb,Pa,Am,show(((-1:Y)):N)= -1 from J];grind
def aqo{k}a b(l:Z a<=1000)(f:Z b<=1000)(m:∀i,QS k (I a i 0))(g:∀i,QS k (I b i 0))(h:1<=k)(t:k<=200000000000):ao c 117 [S .q a,S .q b] (S .q<|sb a b):=by
 have n:QS k (((-1:Y)):N):=⟨(aG.one (a:= -1) D).le h,(aG.one (a:=1) D).le h⟩;have o:=O9 (((-1:Y)):N) b f n g G;have p:∀i,QS k (I (jd ((-1:Y):N) b) i 0):=λi=>by rw[Am,show(((-1:Y)):N)*I b i 0= -(I b i 0)by rw[show(((-1:Y)):N)= -1 from J];grind];exact(g i).neg
 have s:Z (jd ((-1:Y):N) b)<=1000:=b6 (F0 _) (by simp;exact f);have d:=O' a _ l s m p G;refine aL Tryz.func117 ?_;exact e J<|R<|rc J J (zC (-1) D D)<|rc J J o<|rc J J d<|z J<|c7 J
def Pe(a:E N)(h:a≠[])(b:Z a<=1000):ao c 83 [S .q a] (aQ<|I a (Z a-1) 0):=by have d:=cR.2 h;refine aL Tryz.func83 ?_;refine e J<|e J (hp:=aF)<|bY J ?_;rw[(G:Z a-1=af ((Z a:Y)-1))];rfl
def aqp{k}a(h:a≠0)(f:QS k a)(i:k<=500000000000):ao c 82 [aQ a] (.t [(true,av .q a⁻¹),(ah,[.I .i64 0])]):=by have b:jC (a.den:Y) a.num=a⁻¹ :=(Rat.inv_def a).symm;have g:=Vs (a.den:Y) a.num (λb=>h<|yh b) (f.d.sm G)<|f.n.sm G;rw[b]at g;refine aL Tryz.func82 ?_;exact e J<|bH J J g J<|c7 J
def aqq{a}(b:a≠[]):eO a=jd (I a (Z a-1) 0)⁻¹ a:=by refine Rx.rY (Rx.ve a) (Rx.k6 _) ?_;rw[Rx.Al b,JO]
def VF{k}a(f:Z a<=1000)(d:∀i,QS k (I a i 0))(g:a≠[]->I a (Z a-1) 0≠0)(o:k<=200000000000):ao c 29 [S .q a] (S .q<|eO a):=by
 refine aL Tryz.func29 ?_;refine e J<|j<|e J<|F J (λh=>?_)<|λh=>aE ?_
 .have h:(Z a:Y)=0:=eq_of_beq h;rw[gK (by omega:Z a=0)];exact e J<|bV<|cQ<|iJ cv J<|bg.nil _
 .have b:a≠[]:=λm=>by subst m;cases h
  have n:=(d<|Z a-1).inv<|g b;have l:=O9 (I a (Z a-1) 0)⁻¹ a f n d G;rw[<-aqq b]at l;exact R<|rc J J (Pe a b f)<|rc J J (aqp _ (g b) (d _) G)<|z J<|bH J J l J<|c7 J
def aqr{k}a(s:Z a<=1000)(l:∀i,QS k (I a i 0))(f:1<=k)(t:k<=200000000000):ao c 132 [S .q a] (S .q<|tk a):=by
 refine aL Tryz.func132 ?_;obtain⟨b,g⟩:∃b:V->N,b=λi=>(((i+1:V):Y):N)*I a (i+1) 0:=⟨_,J⟩
 have m:tk a=(cw<|Z a-1).map b:=by rw[g];rfl
 rw[m];refine e J<|R<|gP .q [] J J (z J<|j<|e J ?_);refine az<|bq (α:=V) (λi=>⟨[(0,S .q a),(3,.c<|.X 1000000),(4,O ((i+1:V):Y))],[(1000000,.vec 44 .q<|(cw i).map b)],3,[]⟩) (λi=>i<=Z a-1) (λi=>Z a-i) 0 (bf _) aV ?_;intro i u;have n:Z ((cw i).map b)=i:=ax;refine j<|e J<|F J (λh=>?_)<|λh=>?_
 .have h:i+1<Z a:=by have h:((i+1:V):Y)<(Z a:Y):=aW h;omega
  have o:QS k ((((i+1:V):Y)):N):=⟨(aG.one (a:=((i+1:V):Y)) G).le f,(aG.one (a:=1) D).le f⟩;have d:=CQ ((((i+1:V):Y)):N) (I a (af<|((i+1:V):Y)) 0) o (l _) G;have p:((((i+1:V):Y)):N)*I a (af<|((i+1:V):Y)) 0=b i:=by rw[g,cr]
  rw[p]at d;refine aE<|j<|az<|cK ?_;refine rc J J (zC ((i+1:V):Y) G G) ?_;refine rc J J d ?_ (hp:=aF);refine rl .q [b i] J J (ra J J J J J J J J J ?_ ?_<|z J ?_)
  .show(Z ((cw i).map b)+1+(Z ((cw i).map b)+1)/4+192)*64<=_;omega
  .show(Z ((cw i).map b)+1)*4<=_;omega
  refine bL<|rt J (hp:=aF)<|a4 (i+1) (G:i+1<=Z a-1) qy<|Wk.trans (wk (st':=⟨[(0,S .q a),(3,.c<|.X 4009000),(4,O ((i+1+1:V):Y))],[(4009000,.vec 44 .q<|(cw<|i+1).map b)],20,[]⟩) (bM J) ⟨bE J ?_,A⟩)<|Wk.trans (gW 1000000 4009000 J J J) aV;rw[Vy]
 .have h:i=Z a-1:=by have h:¬((i+1:V):Y)<(Z a:Y):=bc h;omega
  subst h;exact nL<|rk<|ov<|nM<|aK<|da 1000000 J J J<|e J<|bV<|atR J
open Rx
def VG a i:I (iC a) i 0=if i=0 then a else 0:=by
 rw[iC,CU];cases i with
 |zero=>rfl
 |succ i=>simp
def Pf a:I (lH a) 0 0=0:=by rw[aey];rfl
def Pg a i:I (lH a) (i+1) 0=I a i 0:=by rw[aey];rfl
structure sc(a b:E N)(n m c:V)(q r:E N):Prop where
 qc:bU q
 rc:bU r
 qg:∀i,q.getD i 0=if i<c-n then(dA (b.getD n 0)⁻¹ a b n m (c-n)).1.getD (a.length-c+i) 0 else 0
 rg:∀i,r.getD i 0=if i<min c n then(dA (b.getD n 0)⁻¹ a b n m (c-n)).2.getD (a.length-c+i) 0 else 0
def Ph{a}{n}(h:bU a)(d:∀i,n<=i->I a i 0=0):Z a<=n:=fc λb=>by
 rcases h with h|h
 .rw[h]at b;exact b<|bf _
 .exact h<|d _ G
def aqs{a:E N}{n}(h:I a n 0≠0):n<Z a:=fc λb=>h<|g5 a G
def aeE a b:bU (kD a b):=k6 _
def aeF{inv:N}{a b:E N}{n m:V}(f:Z a=n+m)(g:Z b=n+1):∀d,d<=m->∀i,i<m-d->(dA inv a b n m d).2.getD i 0=I a i 0
 |0,_,_,_=>rfl
 |d+1,h,i,k=>by rw[dA];show I (jD _ _ b<|m-1-d) i 0=_;rw[jD,vb (by rw[(Ai inv a b n m d).2];omega),y G];exact aeF f g d G i G
def VH(a:E N)(x:N):∀i,I (kD (lH a)<|iC x) i 0=if i=0 then x else I a (i-1) 0
 |0=>by rw[Pa,Pf,VG,q J,q J,FF]
 |i+1=>by rw[Pa,Pg,VG,y G,y G,nl];rfl
def sc.start a b n m:sc a b n m 0 [] []:=
 ⟨wq,wq,λi=>by rw[y G];rfl,λi=>by rw[y G];rfl⟩
section
variable{a b q r:E N}{n m c:V}
def sc.r1(h:sc a b n m c q r)(f:Z b=n+1)(l:m=Z a-n)(o:c<Z a) i:
  I (kD (lH r)<|iC<|I a (Z a-1-c) 0) i 0=if i<min (c+1) (n+1)then(dA (I b n 0)⁻¹ a b n m (c-n)).2.getD (Z a-(c+1)+i) 0 else 0:=by
 rw[VH]
 have g:(dA (I b n 0)⁻¹ a b n m (c-n)).2.getD (Z a-(c+1)) 0=I a (Z a-1-c) 0:=by
  rw[(G:Z a-(c+1)=Z a-1-c)];by_cases k:c<n
  .rw[(G:c-n=0)];rfl
  .exact aeF G f _ G _ G
 cases i with
 |zero=>rw[gf J,gf G,jv,g]
 |succ i=>
  rw[y G,eE,h.rg]
  by_cases d:i<min c n
  .rw[gf d,gf G,(G:Z a-(c+1)+(i+1)=Z a-c+i)]
  .rw[y d,y G]
def sc.step(h:sc a b n m c q r)(L:Z b=n+1)(P:m=Z a-n)(Q:I b n 0≠0)(T:c<Z a){s}(x:s=kD (lH r) (iC<|I a (Z a-1-c) 0)):
  (Z s=n+1->sc a b n m (c+1) (kD (lH q)<|iC<|I s n 0/I b n 0) (sb s<|jd (I s n 0/I b n 0) b))/\(Z s≠n+1->sc a b n m (c+1) (lH q) s)/\Z s<=n+1:=by
 have f:=h.r1 L P T
 rw[<-x]at f
 have g:bU s:=by rw[x];exact aeE _ _
 have K:Z s<=min (c+1) (n+1):=Ph g λi k=>by rw[f,y G]
 by_cases W:c<n
 .refine⟨λe=>G,λ_=>⟨k6 _,g,λi=>?_,λi=>?_⟩,G⟩
  .rw[y G];cases i with
   |zero=>exact Pf q
   |succ i=>rw[Pg,h.qg,y G]
  .rw[f,(G:c+1-n=c-n)];by_cases k:i<c+1
   .rw[gf G,gf G]
   .rw[y G,y G]
 obtain⟨j,A⟩:∃j,c=n+j:=⟨c-n,G⟩
 have X:c-n=j:=G
 have l:c+1-n=j+1:=G
 have o:=h.qg
 rw[X]at f o
 have d:=Ai (I b n 0)⁻¹ a b n m j
 have u:dA (I b n 0)⁻¹ a b n m (j+1)=((dA (I b n 0)⁻¹ a b n m j).1.set (m-1-j)<|(dA (I b n 0)⁻¹ a b n m j).2.getD (m-1-j+n) 0*(I b n 0)⁻¹,jD (dA (I b n 0)⁻¹ a b n m j).2 (-((dA (I b n 0)⁻¹ a b n m j).2.getD (m-1-j+n) 0*(I b n 0)⁻¹)) b<|m-1-j):=rfl
 have p:I s n 0=(dA (I b n 0)⁻¹ a b n m j).2.getD (m-1-j+n) 0:=by rw[f,gf G,(G:Z a-(c+1)+n=m-1-j+n)]
 rw[<-p,<-uW]at u
 generalize ht:I s n 0/I b n 0=t at*
 have v:t*I b n 0=I s n 0:=by rw[<-ht,Rat.div_mul_cancel Q]
 have B:∀i,I (kD (lH q)<|iC t) i 0=if i<c+1-n then(dA (I b n 0)⁻¹ a b n m (c+1-n)).1.getD (Z a-(c+1)+i) 0 else 0:=λi=>by
  rw[VH,l,u];show _=if i<j+1 then I ((dA (I b n 0)⁻¹ a b n m j).1.set (m-1-j) t) (Z a-(c+1)+i) 0 else 0
  rw[CO _ _ (by rw[d.1];omega)];cases i with
  |zero=>rw[gf J,gf G,gf G]
  |succ i=>
   rw[y G,eE,o]
   by_cases k:i<j
   .rw[gf k,gf G,y G,(G:Z a-(c+1)+(i+1)=Z a-c+i)]
   .rw[y k,y G]
 have C:∀i,I (sb s<|jd t b) i 0=if i<min (c+1) n then(dA (I b n 0)⁻¹ a b n m (c+1-n)).2.getD (Z a-(c+1)+i) 0 else 0:=λi=>by
  rw[JR,Am,l,u,f];show _=if i<min (c+1) n then I (jD (dA (I b n 0)⁻¹ a b n m j).2 (-t) b<|m-1-j) (Z a-(c+1)+i) 0 else 0
  by_cases k:i<n
  .rw[gf G,gf G,jD,vb (by rw[d.2];omega),gf G,(G:Z a-(c+1)+i-(m-1-j)=i)];grind
  .rw[y (by omega:¬i<min (c+1) n)];by_cases e:i=n
   .subst e;rw[gf G,v,f,gf G];grind
   .rw[y G,g5 b G];grind
 refine⟨λ_=>⟨aeE _ _,k6 _,B,C⟩,λz=>?_,G⟩
 have w:I s n 0=0:=fc λw=>by have:=aqs w;omega
 have H:t=0:=by rw[<-ht,w,uW,mO]
 refine⟨k6 _,g,λi=>?_,λi=>?_⟩
 .rw[<-B,VH,H];cases i with
  |zero=>rw[Pf,gf J]
  |succ i=>rw[Pg,y G];rfl
 .rw[<-C,JR,Am,H];grind
end
section
variable{a b q r:E N}{n m c:V}
def aqt(h:sc a b n m (Z a) q r)(l:Z b=n+1)(k:m=Z a-n):q=jr a b:=by
 have d:Z b-1=n:=G;have f:Z a+1-Z b=m:=G;refine rY h.qc (O6 a b)<|ext λi=>?_;rw[fj,fj,h.qg,jr,d,f,<-k];by_cases g:i<m
 .rw[gf g,y G,CU,kg,eP]
 .rw[y g];split
  .rfl
  .rw[CU,g5 _<|by rw[(Ai ..).1];omega]
def aqu(h:sc a b n m (Z a) q r)(o:Z b=n+1)(k:m=Z a-n)(l:bU a):r=fK a b:=by
 have d:Z b-1=n:=G;have f:Z a+1-Z b=m:=G;refine rY h.rc (yk l)<|ext λi=>?_;rw[fj,fj,h.rg,fK,d,f,<-k,kg,eP];by_cases hl:Z a<Z b
 .rw[gf hl];by_cases g:i<Z a
  .rw[gf G,(G:m=0)];rfl
  .rw[y G,g5 a G]
 .rw[y hl,CU,F1];by_cases g:i<n
  .rw[gf G,gf g]
  .rw[y G,y g]
def aeG{s:V}(k:1<=s){inv:N}(f:QS s inv)(g:∀d,d<=m->∀i,QS s ((dA inv a b n m d).2.getD i 0)):∀d,d<=m->∀i,QS (2*s) ((dA inv a b n m d).1.getD i 0)
 |0,_,i=>by
  rw[dA,aN,lY];have:QS (2*s) 0:=QS.zero G;by_cases h:i<m
  .rw[gf h];exact this
  .rw[y h];exact this
 |d+1,l,i=>by
  rw[dA];show QS _ (I ((dA inv a b n m d).1.set _ _) i 0);rw[CO _ _ (by rw[(Ai ..).1];omega)];split
  .exact(g d G _).mul f
  .exact aeG k f g d G i
def aqv(h:bU a)(d:a≠[]):I a (Z a-1) 0≠0:=h.resolve_left d
end
def aeH{s}(P:1<=s)(hs:s<=50000000000){a b}(hac:bU a)(Q:b≠[])(H:CR s a b):ao c 121 [S .q a,S .q b] (.t [(ah,[.S .q (jr a b)]),(ah,[.S .q (fK a b)]),(ah,[.I .i64 0])]):=by
 have Hd:=cR.2 Q;obtain⟨n,K⟩:∃n,Z b=n+1:=⟨Z b-1,G⟩;obtain⟨m,hm⟩:∃m,m=Z a-n:=⟨_,J⟩;have u:=H.bn;have L:=H.qS;rw[(G:Z b-1=n)]at u L;rw[(G:Z a+1-Z b=m)]at L;have la:=H.la;have lb:=H.lb;have qb:=H.qb;have qa:∀i,QS s (I a i 0):=L 0<|bf _;have T:QS s (I b n 0)⁻¹ :=(qb n).inv u;have hQ:=aeG P T L;have W:∀{k:V},1<=k->QS k (0:N):=λh=>QS.zero h
 have key:∀{d:V}{q r:E N},d<=Z a->sc a b n m d q r->(∀i,QS (2*s) (I q i 0))/\(∀i,QS s (I r i 0))/\Z q<=500/\Z r<=500:=λ{d q r} hc f=>by
  refine⟨λi=>?_,λi=>?_,?_,?_⟩
  .rw[f.qg];split
   .exact hQ _ G _
   .exact W G
  .rw[f.rg];split
   .exact L _ G _
   .exact W P
  .have:=Ph (n:=d-n) f.qc λi hi=>by rw[f.qg,y G]
   omega
  .have:=Ph (n:=min d n) f.rc λi hi=>by rw[f.rg,y G]
   omega
 have X:∀{k:V}{l:E N},1<=k->(∀i,QS k (I l i 0))->∀i,QS k (I (lH l) i 0):=λ{k l} hk h i=>by
  cases i with
  |zero=>rw[Pf];exact W hk
  |succ i=>rw[Pg];exact h i
 have D:∀{k:V}{x:N},1<=k->QS k x->∀i,QS k (I (iC x) i 0):=λ{k x} hk h i=>by
  rw[VG];split
  .exact h
  .exact W hk
 have M:∀l:E N,Z (lH l)<=Z l+1:=λl=>b6 (F0 _) O8
 have U:∀x:N,Z (iC x)<=1:=λx=>b6 (F0 _) (by rw[rA];omega)
 refine aL Tryz.func121 ?_;refine e J<|j<|e J<|F J (λh=>?_)<|λh=>aE ?_
 .have h:(Z b:Y)=0:=eq_of_beq h;exact absurd h G
 refine R<|rl .q [] J J (z J<|R<|rl .q [] J J (z J<|j<|e J ?_));refine az<|bq (α:=V×E N×E N) (λp=>⟨[(0,S .q a),(1,S .q b),(7,S .q p.2.1),(8,S .q p.2.2),(9,O<|(Z a:Y)-1-p.1)],[],20,[]⟩) (λp=>p.1<=Z a/\sc a b n m p.1 p.2.1 p.2.2) (λp=>Z a-p.1) (0,[],[]) ⟨bf _,sc.start a b n m⟩ (wk ⟨sR J,sR J,sR J,sR J,sE J ?_,A⟩ A) ?_
 .exact bh O (G:(Z a:Y)-1=(Z a:Y)-1-(0:V))
 rintro⟨d,q,r⟩ ⟨c1,f⟩;simp only at c1 f;let ⟨q1,r1,q2,r2⟩:=key c1 f;refine j<|e J<|F J (λh=>?_)<|λh=>?_
 .have h:d<Z a:=by have h:(Z a:Y)-1-d>=0:=aW h;omega
  have ei:af ((Z a:Y)-1-d)=Z a-1-d:=G;let ⟨S1,S2,S3⟩:=f.step K hm u h J;have v:∀i,QS s (I (kD (lH r)<|iC<|I a (Z a-1-d) 0) i 0):=λi=>by
   rw[f.r1 K hm h];split
   .exact L _ G _
   .exact W P
  have w:=VE<|I a (af<|(Z a:Y)-1-d) 0;have B:=O' (lH r) (iC<|I a (af<|(Z a:Y)-1-d) 0) (by have:=M r;omega) (by have:=U<|I a (af<|(Z a:Y)-1-d) 0;omega) (X P r1) (D P<|qa _) G;rw[ei]at w B;generalize hsE:kD (lH r) (iC<|I a (Z a-1-d) 0)=g at*;rw[<-ei]at w B;refine aE<|j<|az<|R<|rc J J (aew r G)<|rc J J w (rc J J B<|z J ?_) (hp:=aF);refine bH J J (aew q G) J<|e J<|F J (λC=>?_)<|λC=>dc ?_
  .have C:(Z g:Y)=(Z b:Y):=eq_of_beq C;have o:Z g=n+1:=G;have Im:g≠[]:=λcz=>by rw[cz]at o;cases o
   have hdv:=aqe (I g (Z g-1) 0) (I b (Z b-1) 0) (λcz=>H.bn<|yh cz) (v _) (qb _) G;rw[o,K,eE]at hdv;have Pj:=Pe g Im G;have VI:=Pe b Q G;rw[o,eE]at Pj;rw[K,eE]at VI;have hD:=S1 o;have ht:QS (2*s) (I g n 0/I b n 0):=by rw[uW];exact(v n).mul T
   generalize I g n 0/I b n 0=t at*;have Pk:=O9 t b G ht (λi=>(qb i).le G) G;have Ut:=aqo (k:=4*s) g (jd t b) G (b6 (F0 _) bX) (λi=>(v i).le G) (λi=>by rw[Am];exact(ht.mul<|(qb i).le G).le G) G G;have Pl:=O' (lH q) (iC t) (by have:=M q;omega) (by have:=U t;omega) (X G q1) (D G ht) G;refine R<|rc J J Pj<|rc J J VI<|rc J J hdv<|z J ?_;refine R<|rc J J Pk<|rc J J Ut<|z J ?_;refine cK<|rc J J (VE t)<|rc J J Pl<|z J ?_;refine bL<|rt J (hp:=aF)<|a4 (d+1,kD (lH q)<|iC t,sb g<|jd t b) ⟨h,hD⟩ (G:Z a-(d+1)<Z a-d)<|wk ⟨sR J,sR J,sR J,sR J,sE J ?_,A⟩ A;exact bh O (G:(Z a:Y)-1-d-1=(Z a:Y)-1-(d+1:V))
  .have C:Z g≠n+1:=λcz=>by have C:(Z g:Y)≠(Z b:Y):=nY C;omega
   refine bL<|rt J (hp:=aF)<|a4 (d+1,lH q,g) ⟨h,S2 C⟩ (G:Z a-(d+1)<Z a-d)<|wk ⟨sR J,sR J,sR J,sR J,sE J ?_,A⟩ A;exact bh O (G:(Z a:Y)-1-d-1=(Z a:Y)-1-(d+1:V))
 .have h:d=Z a:=by have h:¬(Z a:Y)-1-d>=0:=bc h;omega
  subst h;rw[aqt f K hm,aqu f K hm hac];exact bt<|aK<|e J<|c7 J
def aqx{s}(g:1<=s)(h:s<=50000000000){a b}(d:bU a)(f:b≠[])(i:CR s a b):ao c 116 [S .q a,S .q b] (S .q<|jr a b):=by refine aL Tryz.func116 ?_;exact e J<|bH J J (aeH g h d f i) J<|e J<|c7 J
def aqy{s}(g:1<=s)(h:s<=50000000000){a b}(d:bU a)(f:b≠[])(i:CR s a b):ao c 66 [S .q a,S .q b] (S .q<|fK a b):=by refine aL Tryz.func66 ?_;exact e J<|bH J J (aeH g h d f i) J<|e J<|c7 J
def aqz{s}(v:1<=s)(w:s<=50000000000) k a b(B:bU a)(H:bU b)(h:Aj s k a b)(L:Z (jL k a b)<=1000)(P:∀i,QS s (I (jL k a b) i 0)):ao c 131 [S .q a,S .q b] (S .q<|eO<|jL k a b):=by
 refine aL Tryz.func131 ?_;refine e J<|j<|az<|bq (α:=V×E N×E N) (λx=>⟨[(0,S .q x.2.1),(1,S .q x.2.2)],[],2,[]⟩) (λx=>Aj s x.1 x.2.1 x.2.2/\jL x.1 x.2.1 x.2.2=jL k a b/\bU x.2.1/\bU x.2.2) (λx=>x.1) (k,a,b) ⟨h,J,B,H⟩ aV ?_;rintro⟨m,f,g⟩ ⟨h2,d,p,n⟩;simp only at h2 d p n;refine j<|e J<|F J (λl=>?_)<|λl=>?_
 .have o:g≠[]:=λC=>by subst C;cases l
  clear l;cases m with
  |zero=>exact absurd h2 o
  |succ m=>
   rw[Aj]at h2
   rcases h2 with h2|⟨h2,K⟩
   .exact absurd h2 o
   rw[jL,y o]at d
   have t:=aqy v w p o h2
   have Q:=Ak (a:=f) o
   have W:=h2.lb
   have u:=VF (fK f g) G h2.qr h2.rn G
   refine dc<|aK<|az<|R<|rc J J t<|rc J J u<|z J<|e J<|rt J<|fB<|a4 (m,g,eO<|fK f g) ⟨K,d,n,ve _⟩ (dJ m) aV
 .have l:g=[]:=by have l:¬(Z g:Y)>0:=bc l;exact gK G
  subst l;have d:f=jL k a b:=by
   cases m with
   |zero=>exact d
   |succ m=>rwa[jL,q J]at d
  rw[d]at p⊢;exact nL<|rk<|ov<|nM<|aK<|R<|rc J J (VF _ L P (λT=>aqv p T) G)<|z J<|bV<|atR J
def Rx.Ht.mul{b d n}{a B}(h:Ht b a)(k:Ht d B)(L:sz a<=n)(m:1<=n):Ht (n*(b*d)) (a*B):=by
 let ⟨D,f,h2,o⟩:=h;let ⟨E,p,s,w⟩:=k;refine⟨D*E,z6 f p,b6 (qW h2 s)<|NT _ m,λi=>?_⟩;rw[fD];have g:∀t,∃z:Y,aA z<=min t n*(b*d)/\((D*E:Y):N)*sq (λj=>a j*B (i-j)) t=(z:N):=by
  intro t;induction t with
  |zero=>exact⟨0,bf _,by rw[sq];exact dY _⟩
  |succ t x=>
   let ⟨y,C,l⟩:=x
   by_cases c:t<n
   .let ⟨u,u1,u2⟩:=o t;let ⟨v,v1,v2⟩:=w<|i-t;refine⟨y+u*v,?_,?_⟩
    .have P:=qW u1 v1;rw[(G:min (t+1) n=min t n+1),gy,iG];omega
    .rw[sq,I5,l,Oe,fT,fT,<-u2,<-v2];grind
   .refine⟨y,by rw[(G:min (t+1) n=min t n)];exact C,?_⟩;have:a t=0:=mb G;rw[sq,this,mO,nl];exact l
 let ⟨z,H,K⟩:=g<|i+1;exact⟨z,b6 H<|et _<|Nat.min_le_right _ _,K⟩
def Rx.Ht.neg{a}{b}(h:Ht a b):Ht a (-b):=by let ⟨D,d,h2,f⟩:=h;refine⟨D,d,h2,λi=>?_⟩;let ⟨z,k,g⟩:=f i;exact⟨-z,G,by rw[IL,JP,<-g];grind⟩
def Rx.Ht.add{a b}{d B}(h:Ht a d)(k:Ht b B):Ht (2*(a*b)) (d+B):=by have:=Ht.sub h k.neg;rwa[sub_def,Rx.neg_neg]at this
structure Pz(n t:V)(a:E N):Prop where
 can:bU a
 len:a.length<=n
 ht:Ht (2^t) (lx a)
def Pz.le{n m t u}{a}(h:Pz n t a)(b:n<=m)(d:t<=u):Pz m u a:=⟨h.can,b6 h.len b,h.ht.le<|eZ D d⟩
def Pz.qs{n t s}{a}(h:Pz n t a)(b:t<32*s) i:QS s (I a i 0):=h.ht.qs (nt b) i
def Pz.nil n t:Pz n t []:=⟨wq,bf _,by rw[pj];exact Ht.zero<|km D⟩
def JS t u v:2^v*(2^t*2^u)=2^(t+u+v):=by rw[<-ku,<-ku];congr 1;omega
def Pz.add{n m t u}{a b}(h:Pz n t a)(k:Pz m u b):Pz (max n m) (t+u+1) (kD a b):=by
 refine⟨k6 _,?_,?_⟩
 .have:=h.len;have:=k.len;refine b6 (An _) ?_;rw[cT,rV];omega
 .rw[Vz,<-JS];exact h.ht.add k.ht
def aeJ a b:lx (sb a b)=lx a-lx b:=ext λi=>by rw[uO];exact JR a b i
def Pz.sub{n m t u}{a b}(h:Pz n t a)(k:Pz m u b):Pz (max n m) (t+u+1) (sb a b):=by
 refine⟨k6 _,?_,?_⟩
 .have:=h.len;have:=k.len;refine b6 (An _) ?_;rw[cT,rV];have e:=An<|(cw<|Z b).map λi=>((-1:Y):N)*I b i 0;rw[cT,rV]at e;show max (Z a) (Z<|jd _ b)<=_;have:Z (jd ((-1:Y):N) b)<=Z b:=e;omega
 .rw[aeJ,<-JS];exact h.ht.sub k.ht
def Pz.F4{n t u}{a}{b}(h:Pz n t a)(k:Ht (2^u) (K b)):Pz n (t+u) (jd b a):=by
 refine⟨k6 _,?_,?_⟩
 .have:=h.len;refine b6 (An _) ?_;rw[cT,rV];omega
 .rw[JO,ku];exact h.ht.smul k
def ml(a b:E N):E N:=F3 a b<|Z a
def F5 a b:lx (ml a b)=lx a*lx b:=by rw[ml,aez a _ _<|aT _,kg,qh]
def JT a b:bU (ml a b):=aqm a b<|Z a
def aeK b:ml [] b=[]:=rfl
def aeL a:ml a []=[]:=rY (JT _ _) wq (by rw[F5,pj,Rx.mul_zero])
def aqA{a b}(d:bU a)(f:bU b)(g:a≠[])(h:b≠[]):Z (ml a b)+1=Z a+Z b:=by have:=ef (CS d g)<|CS f h;rwa[<-F5,fS<|JT a b,fS d,fS f]at this
def VJ{a b}(f:bU a)(g:bU b):Z (ml a b)<=Z a+Z b-1:=by
 by_cases a0:a=[]
 .subst a0;rw[aeK];exact bf _
 .by_cases d:b=[]
  .subst d;rw[aeL];exact bf _
  .have:=aqA f g a0 d;omega
def Pz.mul{n m t u}{a b}(h:Pz n t a)(k:Pz m u b)(d:n<=16):Pz (n+m-1) (t+u+4) (ml a b):=by
 refine⟨JT a b,?_,?_⟩
 .have:=VJ h.can k.can;have:=h.len;have:=k.len;omega
 .rw[F5,<-JS];refine(h.ht.mul k.ht (n:=2^4) ?_ D);rw[fS h.can];have:=h.len;omega
def Pz.rem{n m t u d}{a b}(h:Pz n t a)(k:Pz m u b)(f:b≠[])(g:Z a+1-Z b<=d):Pz m (t+(u+1)*d) (fK a b):=
 ⟨yk h.can,b6 (BZ<|Ak f) k.len,(JQ k.can f h.ht k.ht).2.1.le<|eZ D<|VA (jk _ g) _⟩
def Pz.euS{n m t u d s}{a b}(h:Pz n t a)(k:Pz m u b)(f:b≠[])(l:Z a+1-Z b<=d)(o:n<=500)(p:m<=500)(x:t+u+(u+1)*d<32*s):CR s a b:=by
 have q:=JQ k.can f h.ht k.ht;have le:2^(t+(u+1)*(Z a+1-Z b))<=2^(t+(u+1)*d):=eZ D<|VA (jk _ l) _;have g:t+(u+1)*d<32*s:=G;refine⟨b6 h.len o,b6 k.len p,k.can.ne f,λi=>k.qs G i,λj v i=>?_,λw=>(yk h.can).ne w,λi=>(q.2.1.le le).qs (nt g) i⟩;by_cases hl:Z b<=Z a
 .exact((q.2.2 hl j v).le le).qs (nt g) i
 .have:j=0:=by omega
  subst this;exact h.qs G i
def aeM{a b m}(d:bU a)(f:bU b)(g:bU m)(i:m≠[])(k:Z a<Z m)(l:Z b<Z m)(h:lx m∣lx a-lx b):a=b:=by refine rY d f<|Cq<|s8 h ?_;rw[fS g];have:=FI (lx a)<|lx b;rw[fS d,fS f]at this;omega
def aeN{a m:E N}(b:bU m)(d:m≠[]):lx m∣lx (fK a m)-lx a:=by have h:=Vw (a:=a) b d;refine n5 ?_;rw[h,Rx.xZ];exact dvd_mul_left _ _
def aqC{a b m}(g:bU a)(i:bU b)(f:bU m)(d:m≠[])(k:Z b<Z m)(h:lx m∣lx a-lx b):fK a m=b:=
 aeM (yk g) i f d (Ak d) k (np (aeN f d) h)
abbrev U8:ET:= .int .u8
abbrev RW:ET:= .pr I8<|.pr I8 U8
def k7(k:Y):Y:=4611686018427387904+k
def Ap(x:Y×Y×Y):Y:=if x.2.2%8=7 then x.1*k7 x.2.2*k7 x.2.2+x.2.2 else x.1
def oF(d:Y):Y:=if d=0 then 1 else d
def wI(x:Y×Y×Y):Y:=if x.2.2%8=6 then oF x.2.1*k7 x.2.2*k7 x.2.2 else oF x.2.1
def oG(x:Y×Y×Y):N:=jC (Ap x)<|wI x
def mR(x:Y×Y×Y):Prop:=(-128<=x.1/\x.1<=127)/\(-128<=x.2.1/\x.2.1<=127)/\0<=x.2.2/\x.2.2<=255
def aeO d:oF d≠0:=by unfold oF;split<;>omega
def aeP{x}(h:mR x):0<k7 x.2.2/\k7 x.2.2<4611686018427388160:=by unfold k7;have:=h.2.2;omega
def VK{x}(h:mR x):wI x≠0:=by
 unfold wI;split
 .have:=(aeP h).1;exact z6 (z6 (aeO _) G) G
 .exact aeO _
def JU{x}(h:mR x):aG 2 (k7 x.2.2):=by have:=aeP h;unfold aG;omega
def VL{x}(h:mR x):aG 1 (oF x.2.1):=aG.one (by unfold oF;have:=h.2.1;split<;>omega)
def aeQ{x}(h:mR x):aG 6 (Ap x):=by
 unfold Ap;have b:aG 1 x.1:=aG.one Ci;split
 .have d:=(b.mul<|JU h).mul<|JU h;have f:aG (1+2+2) x.2.2:=(aG.one (a:=x.2.2)<|by have:=h.2.2;omega).le D;exact d.add f
 .exact b.le D
def aeR{x}(h:mR x):aG 6 (wI x):=by
 unfold wI;split
 .exact((VL h).mul<|JU h).mul (JU h)|>.le D
 .exact(VL h).le D
def aeS x(h:mR x):ao c 38 [.a [.I .i8 x.1,.I .i8 x.2.1,.I .u8 x.2.2]] (aQ<|oG x):=by
 refine aL Tryz.func38 ?_;have u:(if x.2.2%8=7 then x.1*k7 x.2.2*k7 x.2.2+x.2.2 else x.1)=Ap x:=rfl;have v:(if x.2.2%8=6 then oF x.2.1*k7 x.2.2*k7 x.2.2 else oF x.2.1)=wI x:=rfl;have i:=JU h;have m:=VL h;have l:=O5 (Ap x) (wI x) (VK h) ((aeQ h).sm D)<|(aeR h).sm D;rw[show jC (Ap x) (wI x)=oG x from J]at l;generalize Ap x=n at*;generalize wI x=d at*;generalize oG x=j at*;obtain⟨N,g,k⟩:=x;let ⟨⟨r,A⟩,⟨d1,d2⟩,w,E⟩:=h;simp only at*;have o:=jn N G G;have p:=jn g G G;have s:ao c 84 [O (4611686018427387904+k)] (aZ<|k7 k):=jn _ G G;have t:=jn k G G;have C:aG 1 N:=aG.one G;have K:aG 5 k:=(aG.one (a:=k) G).le D;have L:=kV N (k7 k) (C.sm D)<|i.sm D;have Q:=kV (N*k7 k) (k7 k) ((C.mul i).sm D)<|i.sm D;have T:=xK (N*k7 k*k7 k) k (((C.mul i).mul i).sm D)<|K.sm D;have W:=kV (oF g) (k7 k) (m.sm D)<|i.sm D;have X:=kV (oF g*k7 k) (k7 k) ((m.mul i).sm D)<|i.sm D;refine e J<|R<|rc J J o (rc J J p (z J ?_) (hp:=aF)) (hp:=aF);refine nX ⟨[(1,.c<|.P 0 0),(2,.c<|.P 1000 0),(3,.c<|.P 1008000 0),(4,.c<|.P 1009000 0)],[(0,.box 57 0 [.I .i8 N,.I .i8 g,.I .u8 k]),(1000,.box 44 0 [.B ah,.V<|.slice none 0 0,.B ah,.V<|.slice none 0 0]),(1008000,.box 42 0<|av .z N),(1009000,.box 42 0<|av .z<|oF g)],10,[]⟩ ?_<|λf=>e J<|F J (λb=>?_)<|λb=>dc ?_;rotate_left
 .have b:g=0:=eq_of_beq b;have H:oF g=1:=by rw[b];rfl
  rw[H]at f;exact cK<|rc J J (jn 1 D D)<|z J<|fJ f aV
 .have b:g≠0:=by have b:(g==0)=ah:=b;exact ne_of_beq_false b
  have H:oF g=g:=y b;rw[H]at f;exact fJ f aV
 refine R<|rc J J s (z J ?_) (hp:=aF);refine nX ⟨[(1,.c<|.P 0 0),(2,.c<|.P 1000 0),(3,.c<|.P 1008000 0),(4,.c<|.P 1009000 0),(5,.c<|.P 10005000 0)],[(0,.box 57 0 [.I .i8 N,.I .i8 g,.I .u8 k]),(1000,.box 44 0 [.B ah,.V<|.slice none 0 0,.B ah,.V<|.slice none 0 0]),(1008000,.box 42 0<|av .z n),(1009000,.box 42 0<|av .z<|oF g),(10005000,.box 42 0<|av .z<|k7 k)],20,[]⟩ ?_<|λf=>e J<|F J (λb=>?_)<|λb=>dc ?_;rotate_left
 .have b:k%8=7:=by have b:(k.tmod 8==7)=true:=b;rw[lX w]at b;exact eq_of_beq b
  rw[q b]at u;subst u;exact cK<|rc J J L<|rc J J Q<|rc J J t (rc J J T<|z J<|fJ f aV) (hp:=aF)
 .have b:¬k%8=7:=by have b:(k.tmod 8==7)=ah:=b;rw[lX w]at b;exact ne_of_beq_false b
  rw[y b]at u;subst u;exact fJ f aV
 refine nX ⟨[(2,.c<|.P 1000 0),(3,.c<|.P 1008000 0),(4,.c<|.P 1009000 0)],[(1000,.box 44 0 [.B ah,.V<|.slice none 0 0,.B ah,.V<|.slice none 0 0]),(1008000,.box 42 0<|av .z n),(1009000,.box 42 0<|av .z d)],30,[]⟩ ?_<|λf=>e J<|F J (λb=>?_)<|λb=>dc ?_;rotate_left
 .have b:k%8=6:=by have b:(k.tmod 8==6)=true:=b;rw[lX w]at b;exact eq_of_beq b
  rw[q b]at v;subst v;exact cK<|rc J J W<|rc J J X<|z J<|fJ f aV
 .have b:¬k%8=6:=by have b:(k.tmod 8==6)=ah:=b;rw[lX w]at b;exact ne_of_beq_false b
  rw[y b]at v;subst v;exact fJ f aV
 exact R<|rc J J l<|z J<|c7 J
def iQ(x:Y):N:=(x:N)
def wJ(l:E Y)(a:V):E N:=fI<|(M (a+1) l).map iQ
def Aq(x:E (Y×Y×Y))(a:V):E N:=fI<|(M (a+1) x).map oG
def ym(x:Y×Y×Y):Y×Y×Y:=(x.1,x.2.1,0)
def wK(x:E (Y×Y×Y))(a:V):E N:=Aq (x.map ym) a
def Pm{a b:Type}(f:a->b) d l i(h:i<Z l):((M (i+1) l).map f)=((M i l).map f)++[f (I l i d)]:=by rw[sW,fF];simp[cO h,aN]
def aeT(l:E Y)(a:V)(f:a<=1000)(k:∀x∈l,-128<=x/\x<=127):ao c 61 [S I8 l,O a] (S .q<|wJ l a):=by
 refine aL Tryz.func61<|vL 0 J λg=>?_;have g:Z l*1<=140737488355328:=g;refine e J<|R<|gP .q [] J J (z J<|j<|e J ?_);refine az<|bq (α:=V) (λi=>⟨[(0,S I8 l),(1,O a),(5,.c<|.X 1000000),(6,O i)],[(1000000,.vec 44 .q<|(M i l).map iQ)],3,[]⟩) (λi=>i<=Z l/\i<=a+1) (λi=>Z l-i) 0 ⟨bf _,bf _⟩ aV ?_;rintro i ⟨o,m⟩;refine j<|R<|rg 12 J J (λh=>?_)<|λh=>?_
 .have h:i<Z l:=by have h:(i:Y)<(Z l:Y):=aW h;omega
  refine z J<|F J (λh2=>?_)<|λh2=>?_
  .have h2:i<=a:=by have h2:(i:Y)<=a:=aW h2;omega
   have b:=Pm iQ 0 l i h;have p:=k (I l i 0) VM;have n:ao c 30 [O (I l (af (i:Y)) 0)] (aQ<|iQ<|I l i 0):=by rw[cr];exact zC _ G G
   have s: -9223372036854775808<=I l (af (i:Y)) I8.dG/\I l (af (i:Y)) I8.dG<=9223372036854775807:=by rw[cr];show-9223372036854775808<=I l i 0/\I l i 0<=9223372036854775807;omega
   refine aE<|j<|az<|cK<|rc J J n (rl .q [iQ (I l i 0)] J J (ra J J J J J J J J J ?_ ?_<|z J<|bL<|rt J<|a4 (i+1) ⟨G,G⟩ yn<|Wk.trans (wk (st':=⟨[(0,S I8 l),(1,O a),(5,.c<|.X 4008000),(6,O ((i+1:V):Y))],[(4008000,.vec 44 .q<|(M (i+1) l).map iQ)],6,[]⟩) ⟨sR J,sR J,sR J,sE J ?_,A⟩ ⟨bE J ?_,A⟩)<|Wk.trans (gW 1000000 4008000 J J J) aV)) (hp:=?_)
   .show(_+1+(_+1)/4+192)*64<=_;simp only[cT,gL];omega
   .show(_+1)*4<=_;simp only[cT,gL];omega
   .rfl
   .rw[b]
   .simp only[Pr.an,Pr.h,num,fX,true_and,and_true];first|done|omega
  .have h2:¬i<=a:=by have h2:¬(i:Y)<=a:=bc h2;omega
   have d:=CT ((M i l).map iQ) F6;rw[show fI ((M i l).map iQ)=wJ l a by rw[wJ,(G:i=a+1)]]at d;exact bt<|aK<|da 1000000 J J J<|bH J J d J<|c7 J
 .have h:i=Z l:=by have h:¬(i:Y)<(Z l:Y):=bc h;omega
  have d:=CT ((M i l).map iQ) F6;rw[show fI ((M i l).map iQ)=wJ l a by rw[wJ,iY G,iY G]]at d;refine z J<|F J (λh2=>qJ)<|λ_=>?_;exact bt<|aK<|da 1000000 J J J<|bH J J d J<|c7 J
end Go.El
namespace Go.El
open Go Go.Proofs Fx
noncomputable def Pn{p:V}(H:br p)(a:Fx p):E Y:=yb<|jq H.pos a
def VN{p}(H:br p) a:bx p (Pn H a):=(wu<|jq H.pos a).1
def aqD{p}(H:br p) a:fx (Pn H a)=a:=(wu<|jq H.pos a).2
noncomputable def iq{p:V}(H:br p)(f:E Y)(a:Fx p):E Y:=(aO (Pn H a) f p).2
section
variable{p:V}(H:br p){f:E Y}(hf:bx p f)(jE:f≠[])
include hf jE
def yo(a:Fx p):bx p (iq H f a)/\Z (iq H f a)<Z f/\fx f∣fx (iq H f a)-a:=by let ⟨d1,d2,d3,d4,d5,d6⟩:=l6 H.hp H.le (VN H a).1 hf jE;have b:=cR.2 jE;refine⟨d5<|VN H a,by show(aO (Pn H a) f p).2.length<_;omega,?_⟩;have:=Ov H (VN H a) hf jE;rwa[aqD]at this
def aqE{b:Fx p}{a:E Y}(d:bx p a)(l:Z a<Z f)(g:fx f∣fx a-b):a=iq H f b:=by let ⟨m1,m,h⟩:=yo H hf jE b;have i:fx f∣fx a-fx (iq H f b):=np g<|n5 h;have k:=s8 H i (by have:=FI H.pos (fx a:Fx p)<|fx<|iq H f b;rw[cX d,cX m1]at this;rw[cX hf];omega);exact uX d m1<|Cq k
end
def wL(p:V)(f a b:E Y):E Y:=(aO (cL a b p) f p).2
def VO{p}(H:br p){f a b}(g:bx p f)(d:f≠[]):bx p (wL p f a b)/\Z (wL p f a b)<Z f/\(fx f:Fx p)∣fx (wL p f a b)-fx a*fx b:=by let ⟨d1,d2,d3,d4,d5,d6⟩:=l6 H.hp H.le (nk H.pos a b).1 g d;have h:=cR.2 d;refine⟨d5<|nk H.pos a b,by show(aO (cL a b p) f p).2.length<_;omega,?_⟩;have:=Ov H (nk H.pos a b) g d;rwa[wG]at this
def iu(p:V):E (E Y)->Fx p
 |[]=>1
 |g::l=>fx g*iu p l
def JV(p:V):∀l m:E (E Y),iu p (l++m)=iu p l*iu p m
 |[],m=>(one_mul _).symm
 |g::l,m=>by rw[ln,iu,iu,JV p l m,mul_assoc]
def Po(p:V):∀{l:E (E Y)}{g:E Y},g∈l->(fx g:Fx p)∣iu p l
 |h::l,g,hg=>by
  rcases bZ.1 hg with rfl|hg
  .exact dvd_mul_right _ _
  .exact dQ (Po p hg) _
end Go.El
namespace Go.El
open Go Go.Proofs
def aqF(f:V->Y){i a}(h:i<a):I ((cw a).map f) i 0=f i:=by rw[aN,iN,jV h];rfl
open Fx
open Classical in
def VP{p:V}(H:br p):∀{l:E (E Y)},(∀g∈l,Mon p g/\2<=Z g)->iu p l≠0/\Z l+1<=sz (iu p l)
 |[],_=>⟨qN H,by rw[iu,rZ H];exact aT _⟩
 |g::l,h=>by
  let ⟨a,h2⟩:=VP H (l:=l) λg b=>h g (by simp[b])
  let ⟨m1,f⟩:=h g ax;have d:=ef H (m1.kA H) a;rw[cX m1.c]at d;refine⟨nZ H (m1.kA H) a,?_⟩;rw[iu,iI];omega
structure vf(p:V)(f:E Y)(l:E (E Y)):Prop where
 parts:∀g∈l,Mon p g/\2<=g.length/\bu (fx g:Fx p)
 prod:iu p l=fx f
structure px(p:V)(a:E Y):Prop where
 H:br p
 am:aH a
 l2:2<=a.length
 l9:a.length<=9
 co:Co (fx a:Fx p) (bA<|fx a)
def Pp:∀(l m:E (E Y)),dz (l++m)=dz l+dz m
 |[],m=>by rw[tI,dz,eP]
 |f::l,m=>by rw[ln,dz,dz,Pp l m];omega
def aeU{p:V}:∀l:E (E Y),iu p l=fU l
 |[]=>rfl
 |f::l=>by rw[iu,fU,aeU l]
def aeV{p:V}(H:br p):∀{l:E (E Y)},(∀g∈l,bu (fx g:Fx p))->qR (fU l:Fx p)->l.Pairwise (λx a=>Co (fx x:Fx p)<|fx a)
 |[],_,_=>F7
 |x::l,h,i=>by
  have d:∀{l:E (E Y)}{a:E Y},a∈l->(fx a:Fx p)∣fU l:=by
   intro l;induction l with
   |nil=>intro f b;cases b
   |cons a l k=>
    intro f b
    rcases bZ.1 b with rfl|b
    .exact⟨fU l,by rw[fU,mul_comm]⟩
    .let ⟨w,hw⟩:=k b;exact⟨fx a*w,by rw[fU,hw,mul_assoc]⟩
  refine jP.2 ⟨λa m=>?_,aeV H (λg n=>h g<|by simp[n]) (i.of_dvd ⟨fx x,J⟩)⟩;have o:=h x ax;refine FK H (λe=>by have:=o.1;rw[e,kv H.pos]at this;omega) λQ s t B=>i Q s ?_
  let ⟨u,hu⟩:=t;let ⟨v,hv⟩:=dvd_trans B<|d m;refine⟨u*v,?_⟩;show fx x*fU l=_;rw[hu,hv];ac_rfl
section
variable{p:V}{a:E Y}
def px.p1(h:px p a):1<(p:Y):=by have:=h.H.hp.1;omega
def px.trim(h:px p a):aM (md p a)=md p a:=(h.am.md h.p1).trim
def px.f(h:px p a):Mon p (md p a)/\(md p a).length=Z a/\(fx (md p a):Fx p)=fx a:=by refine⟨⟨?_,(h.am.md h.p1).1,(h.am.md h.p1).2⟩,xV _ _,adl a⟩;rw[<-h.trim];exact kZ h.H.pos<|Ck h.H.pos a
def px.ne(h:px p a):(fx a:Fx p)≠0:=λe=>by have:=u5 h.H h.am;rw[e,kv h.H.pos]at this;have:=h.l2;omega
def px.lG(h:px p a):qR (fx a:Fx p):=by let ⟨U,V,e⟩:=h.co;exact adt h.H h.ne (D:=1) (U:=U) (V:=V) (mul_one _).symm e.symm
def VQ:∀{l:E (E Y)},(∀f∈l,2<=Z f)->Z l<=dz l/\∀f∈l,Z f<=1+dz l
 |[],_=>⟨aT _,λf b=>by cases b⟩
 |x::l,h=>by
  let ⟨i1,i2⟩:=VQ (l:=l) λf b=>h f (by simp[b])
  have:=h x ax;refine⟨by rw[iI,dz];omega,λf b=>?_⟩;rw[dz];rcases bZ.1 b with rfl|b
  .omega
  .have:=i2 f b;omega
end
def aeW(a:E Y):∀n,((lZ a n:V):Y)=sm (λi=>(aA (I a i 0):Y)) n
 |0=>rfl
 |n+1=>by rw[lZ,sm,<-aeW a n,xM]
def aeX{a}(h:aH a){g}(d:aH g)(p:Rx.zx g∣Rx.zx a) i:(I g i 0).natAbs<=gR a:=by
 let ⟨k,f⟩:=p;have b:Rx.Mo k:=by have:=Rx.n9 h;rw[f]at this;exact this.zZ<|Rx.n9 d
 let ⟨i1,_⟩:=Rx.OO b (Rx.n9 d)<|f▸Rx.CI a;let ⟨q,q1,s⟩:=Rx.OE i1;subst s;have o:aH q:=Rx.OF q1 b;have m:=Rx.OG f.symm;have w:=cR.2 o.1;have x:=cR.2 d.1;have C:=cR.2 h.1;have t:=Rx.ef b.ne (Rx.n9 d).ne;rw[<-f,Rx.k5 h.can,Rx.k5 q1,Rx.k5 d.can]at t;have n:=Rx.ac5 (A:=ps g) (B:=ps q) (k:=Z g-1) (l:=Z q-1) (λj u=>fh g G) (λj u=>fh q G) (by rw[cG,o.2];decide) i;rw[PS.mul_comm,m,(G:Z g-1+(Z q-1)=Z a-1)]at n;have v:Rx.nO (Z a-1) (ps a)=((lZ a (Z a):V):Y):=by rw[aeW,Rx.nO,(G:Z a-1+1=Z a)];rfl
 rw[v]at n;have e:((gR a:V):Y)=2^(Z a-1)*((lZ a (Z a):V):Y):=by rw[gR,fC,uL,eW];rfl
 rw[<-e,cG]at n;omega
def jM(p:V)(f:E Y):E Y:=(cw<|Z f-1).map λi=>((((i+1)%p:V):Y)*I f (i+1) 0)%(p:Y)
def JW p f:Z (jM p f)=Z f-1:=by simp[jM]
def VR p f{i}(h:i<Z f-1):I (jM p f) i 0=((((i+1)%p:V):Y)*I f (i+1) 0)%(p:Y):=by unfold jM;rw[aN,iN,jV h];rfl
def VS(p:V) f:(fx (jM p f):Fx p)=bA (fx f):=mk_eq.2 (Cg.of λi=>by
 show I (jM p f) i 0%(p:Y)=((i:Y)+1)*I f (i+1) 0%(p:Y);by_cases h:i<Z f-1
 .rw[VR p f h,mM,IE,qG,mM,<-qG];rfl
 .rw[fh _ (by rw[JW];omega),fh f G,gY])
def JX{p:V}(a:0<p) f:rp p (jM p f):=λi=>by
 by_cases h:i<Z f-1
 .rw[VR p f h];exact⟨iP _ G,iR _ G⟩
 .rw[fh _ (by rw[JW];omega)];exact⟨hY _,G⟩
def F8(p:V)(a:E Y):Bool:=decide<|List.length (gk p (aM<|md p a)<|aM<|jM p<|aM<|md p a)=1
def aeY{p}(H:br p) a:F8 p a=true↔Co (fx a:Fx p) (bA<|fx a):=by
 have d:bx p (aM<|md p a):=kZ H.pos<|Ck H.pos a;have f:bx p (aM<|jM p<|aM<|md p a):=kZ H.pos<|JX CC _;have b:(fx (aM<|md p a):Fx p)=fx a:=by rw[FP,adl]
 have g:(fx (aM<|jM p<|aM<|md p a):Fx p)=bA (fx a):=by rw[FP,VS,b]
 unfold F8;rw[decide_eq_true_iff,aoh H.hp H.le d f,<-ao2,b,g]
def VT p b(l:2<=p):∃k,1<=k/\b<p^k/\∀d,1<=d->d<k->p^d<=b:=by
 have g:∀n,n<p^n:=λn=>fO Nat.lt_two_pow_self<|z7 l n
 have i:∀n,(∀d,1<=d->d<n+1->p^d<=b)\/∃k,1<=k/\b<p^k/\∀d,1<=d->d<k->p^d<=b:=by
  intro n;induction n with
  |zero=>exact .inl λd a b=>by omega
  |succ n f=>
   rcases f with f|f
   .by_cases h:p^(n+1)<=b
    .refine .inl λd g m=>?_
     by_cases e:d=n+1
     .rw[e];exact h
     .exact f d g G
    .exact .inr ⟨n+1,G,G,f⟩
   .exact .inr f
 rcases i (b+1)with h|h
 .have:=h (b+1) G G;have:=g<|b+1;omega
 .exact h
open Classical in
noncomputable def nv(p b:V):V:=if hp:2<=p then yb (VT p b hp)else 1
def aeZ{p}(a:2<=p) b:1<=nv p b/\b<p^nv p b/\∀d,1<=d->d<nv p b->p^d<=b:=by have e:nv p b=yb (VT p b a):=dif_pos a;rw[e];exact wu<|VT p b a
structure JY(a:E Y):Prop where
 am:aH a
 l2:2<=a.length
 l9:a.length<=9
 aB:∀i,aG 6 (a.getD i 0)
 ex:∃p∈r7,Co (fx a:Fx p) (bA<|fx a)
def aqG{p}(h:p∈r7):br p:=⟨aoP h,by have:=(ac6 h).2;omega⟩
open Classical in
def aqH{a}(h:Rx.sz a=2):Rx.bu a:=by
 refine⟨G,λX Y e=>?_⟩;have d:a≠0:=λe=>by rw[e,Rx.kv]at h;omega
 have f:X≠0:=λb=>d (by rw[e,b,Rx.zero_mul])
 have g:Y≠0:=λb=>d (by rw[e,b,Rx.mul_zero])
 have i:=Rx.ef f g;rw[<-e,h]at i;have:=Rx.fo f;have:=Rx.fo g;omega
def JY.bB{a}(h:JY a):aG 8 ((2*gR a:V):Y):=by have d:=acE a h.aB (i:=Z a) (by have:=h.l9;omega);have b:2^(Z a-1)<=2^8:=eZ D (by have:=h.l9;omega);unfold aG at*;rw[o9]at*;have f:gR a<=lZ a (Z a)*2^8:=jk _ b;omega
def JY.mBp{a}(h:JY a){p:V}(q1:2<=p)(l:p<4294967296):aG 9 ((p:Y)^nv p (2*gR a))/\nv p (2*gR a)<=257:=by
 have d:=h.bB;let ⟨m,n,f⟩:=aeZ (p:=p) q1<|2*gR a;generalize nv p (2*gR a)=k at*;generalize 2*gR a=b at*;unfold aG at d;rw[o9]at d;by_cases e:k=1
 .subst e;refine⟨?_,G⟩;unfold aG;rw[fH,o8,kX,o9];have:(4294967296:V)^1<=4294967296^9:=eZ D D;omega
 .obtain⟨j,rfl⟩:∃j,k=j+1:=⟨k-1,G⟩;have o:=f j G G;have s:p^j<4294967296^8:=G;constructor
  .unfold aG;rw[<-uL,o9,fQ];have t:p^j*p<=p^j*4294967296:=jk _ G;omega
  .have g:2^j<=p^j:=z7 G j;have i:(2:V)^j<2^256:=by refine wg g ?_;have:(4294967296:V)^8=2^256:=D;omega
   have:=(Nat.pow_lt_pow_iff_right (a:=2) D).1 i;omega
abbrev MT:ET:= .pr (.sl ar) nb
def iS(p:V):E (E Y×Y)->Fx p
 |[]=>1
 |x::l=>pk (fx x.1) (af x.2)*iS p l
def ae0(p:V)(x:E Y×Y):∀l,iS p (l++[x])=iS p l*pk (fx x.1) (af x.2)
 |[]=>by show pk (fx x.1) (af x.2)*1=1*pk (fx x.1) (af x.2);rw[mul_one,one_mul]
 |a::l=>by rw[ln,iS,iS,ae0 p x l,mul_assoc]
def pull(p:V)(g:E Y):V->E Y->V->E Y×V
 |0,f,n=>(f,n)
 |k+1,f,n=>if(aO f g p).2=[]then pull p g k (aO f g p).1 (n+1)else(f,n)
def ae1{p:V}(H:br p){g:E Y}(a:Mon p g)(i:2<=Z g):∀(k:V)(f:E Y)(n:V),Z f<k->Mon p f->Mon p (pull p g k f n).1/\(fx f:Fx p)*pk (fx g) n=fx (pull p g k f n).1*pk (fx g) (pull p g k f n).2/\¬(fx g:Fx p)∣fx (pull p g k f n).1/\n<=(pull p g k f n).2/\((fx g:Fx p)∣fx f->n+1<=(pull p g k f n).2/\(pull p g k f n).1.length<Z f)/\(pull p g k f n).1.length<=Z f
 |0,_,_,h,_=>by omega
 |k+1,f,n,h,b=>by
  rw[pull];split
  .rename_i l;have d:=(Ou H b.c a.c a.ne).1 l;have o:=CG H b.c a.c a.ne d;have m:Z g<=Z f:=by have:=jK H d<|b.kA H;rwa[cX a.c,cX b.c]at this
   have s:=UU H b a m;let ⟨_,_,_,_,_,t⟩:=l6 H.hp H.le b.c.1 a.c a.ne;have u:(aO f g p).1.length<Z f:=G;let ⟨i1,i2,i3,i4,i5,i6⟩:=ae1 H a i k (aO f g p).1 (n+1) G s;refine⟨i1,?_,i3,G,λ_=>⟨G,G⟩,G⟩;rw[<-i2,o,pk];ac_rfl
  .rename_i l;have d:¬(fx g:Fx p)∣fx f:=λh=>l ((Ou H b.c a.c a.ne).2 h)
   exact⟨b,J,d,aT _,λh=>absurd h d,aT _⟩
structure vg(p:V)(a:Fx p)(f:E Y)(m:V)(l:E (E Y×Y)):Prop where
 aH:Mon p f
 prod:a=pk (fx f) m*iS p l
 gH:∀x∈l,Mon p x.1/\2<=x.1.length/\bu (fx x.1:Fx p)/\1<=x.2
 nd:∀x∈l,¬(fx x.1:Fx p)∣fx f
 ds:l.Pairwise λx b=>x.1≠b.1
 m1:1<=m
def VU{p:V}(H:br p){Q:Fx p}(h:2<=sz Q):∀m,m+1<=sz (pk Q m)
 |0=>by rw[pk,rZ H];exact aT _
 |m+1=>by
  have a:Q≠0:=λe=>by rw[e,kv H.pos]at h;omega
  have b:=ef H (CF H a m) a;have d:=VU H h m;rw[pk];omega
def ae2{p:V}(H:br p):∀{l:E (E Y×Y)},(∀x∈l,Mon p x.1/\2<=Z x.1/\1<=x.2)->iS p l≠0/\Z l+1<=sz (iS p l)/\∀x∈l,x.2+1<=sz (iS p l)
 |[],_=>⟨qN H,by rw[iS,rZ H];exact aT _,λx hx=>by cases hx⟩
 |a::l,h=>by
  let ⟨b,h2,f⟩:=ae2 H (l:=l) λx hx=>h x lj
  let ⟨m1,g,i⟩:=h a ax;have d:(fx a.1:Fx p)≠0:=m1.kA H;have k:=VU H (show 2<=sz (fx a.1:Fx p)by rw[cX m1.c];exact g)<|af a.2;have m:=ef H (CF H d<|af a.2) b;have n:=fo H.pos b;refine⟨nZ H (CF H d _) b,?_,λx hx=>?_⟩
  .rw[iS,iI];omega
  .rw[iS];rcases bZ.1 hx with rfl|hx
   .omega
   .have:=f x hx;omega
def vg.bounds{p}(H:br p){b}{f}{m}{l}(h:vg p b f m l):Z l+1<=sz b/\(∀x∈l,x.2+1<=sz b)/\(2<=Z f->m+1<=sz b):=by
 let ⟨d,h2,g⟩:=ae2 H (l:=l) λx a=>⟨(h.gH x a).1,(h.gH x a).2.1,(h.gH x a).2.2.2⟩
 have i:=ef H (CF H (h.aH.kA H) m) d;have n:=fo H.pos<|CF H (h.aH.kA H) m;rw[<-h.prod]at i;refine⟨G,λx a=>by have:=g x a;omega,λk=>?_⟩;have o:=VU H (show 2<=sz (fx f:Fx p)by rw[cX h.aH.c];exact k) m;omega
def vg.start{p:V}{f:E Y}(b:Mon p f):vg p (fx f) f 1 [] where
 aH:=b
 prod:=by rw[rW,iS,mul_one]
 gH:=λx a=>by cases a
 nd:=λx a=>by cases a
 ds:=F7
 m1:=aT _
def jF(p n:V):V:=(n+p-1)/p
def ae3{p}(H:br p){f}(g:Mon p f)(L:2<=Z f)(o:bA (fx f:Fx p)=0):Mon p (mP p f<|jF p<|Z f)/\(fx f:Fx p)=pk (fx<|mP p f<|jF p<|Z f) p/\2<=Z (mP p f<|jF p<|Z f)/\Z (mP p f<|jF p<|Z f)<Z f:=by
 have h:=H.hp.1;have a:Z (mP p f<|jF p<|Z f)=jF p (Z f):=by simp[mP]
 have k:Z f<=jF p (Z f)*p:=by unfold jF;have:=ru (Z f+p-1) p;have:=fN (Z f+p-1) (G:0<p);rw[hJ];omega
 have l:=Fx.cV H o k;have s:(Z f-1)%p=0:=fc λP=>by
  have v:=mk_eq.1 (o:mk (qT<|ps f) (yc<|bp.ps p f)=mk 0 (bp.zero p));have u:=v.at<|Z f-2;rw[PS.l3,gZ]at u;have w:((Z f-2:V):Y)+1=((Z f-1:V):Y):=G;have x:qT (ps f) (Z f-2)=((Z f-1:V):Y)*1:=by show(((Z f-2:V):Y)+1)*I f (Z f-2+1) 0=_;rw[w,(G:Z f-2+1=Z f-1),g.one]
  rw[x,ni]at u;omega
 obtain⟨t,B⟩:∃t,Z f-1=t*p:=⟨(Z f-1)/p,by have:=ru (Z f-1) p;rw[hJ];omega⟩;have m:jF p (Z f)=t+1:=by unfold jF;rw[(G:Z f+p-1=t*p+p),(GS:t*p+p=(t+1)*p)];exact T1 _ G
 have C:1<=t:=by
  rcases qD t with e|e
  .subst e;omega
  .exact e
 have K:t*2<=t*p:=jk t h;have b:∀i,I (mP p f<|jF p<|Z f) i 0=if i<jF p (Z f)then I f (i*p) 0 else 0:=λi=>by
  by_cases n:i<jF p (Z f)
  .rw[q n];exact aqF _ n
  .rw[y n,fh _ G]
 have d:I (mP p f<|jF p<|Z f) (Z (mP p f<|jF p<|Z f)-1) 0=1:=by rw[a,b,q G,m,eE,<-B,g.one]
 refine⟨⟨⟨λi=>?_,.inr (by rw[d];decide)⟩,λe=>by rw[e]at a;simp at a;omega,d⟩,l,G,G⟩;rw[b];split
 .exact g.c.1 _
 .exact⟨hY _,H.pos⟩
structure CV(p:V)(f:E Y)(a:E (E Y)):Prop where
 ok:∀g∈a,Mon p g/\2<=g.length/\bu (fx g:Fx p)/\(fx g:Fx p)∣fx f
 ds:a.Pairwise λx b=>x≠b
def aqJ{p}(H:br p){a b}(d:Mon p a)(f:Mon p b)(l:bu (fx b:Fx p))(m:2<=Z a)(h:(fx a:Fx p)∣fx b):a=b:=by
 let ⟨w,hw⟩:=h;have g:sz (fx a:Fx p)≠1:=by rw[cX d.c];omega
 rcases l.2 _ _ hw with e|e
 .obtain⟨c,i,rfl⟩:=FJ H e;have n:=ef H (s7 H i)<|d.kA H;rw[<-hw,cX f.c,cX d.c,wz H i]at n;have o:Z b=Z a:=G;have k:(ps b) (Z a-1)%(p:Y)=(PS.K c*ps a) (Z a-1)%(p:Y):=(mk_eq.1<|show(mk (ps b) (bp.ps p b):Fx p)=mk (PS.K c*ps a) ((bp.K p c).mul<|bp.ps p a)from hw).at _;rw[PS.fp,cG,cG,d.one,<-o,f.one,ni]at k;have s:(K c:Fx p)=1:=by rw[<-qM];exact CA k.symm
  rw[s,one_mul]at hw;exact(uX f.c d.c hw).symm
 .exact absurd e g
def Pq{p:V}(H:br p){Q a:Fx p}(b:bu Q):∀n,Q∣pk a n->Q∣a
 |0,h=>absurd h<|b.Cu H
 |n+1,h=>by
  rcases b.oE H (show Q∣pk a n*a from h)with d|d
  .exact Pq H b n d
  .exact d
def vg.pull{p}(H:br p){s}{f}{m}{l}(h:vg p s f m l){g}{t}(b:CV p f (g::t)):
  vg p s (pull p g (Z f+1) f 0).1 m (l++[(g,(((pull p g (Z f+1) f 0).2:V):Y)*(m:Y))])/\CV p (pull p g (Z f+1) f 0).1 t/\(pull p g (Z f+1) f 0).1.length<Z f:=by
 let ⟨d,g2,u,v⟩:=b.ok g ax
 let ⟨q1,q2,w,T,B,W⟩:=ae1 H d g2 (Z f+1) f 0 (dJ _) h.aH
 let ⟨X,C⟩:=B v
 generalize Go.El.pull p g (Z f+1) f 0=x at*
 let ⟨c,n⟩:=x
 simp only at q1 q2 w T B W X C⊢
 rw[pk,mul_one]at q2
 let ⟨d1,d2⟩:=jP.1 b.ds
 have i:(fx c:Fx p)∣fx f:=Ps
 refine⟨⟨q1,?_,?_,?_,?_,h.m1⟩,⟨λk K=>?_,d2⟩,C⟩
 .rw[h.prod,q2,ae0,uT];have e:af ((n:Y)*(m:Y))=n*m:=by rw[<-fC,cr]
  simp only[e,uS];ac_rfl
 .intro x a;rcases be.1 a with a|a
  .exact h.gH x a
  .have e:=iw.1 a;subst e;refine⟨d,g2,u,?_⟩;have:=zH (G:0<n) (show 0<m from h.m1);show(1:Y)<=(n:Y)*(m:Y);rw[<-fC];omega
 .intro x a;rcases be.1 a with a|a
  .exact λj=>h.nd x a<|dvd_trans j i
  .have e:=iw.1 a;subst e;exact w
 .refine yg.2 ⟨h.ds,UM _ _,λx a y q e=>?_⟩;have r:=iw.1 q;subst r;exact h.nd x a (by rw[e];exact v)
 .let ⟨L,P,o,Q⟩:=b.ok k (by simp[K]);refine⟨L,P,o,?_⟩;rw[q2]at Q;rcases o.oE H Q with e|e
  .exact e
  .exact absurd (aqJ H L d u P<|Pq H o n e).symm<|d1 k K
noncomputable def gV(p:V)(m:V):E (E Y)->E Y×E (E Y×Y)->E Y×E (E Y×Y)
 |[],x=>x
 |g::a,x=>gV p m a ((pull p g (Z x.1+1) x.1 0).1,x.2++[(g,(((pull p g (Z x.1+1) x.1 0).2:V):Y)*(m:Y))])
def VV{p:V}(H:br p){b:Fx p}{m:V}:∀(a:E (E Y))(f:E Y)(l:E (E Y×Y)),vg p b f m l->CV p f a->vg p b (gV p m a (f,l)).1 m (gV p m a (f,l)).2/\(gV p m a (f,l)).1.length<=Z f/\(a≠[]->(gV p m a (f,l)).1.length<Z f)
 |[],_,_,h,_=>⟨h,aT _,λd=>absurd J d⟩
 |g::a,f,l,h,i=>by let ⟨i1,i2,i3⟩:=h.pull H i;let ⟨j1,j2,_⟩:=VV H a _ _ i1 i2;rw[gV];exact⟨j1,by simp only at j2⊢;omega,λ_=>by simp only at j2⊢;omega⟩
def aqK{p}(H:br p){f}(h:aM (jM p f)=[]):bA (fx f:Fx p)=0:=by rw[<-VS,<-FP,h,kz]
structure CW(p:V)(a:Fx p)(l:E (E Y×Y)):Prop where
 parts:∀x∈l,Mon p x.1/\2<=x.1.length/\bu (fx x.1:Fx p)/\1<=x.2
 ds:l.Pairwise λx b=>x.1≠b.1
 prod:iS p l=a
end Go.El
namespace Go.El
open Go Go.Proofs
def py(a b:Y):Y:=if a<b then-1 else if a>b then 1 else 0
def CY(a b:E Y):V->Y
 |0=>0
 |i+1=>if py (I a i 0) (I b i 0)≠0 then py (I a i 0) (I b i 0)else CY a b i
def sd(a b:E Y):Y:=if Z a≠Z b then py (Z a) (Z b)else CY a b (Z a)
section
variable{α:Type}{d:α}{cm:α->α->Y}
def gAd(d:α)(cm:α->α->Y)(xs:E (α))(k:V):Prop:=∀t,t<k->0<=cm (I xs (t+1) d) (I xs t d)
end
open Fx
abbrev d0M:E Y×Y:=([],0)
def aqL a b:py a b= -py b a:=by unfold py;split<;>split<;>(try split)<;>omega
end Go.El
namespace Go.El
open Go Go.Proofs
namespace Rx
def Pt(t:N)(m:V):∀n:V,t^(m+n)=t^m*t^n
 |0=>by rw[jv,yp,nr]
 |n+1=>by rw[<-q',yq,Pt t m n,yq,l7]
def VW(s t:N):∀n:V,(s*t)^n=s^n*t^n
 |0=>by rw[yp,yp,yp,nr]
 |n+1=>by rw[yq,yq,yq,VW s t n];grind
def VX:∀n:V,(1:N)^n=1
 |0=>yp _
 |n+1=>by rw[yq,VX n,nr]
def F9{t:N}(h:t≠0):∀n:V,t^n≠0
 |0=>by rw[yp];decide
 |n+1=>λa=>by
  rw[yq]at a;rcases zX.1 a with a|a
  .exact F9 h n a
  .exact h a
def gn(t:N)(a:Rx):Rx:=⟨λi=>t^i*a i,by let ⟨n,b⟩:=a.2;exact⟨n,λi d=>by show t^i*a.v i=0;rw[b i d,dY]⟩⟩
def oH t a i:gn t a i=t^i*a i:=rfl
def Pu t a B:gn t (a*B)=gn t a*gn t B:=ext λn=>by
 rw[oH,fD,fD,<-N0];refine uR λi b=>?_
 rw[oH,oH];have:t^n=t^i*t^(n-i):=by rw[<-Pt,(G:i+(n-i)=n)]
 rw[this];grind
def aqM t a B:gn t (a+B)=gn t a+gn t B:=ext λn=>by rw[oH,eo,eo,oH,oH,I5]
def aqN t a:gn t (K a)=K a:=ext λn=>by
 rw[oH,lE];split
 .rename_i h;rw[h,yp,qL]
 .rw[dY]
def ae6 t:gn t 1=1:=aqN t 1
def ae7 s t a:gn s (gn t a)=gn (s*t) a:=ext λn=>by rw[oH,oH,oH,VW,l7]
def ae8 a:gn 1 a=a:=ext λn=>by rw[oH,VX,qL]
def aqO t a:bA (gn t a)=K t*gn t (bA a):=ext λn=>by rw[qO,oH,dZ,oH,qO,yq];grind
def Pv{t}(d:t≠0) b:sz (gn t b)=sz b:=by
 have a:∀(s:N)(B:Rx),sz (gn s B)<=sz B:=λs B=>n7 λi f=>by rw[oH,mb f,dY]
 have h:=a t b;have g:=a t⁻¹ (gn t b);rw[ae7,nq t d,ae8]at g;omega
def bu.gn{t}(a:t≠0){b}(h:bu b):bu (gn t b):=by
 refine⟨by rw[Pv a];exact h.1,λX Y e=>?_⟩;have d:b=Rx.gn t⁻¹ X*Rx.gn t⁻¹ Y:=by rw[<-Pu,<-e,ae7,nq t a,ae8]
 have:=h.2 _ _ d;rwa[Pv (sa a),Pv<|sa a]at this
def Co.gn{t}{a B}(h:Co a B):Co (gn t a) (Rx.gn t B):=by let ⟨U,V,e⟩:=h;refine⟨Rx.gn t U,Rx.gn t V,?_⟩;rw[<-Pu,<-Pu,<-aqM,e,ae6]
noncomputable def mS(t:N)(a:Rx):Rx:=K (t^(sz a-1))*gn t⁻¹ a
def ae9{t}(b:t≠0) a:sz (mS t a)=sz a:=by
 by_cases h:a=0
 .subst h;have e:gn t⁻¹ 0=(0:Rx):=ext λi=>by rw[oH,l3,dY]
  rw[mS,e,mul_zero]
 .have d:=Pv (sa b) a;have f:gn t⁻¹ a≠0:=λe=>by rw[e,kv]at d;have:=fo h;omega
  have g:=ef (s7<|F9 b<|sz a-1) f;rw[wz (F9 b _),d]at g;show sz (K _*_)=_;omega
def JZ{t:N}(a:t≠0)(n:V):t^n*t⁻¹ ^n=1:=by rw[<-VW,Rat.mul_inv_cancel t a,VX]
def J0{t}a i:mS t a i=t^(sz a-1)*(t⁻¹ ^i*a i):=by rw[mS,dZ,oH]
def aqP{t}(a:t≠0){b}(h:Mo b):Mo (mS t b):=by rw[Mo,ae9 a,J0,<-l7,JZ a,qL];exact h
def aqQ t:mS t 1=1:=by rw[mS,rZ,ae6,mul_one];show K (t^0)=1;rw[yp,qM]
def aqR{t}{a B}(b:a≠0)(d:B≠0):mS t (a*B)=mS t a*mS t B:=by have h:=ef b d;have f:=fo b;have g:=fo d;rw[mS,mS,mS,Pu,(G:sz (a*B)-1=(sz a-1)+(sz B-1)),Pt,fp];ac_rfl
def aqS{t}(a:t≠0) b:mS t⁻¹ (mS t b)=b:=ext λi=>by rw[J0,J0,ae9 a,Rat.inv_inv];have d:=JZ a<|sz b-1;have f:=JZ a i;grind
def aqT{t}(a:t≠0){b}(h:bu b):bu (mS t b):=bu.smul (h.gn<|sa a)<|F9 a _
def aqU{t}(b:t≠0){a}(h:Co a (bA a)):Co (mS t a) (bA<|mS t a):=by have d:=F9 b<|sz a-1;have f:=sa b;let ⟨U,V,e⟩:=h.gn (t:=t⁻¹);refine⟨K (t^(sz a-1))⁻¹ *U,K (t^(sz a-1))⁻¹ *(K (t⁻¹)⁻¹ *V),?_⟩;rw[mS,Jb,aqO,<-e];have g:=ph d;have i:=ph f;have k:K (t^(sz a-1))⁻¹ *U*(K (t^(sz a-1))*gn t⁻¹ a)=(K (t^(sz a-1))⁻¹ *K (t^(sz a-1)))*(U*gn t⁻¹ a):=fq;have l:K (t^(sz a-1))⁻¹ *(K (t⁻¹)⁻¹ *V)*(K (t^(sz a-1))*(K t⁻¹ *gn t⁻¹ (bA a)))=(K (t^(sz a-1))⁻¹ *K (t^(sz a-1)))*((K (t⁻¹)⁻¹ *K t⁻¹)*(V*gn t⁻¹ (bA a))):=fq;rw[k,l,g,i,one_mul,one_mul,one_mul]
end Rx
open Rx
def iD(a:E N):V->V
 |0=>1
 |i+1=>iD a i*((I a i 0).den/Nat.gcd (iD a i) (I a i 0).den)
def dR(a:E N):V:=iD a<|Z a
def dS(a:E N):E Y:=(cw<|Z a).map λk=>(I a k 0).num*((dR a:V):Y)^(Z a-1-k)/((I a k 0).den:Y)
def kE(a:V)(g:E Y):E N:=(cw<|Z g).map λk=>jC (I g k 0)<|(a:Y)^(Z g-1-k)
noncomputable def oe:E (E N)->Rx
 |[]=>1
 |u::l=>lx u*oe l
def VY a i:iD a (i+1)=Nat.lcm (iD a i) (I a i 0).den:=by rw[iD,Nat.lcm,Nat.mul_div_assoc _<|Uj _ _]
def F'(a:E N):∀i,∀b,b<i->(I a b 0).den∣iD a i
 |0,_,h=>by omega
 |i+1,b,h=>by
  rw[VY];by_cases d:b=i
  .subst d;exact Nat.dvd_lcm_right _ _
  .exact FO (F' a i b G)<|Nat.dvd_lcm_left _ _
def VZ(a:E N){b:V}(h:∀d,(I a d 0).den∣b):∀i,iD a i∣b
 |0=>Nat.one_dvd _
 |i+1=>by rw[VY];exact Nat.lcm_dvd (VZ a h i)<|h i
def Ga(a:E N):∀i,0<iD a i
 |0=>Nat.zero_lt_one
 |i+1=>by rw[VY];exact Nat.lcm_pos (Ga a i) (I a i 0).den_pos
def Ar a:Z (dS a)=Z a:=by simp[dS]
def Pw a{k}(h:k<Z a):I (dS a) k 0=(I a k 0).num*((dR a:V):Y)^(Z a-1-k)/((I a k 0).den:Y):=by unfold dS;rw[aN,iN,jV h];rfl
def Px a{D}(h:(a.den:Y)∣D):((a.num*D/(a.den:Y):Y):N)=(D:N)*a:=by
 obtain⟨e,rfl⟩:=h;have b:(a.den:Y)≠0:=by have:=a.den_pos;omega
 have d:a.num*((a.den:Y)*e)/(a.den:Y)=a.num*e:=by rw[(fq:a.num*((a.den:Y)*e)=(a.num*e)*(a.den:Y)),Int.mul_ediv_cancel _ b]
 rw[d,fT,fT,<-Oh a];have:(((a.den:V):Y):N)=((a.den:V):N):=rfl;rw[this];grind
structure js(a:E N):Prop where
 one:a.getD (a.length-1) 0=1
 l2:2<=a.length
 l9:a.length<=9
 co:Co (lx a) (bA<|lx a)
 aB:∀i,aG 6 ((dS a).getD i 0)
section
variable{a:E N}
def J1 a:((dR a:V):N)≠0:=x7<|UJ.1<|Ga a _
def js.can(h:js a):bU a:= .inr (by rw[h.one];decide)
def js.sz(h:js a):Rx.sz (lx a)=Z a:=fS h.can
def V0(b:V):∀n:V,(((b:Y)^n:Y):N)=((b:V):N)^n
 |0=>by rw[o8,yp];rfl
 |n+1=>by rw[fH,fT,V0 b n,yq];rfl
def ae'{t:N}(b:t≠0){m k:V}(h:k<=m):t^m*t⁻¹ ^k=t^(m-k):=by
 have e:t^m=t^(m-k)*t^k:=by rw[<-Pt,(G:m-k+k=m)]
 rw[e,l7,JZ b,nr]
def js.zx(h:js a):Rx.zx (dS a)=mS ((dR a:V):N) (lx a):=Rx.ext λi=>by
 rw[k4,J0,h.sz,fj];by_cases b:i<Z a
 .rw[Pw a b,Px,V0,<-l7,ae' (J1 a) G];by_cases e:i=Z a-1
  .rw[e,h.one];exact Int.one_dvd _
  .have d:(I a i 0).den∣dR a:=F' a _ i b;have f:((I a i 0).den:Y)∣((dR a:V):Y):=xU.2 d;obtain⟨j,g⟩:∃j,Z a-1-i=j+1:=⟨Z a-1-i-1,G⟩;rw[g,fH];exact Jo f<|CK _ _
 .rw[fh _ (by rw[Ar];omega),g5 a G,dY,dY];rfl
def js.aH(h:js a):aH (dS a):=by have b:=h.l2;refine⟨λe=>by have:=Ar a;rw[e]at this;simp at this;omega,?_⟩;rw[Ar,Pw a G,h.one,kg,o8];rfl
def js.afa(h:js a){l}(f:l.Nodup)(g:∀p∈l,br p)(k:ya<qQ l):∃p∈l,Fx.Co (Fx.fx (dS a):Fx (p:V)) (Fx.bA<|Fx.fx<|dS a):=by
 have o:=h.l2;have s:=h.l9;obtain⟨n,b⟩:∃n,Z a=n+2:=⟨Z a-2,G⟩;have d:Co (Rx.zx<|dS a) (bA<|Rx.zx<|dS a):=by rw[h.zx];exact aqU (J1 a) h.co
 refine api f g k (n:=n) (by rw[Ar];exact b) h.aH d (B:=2^192) D (λi=>?_) ?_
 .have:=h.aB i;unfold aG at this;omega
 .have m:2*((2*n+2)*((n+1)*2^192))<=2^200:=by have t:(2*n+2)*(n+1)<=16*8:=l0 G G;rw[<-wh (2*n+2)];omega
  refine b6 (z7 m _) ?_;refine b6 (eZ D (G:2*n+1<=15)) ?_;decide+kernel
def js.mf(h:js a):JY (dS a):=⟨h.aH,by rw[Ar];exact h.l2,by rw[Ar];exact h.l9,h.aB,h.afa aoV (λ_ b=>aqG b) aoX⟩
def Py b g:Z (kE b g)=Z g:=by simp[kE]
def V1 b g{k}(h:k<Z g):I (kE b g) k 0=jC (I g k 0) ((b:Y)^(Z g-1-k)):=by unfold kE;rw[aN,iN,jV h];rfl
def aqV d{b:V}(h:0<b) n:jC d ((b:Y)^n)=((b:V):N)⁻¹ ^n*(d:N):=by
 have f:((b:V):N)≠0:=x7 G;rw[Oi,V0,uW];have i:=JZ f n;have g:(((b:V):N)^n)⁻¹ =((b:V):N)⁻¹ ^n:=by have k:=nq _<|F9 f n;grind
 rw[g,zS]
def afb{b:V}(d:0<b){g:E Y}(f:Go.El.aH g):lx (kE b g)=mS ((b:V):N)⁻¹ (Rx.zx g):=Rx.ext λi=>by
 have h:((b:V):N)≠0:=x7 G;rw[J0,k5<|aH.can f,k4,fj];by_cases k:i<Z g
 .rw[V1 b g k,aqV _ d,<-l7,ae' (sa h) G]
 .rw[g5 _ (by rw[Py];omega),fh g G];show(0:N)=_*(_*((0:Y):N));rw[show((0:Y):N)=0 from J,dY,dY]
def afc{b}{g}(d:Go.El.aH g):I (kE b g) (Z (kE b g)-1) 0=1:=by have:=cR.2 d.1;rw[Py,V1 b g G,d.2,kg,o8];rfl
def afd{d:V}(i:0<d):∀{b:E (E Y)},(∀g∈b,Go.El.aH g)->oe (b.map<|kE d)=mS ((d:V):N)⁻¹ (po b)
 |[],_=>(aqQ _).symm
 |g::b,h=>by
  have k:po b≠0:=by
   have f:∀{b:E (E Y)},(∀g∈b,Go.El.aH g)->po b≠0:=by
    intro b;induction b with
    |nil=>intro _;exact qN
    |cons g b l=>intro h;exact nZ (n9<|h g ax).ne<|l λx hx=>h x lj
   exact f λx hx=>h x lj
  rw[gJ,oe,po,aqR (n9<|h g ax).ne k,afb i<|h g ax,afd i λx hx=>h x lj]
def js.unG(h:js a){b}(i:∀k∈b,Go.El.aH k/\Rx.bu (Rx.zx k))(m:Rx.po b=Rx.zx (dS a)):(∀u∈b.map (kE<|dR a),I u (Z u-1) 0=1/\bU u/\Mo (lx u)/\bu (lx u))/\oe (b.map<|kE<|dR a)=lx a:=by
 have l:0<dR a:=Ga a _;refine⟨λu n=>?_,?_⟩
 .obtain⟨g,f,rfl⟩:=kF.1 n;let ⟨d,g2⟩:=i g f;rw[afb l d];exact⟨afc d,.inr (by rw[afc d];decide),aqP (sa<|J1 a)<|n9 d,aqT (sa<|J1 a) g2⟩
 .rw[afd l λg f=>(i g f).1,m,h.zx,aqS (J1 a)]
end
end Go.El
namespace Go.El
open Go Go.Proofs Fx
def afe{x a}:dK x a<=0↔x<=a:=by
 unfold dK;split
 .omega
 .split<;>omega
end Go.El
namespace Go.El
open Go Go.Proofs
def V2(a:E N)(h:∀i,QS 20 (I a i 0)):∀i,aG (20*i+1) ((iD a i:V):Y)
 |0=>aG.one (a:=1) D
 |i+1=>by have b:=V2 a h i;have f:=(h i).d;have k:iD a (i+1)<=iD a i*(I a i 0).den:=jk _<|Nat.div_le_self _ _;have g:=b.mul f;rw[<-fC]at g;unfold aG at*;rw[o9]at*;rw[(G:20*(i+1)+1=20*i+1+20)];omega
def pB{a:Type}(f:V->a)(d:a)(n b:V):E a:=(cw n).map λk=>if n<=k+b then f k else d
def aqX{a:Type}(f:V->a) d n b:Z (pB f d n b)=n:=by simp[pB]
def aqY{a:Type}(f:V->a) d n:List.replicate n d=pB f d n 0:=by
 refine tQ (by simp[pB]) λi g b=>?_
 simp[pB]at b⊢;omega
def aff{g:Type}(f:V->g) d{n a}(h:a<n):(pB f d n a).set (n-1-a) (f<|n-1-a)=pB f d n (a+1):=by
 refine tQ (by simp[pB]) λi l k=>?_
 rw[List.getElem_set];simp only[pB,Bd,Lg];simp only[pB,cT,rV]at k;by_cases e:n-1-a=i
 .subst e;rw[q J,q G]
 .rw[y e];by_cases b:n<=i+a
  .rw[q b,q G]
  .rw[y b,y G]
def aqZ{a:Type}(f:V->a) d n:pB f d n n=(cw n).map f:=by
 refine tQ (by simp[pB]) λi b g=>?_
 simp[pB]
def afg{g:E Y}:∀{l:E (E Y)},g∈l->Rx.zx g∣Rx.po l
 |f::l,h=>by
  rw[Rx.po];rcases bZ.1 h with rfl|h
  .exact Rx.dvd_mul_right _ _
  .exact Rx.dQ (afg h) _
def afh:∀{l:E (E Y)},(∀g∈l,Rx.bu (Rx.zx g))->Rx.po l≠0/\Z l+1<=Rx.sz (Rx.po l)
 |[],_=>⟨Rx.qN,by rw[Rx.po,Rx.rZ];exact aT _⟩
 |g::l,h=>by
  let ⟨i1,i2⟩:=afh (l:=l) λx hx=>h x lj
  have a:=h g ax;have:=Rx.ef a.ne i1;have:=a.1;rw[Rx.po];exact⟨Rx.nZ a.ne i1,O8⟩
def qX(a b:E N):V->Y
 |0=>0
 |i+1=>if oa (I a i 0) (I b i 0)≠0 then oa (I a i 0) (I b i 0)else qX a b i
def jt(a b:E N):Y:=if Z a≠Z b then py (Z a) (Z b)else qX a b (Z a)
abbrev yr:E N×Y:=([],0)
def Gb(x a:E N×Y):Y:=jt x.1 a.1
structure Gc(w:V)(x:E N×Y):Prop where
 l:x.1.length<=1000
 q:∀i,QS w (x.1.getD i 0)
open Rx
def CD(a b:V)(d:Rx):Prop:=0<a/\∀i,∃z:Y,aA z<=b/\((a:V):N)*d i=(z:N)
def CD.int{a d}{b}(h:CD a d b):c9 (K ((a:V):N)*b):=c9.of λi=>by let ⟨z,_,h2⟩:=h.2 i;exact⟨z,by rw[dZ,h2]⟩
def CD.le{a b d}{f}(h:CD a b f)(k:b<=d):CD a d f:=⟨h.1,λi=>by let ⟨z,g,h2⟩:=h.2 i;exact⟨z,b6 g k,h2⟩⟩
def CD.low{f d g}{a}(h:CD f g a)(m:d∣f)(n:c9 (K ((d:V):N)*a)):CD d g a:=by
 obtain⟨j,rfl⟩:=m;have s:=h.1;have o:0<d:=rL λe=>by subst e;omega
 have j0:0<j:=rL λe=>by subst e;omega
 refine⟨o,λi=>?_⟩;let ⟨z,k,h2⟩:=h.2 i;have b:=n.at i;rw[dZ]at b;refine⟨_,?_,b⟩;generalize nu (K ((d:V):N)*a) i=y at*;have l:((j:Y):N)*(y:N)=(z:N):=by rw[<-h2,<-b,z5,r6];grind
 rw[<-fT]at l;have p:(j:Y)*y=z:=x9.1 l;rw[<-p,rP]at k;have:1*aA y<=j*aA y:=et _ j0;have e:aA ((j:Y))=j:=rfl;rw[e]at k;omega
def aq0{a}{b}(h:∀i,aA (a i)<=b):∀n,Rx.nO n a<=(((n+1)*b:V):Y):=by
 intro n;have d:∀k,sm (λi=>(aA (a i):Y)) k<=((k*b:V):Y):=by
  intro k;induction k with
  |zero=>simp[sm]
  |succ k f=>
   rw[sm]
   have:=h k
   rw[gy,iG]
   omega
 exact d<|n+1
def CD.div{u f}{g a}(hA:Mo g)(v:Mo a)(hd:a∣g)(h:CD u f g):∃d,Dn a d/\d∣u/\CD d (2^(sz g-1)*(sz g*f)) a:=by
 obtain⟨E,rfl⟩:=hd;have w:Mo E:=hA.zZ v;let ⟨d,b⟩:=Jn a;let ⟨e,o⟩:=Jn E;let ⟨n,x⟩:=Jn<|E*a;have W:=ac2 w v o b x;have p:=x.dvd u h.int;have C:d∣u:=FO ⟨e,by rw[W,hJ]⟩ p;have H:=h.low p x.int;have S:=ef w.ne v.ne;have U:=fo w.ne;have s2:=fo v.ne;refine⟨d,b,C,b.pos,λi=>⟨nu (K ((d:V):N)*a) i,?_,by rw[<-dZ];exact b.int.at i⟩⟩;have X:∀{m:V}{B:Rx},0<m->sz (K ((m:V):N)*B)<=sz B:=λ_=>n7 λi r=>by rw[dZ,mb r,dY]
 have y:nu (K ((e:V):N)*E) (sz E-1)≠0:=λF=>by have s:=o.int.at<|sz E-1;rw[dZ,F]at s;have L:E (sz E-1)=1:=w;rw[L,nr]at s;exact x7 (UJ.1 o.pos) s
 have P:=ac5 (A:=nu<|K ((d:V):N)*a) (B:=nu<|K ((e:V):N)*E) (k:=sz a-1) (l:=sz E-1) (λj I=>wF<|by have:=X (B:=a) b.pos;omega) (λj I=>wF<|by have:=X (B:=E) o.pos;omega) y i;have J:nu (K ((d:V):N)*a)*nu (K ((e:V):N)*E)=nu (K ((n:V):N)*(E*a)):=by rw[<-Cy b.int o.int];congr 1;rw[W,z5,fp];ac_rfl
 rw[J]at P;have O:∀i,aA (nu (K ((n:V):N)*(E*a)) i)<=f:=λi=>by let ⟨z,s,L⟩:=H.2 i;have q:=x.int.at i;rw[dZ,L]at q;rw[<-x9.1 q];exact s
 have t:=aq0 O<|sz a-1+(sz E-1);rw[(G:sz a-1+(sz E-1)=sz (E*a)-1)]at P t;have Q:(0:Y)<=2^(sz (E*a)-1):=Int.le_of_lt<|nT D;have T:=te P<|kU t Q;rw[(G:sz (E*a)-1+1=sz (E*a))]at T;have R:(2:Y)^(sz (E*a)-1)*((sz (E*a)*f:V):Y)=((2^(sz (E*a)-1)*(sz (E*a)*f):V):Y):=by rw[fC (2^(sz (E*a)-1)),uL];rfl
 rw[R]at T;exact Oj.1 T
def CD.ht{a d b}{f}(h:CD a d f)(g:a<=b)(k:d<=b):Ht b f:=⟨(a:Y),Ci,g,λi=>by let ⟨z,l,h2⟩:=h.2 i;exact⟨z,b6 l k,h2⟩⟩
def afi{a}{d b}(h:CD d b (lx a)):dR a∣d:=VZ a (λj=>by
 let ⟨z,_,h2⟩:=h.2 j;rw[fj]at h2;have f:=Oh<|I a j 0;generalize I a j 0=r at*;have g:((d:Y)*r.num:Y)=z*(r.den:Y):=by refine x9.1 ?_;rw[fT,fT,<-f,<-h2,r6,r6];grind
 have i:(r.den:Y)∣r.num*(d:Y):=⟨z,by rw[eW,g,eW]⟩;have k:r.den∣aA r.num*d:=by have:=IQ.2 i;rwa[rP]at this
 exact(r.reduced.symm.dvd_of_dvd_mul_left k)) _
def aq1 a:c9 (K ((dR a:V):N)*lx a):=c9.of λi=>by
 by_cases d:i<Z a
 .refine⟨(I a i 0).num*((dR a:V):Y)/((I a i 0).den:Y),?_⟩;have b:(I a i 0).den∣dR a:=F' a _ i d;rw[Px _ (xU.2 b),dZ,fj];rfl
 .exact⟨0,by rw[dZ,fj,g5 a G,dY];rfl⟩
def aq2{a}{d l b t}(h:CD d l (lx a))(f:I a (Z a-1) 0=1)(n:d<=2^b)(o:l<=2^t)(H:(Z a-2)*b+t<=191) i:aG 6 (I (dS a) i 0):=by
 have p:(4294967296:V)^6=2^192:=D;unfold aG;rw[p];by_cases g:i<Z a
 .by_cases s:i=Z a-1
  .subst s;rw[Pw a g,f,kg,o8];exact Nat.one_lt_two_pow D
  .have u:=h.low (afi h)<|aq1 a;let ⟨z,v,h2⟩:=u.2 i;rw[fj]at h2;have w:dR a<=2^b:=b6 (wi h.1<|afi h) n;obtain⟨j,x⟩:∃j,Z a-1-i=j+1:=⟨Z a-1-i-1,G⟩;have B:(I a i 0).num*((dR a:V):Y)^(j+1)/((I a i 0).den:Y)=((dR a:V):Y)^j*z:=by
    refine x9.1 ?_;have k:((I a i 0).den:Y)∣((dR a:V):Y)^(j+1):=by rw[fH];exact Jo (xU.2<|F' a _ i g)<|CK _ _
    rw[Px _ k,fT,<-h2,fH,fT,r6];grind
   rw[Pw a g,x,B,rP,Int.natAbs_pow,o9];have C:dR a^j<=2^(b*j):=by rw[Cj];exact z7 w j
   have K:b*j<=(Z a-2)*b:=by rw[hJ];exact et _ G
   have m:dR a^j*aA z<=2^(b*j)*2^t:=l0 C<|b6 v o;rw[<-ku]at m;exact wg m<|US D G
 .rw[fh _ (by rw[Ar];omega)];exact km D
noncomputable def g7:E (E N×Y)->Rx
 |[]=>1
 |x::l=>pk (lx x.1) (af x.2)*g7 l
noncomputable def pD:E (Rx×Y)->Rx
 |[]=>1
 |x::l=>pk x.1 (af x.2)*pD l
def afj:∀l m,g7 (l++m)=g7 l*g7 m
 |[],m=>by rw[tI,g7,one_mul]
 |x::l,m=>by rw[ln,g7,g7,afj l m,mul_assoc]
def afk:∀l m,pD (l++m)=pD l*pD m
 |[],m=>by rw[tI,pD,one_mul]
 |x::l,m=>by rw[ln,pD,pD,afk l m,mul_assoc]
def afl:∀l:E (E N×Y),g7 l=pD (l.map λp=>(lx p.1,p.2))
 |[]=>rfl
 |x::l=>by rw[gJ,g7,pD,afl l]
def aq3{l m}(h:l.Perm m):g7 l=g7 m:=by
 induction h with
 |nil=>rfl
 |cons x _ a=>rw[g7,g7,a]
 |swap x y l=>rw[g7,g7,g7,g7];ac_rfl
 |trans _ _ i1 i2=>exact i1.trans i2
structure afm(a:E N)(fs:E (E N×Y)):Prop where
 ok:∀x∈fs,x.1.getD (x.1.length-1) 0=1/\bu (lx x.1)/\1<=x.2
 prod:g7 fs=lx (eO a)
 Cv:fs.Pairwise (λx b=>x.1≠b.1)
 adj:gAd yr Gb fs (fs.length-1)
def afn(b:V->V)(a:V):∀L,pk (pF b L) a=pF (λm=>b m*a) L
 |[]=>Cs a
 |x::L=>by rw[pF,pF,uT,afn b a L,uS]
def V3{L}(h:FL L)(a:V->V):Mo (pF a L):=wD h.mo
def afo{L:E (Rx×V)}(h:FL L):∀(k n:V),pD (oc L k n)=pF (λm=>if n<=m/\m<n+k then m else 0) L
 |0,n=>by rw[oc,pD];exact(N9 λx _=>y G).symm
 |k+1,n=>by
  have d:pD (if 1<sz (pF (kP n) L)then[(pF (kP n) L,(n:Y))]else[])=pk (pF (kP n) L) n:=by
   split
   .rw[pD,pD,mul_one,cr]
   .rename_i f;have a:=V3 h<|kP n;have:=fo a.ne;rw[a.unit G,Cs,pD]
  rw[oc,afk,d,afo h k<|n+1,afn,<-Cw];refine x6 λx _=>?_
  unfold kP;by_cases e:x.2=n
  .rw[q e,y G,q G];omega
  .rw[y e];by_cases b:n+1<=x.2/\x.2<n+1+k
   .rw[q b,q G];omega
   .rw[y b,y G];omega
def V4{L:E (Rx×V)}:∀{k n:V}{a:Rx×Y},a∈oc L k n->∃m:V,n<=m/\a=(pF (kP m) L,(m:Y))/\1<sz (pF (kP m) L)
 |0,_,_,h=>by cases h
 |k+1,n,a,h=>by
  rw[oc]at h;rcases be.1 h with h|h
  .split at h
   .rename_i b;exact⟨n,aT _,iw.1 h,b⟩
   .cases h
  .let ⟨m,b,h2,d⟩:=V4 h;exact⟨m,G,h2,d⟩
def afp{L:E (Rx×V)}:∀(k n:V),(oc L k n).Pairwise (λx b=>x.2≠b.2)
 |0,_=>F7
 |k+1,n=>by
  rw[oc];refine yg.2 ⟨?_,afp k<|n+1,λx a b d=>?_⟩
  .split
   .exact UM _ _
   .exact F7
  .let ⟨m,f,h2,_⟩:=V4 d;split at a
   .rw[iw.1 a,h2];show(n:Y)≠(m:Y);omega
   .cases a
def aq4{L}(h:FL L) m:Co (pF (kP m) L) (bA<|pF (kP m) L):=by
 refine FK (V3 h _).ne λQ a b d=>?_
 let ⟨x,hx,g,h2⟩:=z0 a b;have f:kP m x.2=1:=by have:=Ji m x.2;omega
 exact h.Jf (Ji m) hx f<|dvd_trans (a.assoc (h.gH x hx) h2) d
def aq5{a}(h:Co a (bA a)){Q}(i:2<=sz Q):¬Q*Q∣a:=λ⟨w,e⟩=>by
 have b:Q∣a:=⟨w*Q,by rw[e];ac_rfl⟩;have d:Q∣bA a:=by rw[e,wC,wC];refine dvd_add ⟨bA w*Q,fq⟩ ?_;rw[mul_add];exact dvd_add ⟨w*bA Q,fq⟩ ⟨w*bA Q,fq⟩
 let ⟨U,V,f⟩:=h;have g:Q∣1:=by rw[<-f];exact dvd_add (dQ b _)<|dQ d _
 have:=dvd_one g;omega
def PA{u:E N}:∀{l:E (E N)},u∈l->lx u∣oe l
 |v::l,h=>by
  rw[oe];rcases bZ.1 h with rfl|h
  .exact dvd_mul_right _ _
  .exact dQ (PA h) _
def afq:∀{l:E (E N)},(∀u∈l,bu (lx u))->(∀Q:Rx,2<=sz Q->¬Q*Q∣oe l)->l.Pairwise (·≠·)
 |[],_,_=>F7
 |v::l,h,b=>by refine jP.2 ⟨λu a d=>?_,afq (λu a=>h u<|by simp[a]) λQ f g=>b Q f<|dQ g _⟩;subst d;exact b (lx v) (h v ax).1<|x5 (dvd_refl _)<|PA a
def afr(m:Y):∀l:E (E N),g7 (l.map λu=>(u,m))=pk (oe l) (af m)
 |[]=>(Cs _).symm
 |u::l=>by rw[gJ,g7,oe,uT,afr m l]
def fV(ir:E N->E (E N))(a:E (E N×Y)):E (E N×Y):=a.flatMap λp=>(ir p.1).map λu=>(u,p.2)
def afs{ir:E N->E (E N)}:∀{a:E (E N×Y)},(∀p∈a,oe (ir p.1)=lx p.1)->g7 (fV ir a)=g7 a
 |[],_=>rfl
 |p::a,h=>by rw[fV,lq,afj,afr,h p ax,g7];exact bh _ (afs λb d=>h b<|by simp[d])
def afu:∀{l:E (E N×Y)},(∀x∈l,bu (lx x.1)/\1<=x.2)->g7 l≠0/\Z l+1<=sz (g7 l)
 |[],_=>⟨qN,by rw[g7,rZ];exact aT _⟩
 |x::l,h=>by
  let ⟨i1,i2⟩:=afu (l:=l) λy hy=>h y uv
  let ⟨b,h2⟩:=h x ax;have d:=VC b.1<|af x.2;have a:pk (lx x.1) (af x.2)≠0:=λe=>by rw[e,kv]at d;omega
  have:=ef a i1;rw[g7];exact⟨nZ a i1,O8⟩
def afv{x:E N×Y}:∀{l:E (E N×Y)},x∈l->1<=x.2->lx x.1∣g7 l
 |d::l,h,a=>by
  rw[g7];rcases bZ.1 h with rfl|h
  .obtain⟨n,b⟩:∃n,af x.2=n+1:=⟨af x.2-1,G⟩;rw[b];exact ma (dvd_mul_left _ _) _
  .exact dQ (afv h a) _
def V5 a b:oa a b= -oa b a:=by
 unfold oa;by_cases d:a<b
 .rw[q d,y<|Rat.not_lt.2<|Rat.le_of_lt d,q d]
 .rw[y d];by_cases h2:b<a
  .rw[q h2,q h2];rfl
  .rw[y h2,y h2,y d];rfl
def afw(a b:E N):∀i,qX a b i= -qX b a i
 |0=>rfl
 |i+1=>by
  rw[qX,qX,V5 (I b i 0)<|I a i 0,afw a b i];generalize oa (I a i 0) (I b i 0)=f;by_cases h:f=0
  .rw[y (λd=>d h),y<|λd=>d G]
  .rw[q h,q G];omega
def aq6 a b:jt a b= -jt b a:=by
 unfold jt;by_cases h:Z a=Z b
 .rw[y (λe=>e h),y<|λe=>e h.symm,afw,h]
 .rw[q h,q<|λe=>h e.symm,aqL]
def afx x a:Gb x a= -Gb a x:=aq6 _ _
structure og(a:E N):Prop where
 can:bU a
 ne:a≠[]
 l9:a.length<=9
 hA:Ht (2^1500) (lx a)
 sz:∃c e h:V,CD c (2^h) (lx<|eO a)/\c<=2^e/\e<=600/\(a.length-2)*e+(h+12)<=191
section
variable{a:E N}
def og.mo(h:og a):Mo (lx<|eO a):=aes h.can h.ne
def og.J2(h:og a):Rx.sz (lx<|eO a)=Z a:=by rw[fS (ve a),Vx h.can]
def og.div(h:og a){f}(i:Mo f)(l:f∣lx (eO a)):∃d b t,CD d (2^t) f/\d<=2^b/\b<=600/\(Z a-2)*b+t<=191:=by let ⟨c,b,k,g,h2,m,n⟩:=h.sz;let ⟨d,_,d2,d3⟩:=g.div h.mo i l;refine⟨d,b,k+12,d3.le ?_,b6 (wi g.1 d2) h2,m,n⟩;rw[h.J2];have o:=h.l9;have p:2^(Z a-1)<=2^8:=eZ D G;have s:Z a*2^k<=9*2^k:=et _ o;have u:=l0 p s;rw[ku];omega
def og.ht(h:og a){b}(f:Mo b)(g:b∣lx (eO a)):Ht (2^600) b:=by let ⟨d,e,t,i,h2,k,l⟩:=h.div f g;exact i.ht (b6 h2<|Pb 600 k)<|Pb 600 G
def og.qs(h:og a){b}(d:Mo b)(f:b∣lx (eO a)) i:QS 20 (b i):=(h.ht d f).qs (nt (t:=600) G) i
def afy{b}(d:bU b)(f:Mo (lx b)):I b (Z b-1) 0=1:=by have:=f;rw[Mo,fS d]at this;exact this
def aq7{b}(h:I b (Z b-1) 0=1):bU b/\Mo (lx b):=by have d:bU b:= .inr (by rw[h];decide);exact⟨d,by rw[Mo,fS d];exact h⟩
def og.irH(h:og a){b}(g:bU b)(f:Mo (lx b))(k:lx b∣lx (eO a))(l:2<=Z b)(m:Co (lx b) (bA<|lx b)):js b/\∀i,QS 20 (I b i 0):=by
 have p:Z b<=Z a:=by have:=jK k h.mo.ne;rwa[fS g,h.J2]at this
 have s:=h.l9;let ⟨d,e,t,n,o,u,v⟩:=h.div f k;have w:(Z b-2)*e<=(Z a-2)*e:=et _ G;exact⟨⟨afy g f,l,G,m,λi=>aq2 n (afy g f) o (aT _) G i⟩,λi=>h.qs f k i⟩
def aq9{L}{m}(b:1<=m):pF (kP m) L∣pF id L:=by
 have e:pF id L=pF (λk=>(k-kP m k)+kP m k) L:=x6 λx _=>by show x.2=_;unfold kP;split<;>omega
 rw[e,Cw];exact dvd_mul_left _ _
def og.aq'(h:og a){ir:E N->E (E N)}(hI:∀w,js w->(∀i,QS 20 (I w i 0))->(∀u∈ir w,I u (Z u-1) 0=1/\bU u/\Mo (lx u)/\bu (lx u))/\oe (ir w)=lx w){L}(B:FL L)(hF:pF id L=lx (eO a)){b}(H:b.map (λp=>(lx p.1,p.2))=oc L (Z a) 1)(hq:∀p∈b,bU p.1):
  (∀p∈b,js p.1/\(∀i,QS 20 (I p.1 i 0))/\1<=p.2)/\Z (fV ir b)<=8/\(∀x∈fV ir b,Gc 20 x)/\(∀x∈fV ir b,I x.1 (Z x.1-1) 0=1/\bu (lx x.1)/\1<=x.2)/\g7 (fV ir b)=lx (eO a)/\(fV ir b).Pairwise (λx k=>x.1≠k.1):=by
 have C:∀p∈b,∃m:V,1<=m/\lx p.1=pF (kP m) L/\p.2=(m:Y)/\2<=Z p.1:=λp l=>by
  have W:(lx p.1,p.2)∈oc L (Z a) 1:=by rw[<-H];exact PB (f:=λp:E N×Y=>(lx p.1,p.2)) l
  let ⟨m,m1,K,c⟩:=V4 W;let ⟨e1,e2⟩:=Prod.mk.inj K;refine⟨m,m1,e1,e2,?_⟩;rw[<-e1,fS<|hq p l]at c;exact c
 have d:∀p∈b,js p.1/\(∀i,QS 20 (I p.1 i 0))/\1<=p.2:=λp l=>by
  let ⟨m,m1,K,c,m4⟩:=C p l;have hm:Mo (lx p.1):=by rw[K];exact V3 B _
  let ⟨i1,i2⟩:=h.irH (hq p l) hm (by rw[K,<-hF];exact aq9 m1) m4 (by rw[K];exact aq4 B m);exact⟨i1,i2,G⟩
 have O:∀x∈fV ir b,∃p∈b,x.1∈ir p.1/\x.2=p.2:=λx s=>by let ⟨p,l,s⟩:=iV.1 s;obtain⟨u,X,rfl⟩:=kF.1 s;exact⟨p,l,X,J⟩
 have P:∀x∈fV ir b,I x.1 (Z x.1-1) 0=1/\bu (lx x.1)/\1<=x.2:=λx s=>by let ⟨p,l,W,F⟩:=O x s;let ⟨i1,_,i2,i3⟩:=(hI p.1 (d p l).1 (d p l).2.1).1 _ W;exact⟨i1,i3,by rw[F];exact(d p l).2.2⟩
 have t:g7 (fV ir b)=lx (eO a):=by
  rw[afs λp l=>(hI p.1 (d p l).1 (d p l).2.1).2,afl,H,afo B,<-hF];refine x6 λx s=>?_
  have W:=B.pos x s;have F:=VD B s;rw[hF,h.J2]at F;exact q G
 have j:Z (fV ir b)<=8:=by have:=(afu λx s=>(P x s).2).2;rw[t,h.J2]at this;have:=h.l9;omega
 have r:(fV ir b).Pairwise (λx k=>x.1≠k.1):=by
  have S:b.Pairwise (λx k=>x.2≠k.2):=by have:=afp (L:=L) (Z a) 1;rw[<-H]at this;exact(FQ (R:=λx k:Rx×Y=>x.2≠k.2)).1 this
  have go:∀{o:E (E N×Y)},(∀p∈o,p∈b)->o.Pairwise (λx k=>x.2≠k.2)->(fV ir o).Pairwise (λx k=>x.1≠k.1):=by
   intro o;induction o with
   |nil=>intro _ _;exact F7
   |cons p o ih=>
    intro H l
    let ⟨p1,p2⟩:=jP.1 l
    have g:=H p ax
    refine yg.2 ⟨?_,ih (λw hq=>H w<|by simp[hq]) p2,λx s k hy e=>?_⟩
    .let ⟨i1,i2⟩:=hI p.1 (d p g).1 (d p g).2.1;refine FQ.2<|afq (λu X=>(i1 u X).2.2.2) λQ hQ z=>?_;rw[i2]at z;exact aq5 (d p g).1.co hQ z
    .obtain⟨u,X,rfl⟩:=kF.1 s;let ⟨w,A,U⟩:=iV.1 hy;obtain⟨v,hv,rfl⟩:=kF.1 U;have e:u=v:=e;subst e;have T:=H w (by simp[A]);let ⟨m,m1,K,c,_⟩:=C p g;let ⟨n,n1,n2,n3,_⟩:=C w T;let ⟨i1,i2⟩:=hI p.1 (d p g).1 (d p g).2.1;let ⟨j1,j2⟩:=hI w.1 (d w T).1 (d w T).2.1;let ⟨_,_,um,M⟩:=i1 u X;have d1:lx u∣pF (kP m) L:=by rw[<-K,<-i2];exact PA X
     have d2:lx u∣pF (kP n) L:=by rw[<-n2,<-j2];exact PA hv
     let ⟨x,x1,x2,x3⟩:=z0 M d1;let ⟨k,y1,y2,y3⟩:=z0 M d2;have ex:=M.eq (B.gH x x1) um (B.mo x x1) x3;have ey:=M.eq (B.gH k y1) um (B.mo k y1) y3;have kx:x.2=m:=UE.1 (by have:=Ji m x.2;omega);have ky:k.2=n:=UE.1 (by have:=Ji n k.2;omega);by_cases D:x=k
     .refine p1 w A ?_;rw[c,n3,<-kx,<-ky,D]
     .exact FL.UD B.Cv x1 y1 D (by rw[<-ex,<-ey])
  exact go (λp l=>l) S
 refine⟨d,j,λx s=>?_,P,t,r⟩
 .let ⟨W,F,h3⟩:=P x s;let ⟨h4,h5⟩:=aq7 W;have z:lx x.1∣lx (eO a):=by rw[<-t];exact afv s h3
  have hl:=jK z h.mo.ne;rw[fS h4,h.J2]at hl;have:=h.l9;exact⟨G,λi=>h.qs h5 z i⟩
end
end Go.El
namespace Go.El
open Go Go.Proofs
def afz{L:E (Rx×V)}:∀k n,Z (oc L k n)<=k
 |0,_=>aT _
 |k+1,n=>by
  have:=afz (L:=L) k<|n+1;rw[oc,iX];split
  .rw[rA];omega
  .rw[sH];omega
open Rx
def V6{a}(k:Mo a)(g:c9 a)(l:2<=sz a)(h:∀u v:Rx,Mo u->Mo v->c9 u->c9 v->a=u*v->2<=sz u->sz u<=sz v->False):bu a:=by
 refine⟨l,λA B e=>fc λi=>?_⟩;let ⟨u,v,b,d,f,m,n⟩:=Vb k e (λe=>i<|.inl e)<|λe=>i<|.inr e;rw[f]at g;let ⟨i1,i2⟩:=OO b d g;rcases Nat.le_total (sz u) (sz v)with hl|hl
 .exact h u v b d i1 i2 f m hl
 .exact h v u d b i2 i1 (f.trans<|Rx.mul_comm u v) n hl
def CZ l i:lx (l.map iQ) i=((I l i 0:Y):N):=by rw[fj,aN,iN,aN];cases l[i]? <;>rfl
def V7(l:E Y):c9 (lx<|l.map iQ):=c9.of λi=>⟨_,CZ l i⟩
def ara l i:nu (lx<|l.map iQ) i=I l i 0:=by show(lx (l.map iQ) i).num=_;rw[CZ];rfl
def afA{l}{n}(a:Z l=n+1)(b:I l n 0=1):bU (l.map iQ):=by refine .inr ?_;rw[cT,a,eE];have:=CZ l n;rw[fj]at this;rw[this,b];decide
def As{l}{n}(a:Z l=n+1)(b:I l n 0=1):sz (lx<|l.map iQ)=n+1:=by rw[fS (afA a b),cT,a]
def V8{l}{n}(b:Z l=n+1)(a:I l n 0=1):Mo (lx<|l.map iQ):=by show lx (l.map iQ) (sz (lx<|l.map iQ)-1)=1;rw[As b a,eE,CZ,a];rfl
def At{a b m}(h:m=a*b)(d:m≠0):aA a<=aA m:=by
 rw[h,rP];have:b≠0:=λe=>d (by rw[h,e,gY])
 exact TV _ G
def Au{a}(h:Mo a){n}(b:sz a=n+1):nu a n=1:=by show(a n).num=1;rw[h.at b];rfl
section
variable{l:E Y}{u v:Rx}
def yt(b:c9 u)(d:c9 v)(f:lx (l.map iQ)=u*v) i:I l i 0=sm (λa=>nu u a*nu v (i-a)) (i+1):=by rw[<-ara,f,Cy b d,PS.fD]
end
def V9{l}{d f}(p:l=[d,f,1])(h:∀a b:Y,d=a*b->f=a+b->False):bu (lx<|l.map iQ):=by subst p;refine V6 (V8 (n:=2) J J) (V7 _) (by rw[As (n:=2) J J];decide) ?_;intro u v g i k m e H s2;have s:=ef g.ne i.ne;rw[<-e,As (n:=2) J J]at s;have t:sz u=1+1:=G;have w:sz v=1+1:=G;have x:=Au g t;have B:=Au i w;have o:=yt k m e 0;have C:=yt k m e 1;simp[sm,x,B]at o C;exact h (nu u 0) (nu v 0) o G
def afB{l}{g i k}(x:l=[g,i,k,1])(h:∀a b m:Y,g=a*m->i=a*b+m->k=a+b->False):bu (lx<|l.map iQ):=by subst x;refine V6 (V8 (n:=3) J J) (V7 _) (by rw[As (n:=3) J J];decide) ?_;intro u v o p d f e Q s2;have B:=ef o.ne p.ne;rw[<-e,As (n:=3) J J]at B;have C:sz u=1+1:=G;have H:sz v=2+1:=G;have K:=Au o C;have L:=Au p H;have P:nu u 2=0:=wF G;have s:=yt d f e 0;have t:=yt d f e 1;have w:=yt d f e 2;simp[sm,K,L,P]at s t w;exact h (nu u 0) (nu v 1) (nu v 0) s t w
def afC{l}{m o p s}(T:l=[m,o,p,s,1])(h:∀a b f d:Y,m=a*d->o=a*f+d->p=a*b+f->s=a+b->False)(W:∀a b f d:Y,m=b*d->o=b*f+a*d->p=b+a*f+d->s=a+f->False):bu (lx<|l.map iQ):=by
 subst T;refine V6 (V8 (n:=4) J J) (V7 _) (by rw[As (n:=4) J J];decide) ?_;intro u v t w g i e r s2;have X:=ef t.ne w.ne;rw[<-e,As (n:=4) J J]at X;have k:=yt g i e 0;have x:=yt g i e 1;have B:=yt g i e 2;have C:=yt g i e 3;by_cases H:sz u=1+1
 .have K:sz v=3+1:=by omega
  have j:=Au t H;have L:=Au w K;have P:nu u 2=0:=wF G;have Q:nu u 3=0:=wF G;simp[sm,j,L,P,Q]at k x B C;exact h (nu u 0) (nu v 2) (nu v 1) (nu v 0) k x B C
 .have H:sz u=2+1:=by omega
  have K:sz v=2+1:=G;have P:=Au t H;have q:=Au w K;have Q:nu u 3=0:=wF G;have L:nu v 3=0:=wF G;simp[sm,P,q,Q,L]at k x B C;exact W (nu u 1) (nu u 0) (nu v 1) (nu v 0) k G G G
def afD{a k}(h:a*a=k)(d:k<36):∃n:V,n<=5/\(n:Y)*n=k:=by
 refine⟨aA a,?_,by rw[arb a];exact h⟩;refine fc λf=>?_
 have b:6<=aA a:=G;have:=l0 b b;have g:((aA a*aA a:V):Y)=k:=by rw[fC,arb a];exact h
 omega
def arc:bu (lx<|([-2,0,1]:E Y).map iQ):=V9 J λa b d f=>by have g:=At d D;have:a= -2\/a= -1\/a=0\/a=1\/a=2:=G;rcases this with rfl|rfl|rfl|rfl|rfl<;>omega
def ard:bu (lx<|([1,0,1]:E Y).map iQ):=V9 J λa b d f=>by have g:=At d D;have:a= -1\/a=0\/a=1:=G;rcases this with rfl|rfl|rfl<;>omega
def are:bu (lx<|([-2,0,0,1]:E Y).map iQ):=afB J λa b c d f g=>by have h:=At d D;have:a= -2\/a= -1\/a=0\/a=1\/a=2:=G;rcases this with rfl|rfl|rfl|rfl|rfl<;>omega
def arf:bu (lx<|([1,1,1]:E Y).map iQ):=V9 J λa b d f=>by have g:=At d D;have:a= -1\/a=0\/a=1:=G;rcases this with rfl|rfl|rfl<;>omega
def arh:bu (lx<|([-1,-1,0,1]:E Y).map iQ):=afB J λa b c d f g=>by have h:=At d D;have:a= -1\/a=0\/a=1:=G;rcases this with rfl|rfl|rfl<;>omega
def afE{a b f d m}(g:1=b*d)(h:m=b+a*f+d)(o:0=a+f)(p:m=0\/m= -10):False:=by
 have s:=At g D;have e:f= -a:=G;subst e;rw[Int.mul_neg]at h;have:b= -1\/b=0\/b=1:=G;rcases this with rfl|rfl|rfl
 .have:d= -1:=by omega
  subst this;obtain⟨n,i,l⟩:=afD (a:=a) (k:= -2-m) G G;have:n=0\/n=1\/n=2\/n=3\/n=4\/n=5:=G;rcases this with rfl|rfl|rfl|rfl|rfl|rfl<;>omega
 .omega
 .have:d=1:=by omega
  subst this;obtain⟨n,i,l⟩:=afD (a:=a) (k:=2-m) G G;have:n=0\/n=1\/n=2\/n=3\/n=4\/n=5:=G;rcases this with rfl|rfl|rfl|rfl|rfl|rfl<;>omega
def ari:bu (lx<|([1,0,0,0,1]:E Y).map iQ):=afC J (λa b c d f i g h=>by have k:=At f D;have:a= -1\/a=0\/a=1:=G;rcases this with rfl|rfl|rfl<;>omega) λa b c d f i g h=>afE f g h<|.inl J
def arj:bu (lx<|([1,0,-10,0,1]:E Y).map iQ):=afC J (λa b c d f i g h=>by have k:=At f D;have:a= -1\/a=0\/a=1:=G;rcases this with rfl|rfl|rfl<;>omega) λa b c d f i g h=>afE f g h<|.inr J
def ark:bu (lx<|([-3,1]:E Y).map iQ):=aqH<|As (n:=1) J J
def arl{a:Type}{l}{i}(d:a)(h:i<Z l):I l i d∈l:=by rw[aN,cO h];exact tR h
def arn(l:E (Y×Y×Y))(a:V)(f:a<=1000)(m:∀x∈l,mR x):ao c 13 [S RW l,O a] (S .q<|Aq l a):=by
 refine aL Tryz.func13<|vL 0 J λg=>?_;have g:Z l*3<=140737488355328:=g;refine e J<|R<|gP .q [] J J (z J<|j<|e J ?_);refine az<|bq (α:=V) (λi=>⟨[(0,S RW l),(1,O a),(5,.c<|.X 1000000),(6,O i)],[(1000000,.vec 44 .q<|(M i l).map oG)],3,[]⟩) (λi=>i<=Z l/\i<=a+1) (λi=>Z l-i) 0 ⟨bf _,bf _⟩ aV ?_;rintro i ⟨p,n⟩;refine j<|R<|rg 12 J J (λh=>?_)<|λh=>?_
 .have h:i<Z l:=by have h:(i:Y)<(Z l:Y):=aW h;omega
  refine z J<|F J (λh2=>?_)<|λh2=>?_
  .have h2:i<=a:=by have h2:(i:Y)<=a:=aW h2;omega
   have b:=Pm oG (0,0,0) l i h;have o:=m (I l i (0,0,0))<|arl _ h;have k:=aeS (I l i (0,0,0)) o;rw[show I l i (0,0,0)=I l (af (i:Y)) RW.dG by rw[cr]]at k b;refine aE<|j<|az<|cK<|rc J J k (rl .q [oG (I l (af (i:Y)) RW.dG)] J J (ra J J J J J J J J J ?_ ?_<|z J<|bL<|rt J<|a4 (i+1) ⟨G,G⟩ yn<|Wk.trans (wk (st':=⟨[(0,S RW l),(1,O a),(5,.c<|.X 4007000),(6,O ((i+1:V):Y))],[(4007000,.vec 44 .q<|(M (i+1) l).map oG)],6,[]⟩) ⟨sR J,sR J,sR J,sE J ?_,A⟩ ⟨bE J ?_,A⟩)<|Wk.trans (gW 1000000 4007000 J J J) aV)) (hp:=?_)
   .show(_+1+(_+1)/4+192)*64<=_;simp only[cT,gL];omega
   .show(_+1)*4<=_;simp only[cT,gL];omega
   .rfl
   .rw[b]
   .simp only[Pr.an,Pr.h,num,fX,true_and,and_true];first|done|omega
  .have h2:¬i<=a:=by have h2:¬(i:Y)<=a:=bc h2;omega
   have d:=CT ((M i l).map oG) F6;rw[show fI ((M i l).map oG)=Aq l a by rw[Aq,(G:i=a+1)]]at d;exact bt<|aK<|da 1000000 J J J<|bH J J d J<|c7 J
 .have h:i=Z l:=by have h:¬(i:Y)<(Z l:Y):=bc h;omega
  have d:=CT ((M i l).map oG) F6;rw[show fI ((M i l).map oG)=Aq l a by rw[Aq,iY G,iY G]]at d;refine z J<|F J (λh2=>qJ)<|λ_=>?_;exact bt<|aK<|da 1000000 J J J<|bH J J d J<|c7 J
def afF{x}(h:mR x):mR (ym x):=⟨h.1,h.2.1,hY 0,(by decide:(0:Y)<=255)⟩
def aro(l:E (Y×Y×Y))(a:V)(d:a<=1000)(g:∀x∈l,mR x):ao c 28 [S RW l,O a] (S .q<|wK l a):=by
 refine aL Tryz.func28<|vL 0 J λf=>?_;have f:Z l*3<=140737488355328:=f;refine e J<|R<|gP RW [] J J (z J<|j<|e J ?_);refine az<|bq (α:=V) (λi=>⟨[(0,S RW l),(1,O a),(5,.c<|.X 1000000),(6,O i)],[(1000000,.vec 57 RW<|(M i l).map ym)],3,[]⟩) (λi=>i<=Z l) (λi=>Z l-i) 0 (bf _) aV ?_;intro i o;refine j<|e J<|F J (λh=>?_)<|λh=>?_
 .have h:i<Z l:=by have h:(i:Y)<(Z l:Y):=aW h;omega
  have b:=Pm ym (0,0,0) l i h;rw[show I l i (0,0,0)=I l (af (i:Y)) RW.dG by rw[cr]]at b;refine aE<|j<|az<|cK<|rl RW [ym (I l (af (i:Y)) RW.dG)] J J (ra J J J J J J J J J ?_ ?_<|z J ?_) (hp:=aF)
  .show(_+1+(_+1)/4+192)*3<=_;simp only[cT,gL];omega
  .show(_+1)*3<=_;simp only[cT,gL];omega
  .refine bL (rt J (hp:=aF)<|a4 (i+1) h yn<|Wk.trans (wk (st':=⟨[(0,S RW l),(1,O a),(5,.c<|.X 4013000),(6,O ((i+1:V):Y))],[(4013000,.vec 57 RW<|(M (i+1) l).map ym)],6,[]⟩) ⟨sR J,sR J,sR J,sE J ?_,A⟩ ⟨bE J ?_,A⟩)<|Wk.trans (gW 1000000 4013000 J J J) aV)
   .rfl
   .rw[b]
 .have h:i=Z l:=by have h:¬(i:Y)<(Z l:Y):=bc h;omega
  subst h;rw[gQ];have k:=arn (l.map ym) a d (λx m=>by obtain⟨y,n,rfl⟩:=kF.1 m;exact afF<|g y n);exact bt<|aK<|da 1000000 J J J<|bH J J k J<|c7 J
def arp{a}(n:bU a)(k:a≠[]){f B}(u:0<f)(l:∀i,∃b:Y,aA b<=B/\((f:V):N)*I a i 0=(b:N)):∃m,m<=B/\CD m B (lx<|eO a):=by
 have g:((f:V):N)≠0:=x7 G;let ⟨w,o,d⟩:=l<|Z a-1;have p:=n.ne k;have s:w≠0:=λe=>by
  rw[e]at d;rcases zX.1 d with e|e
  .exact g e
  .exact p e
 refine⟨aA w,o,⟨G,λi=>?_⟩⟩;let ⟨b,t,h2⟩:=l i;rw[Al k,dZ,fj];rcases Int.lt_or_gt_of_ne s with h|h
 .refine⟨-b,G,?_⟩;have e:((aA w:V):N)= -(w:N):=by rw[<-r6,(G:((aA w:V):Y)= -w),JP]
  rw[e,JP,<-h2,<-d];grind
 .refine⟨b,t,?_⟩;have e:((aA w:V):N)=(w:N):=by rw[<-r6,(G:((aA w:V):Y)=w)]
  rw[e,<-h2,<-d];grind
def arq{a}(g:bU a)(l:a≠[])(o:Z a<=9){D}(p:0<D)(f:D<=2^22)(n:∀i,∃d:Y,aA d<=2^22/\((D:V):N)*I a i 0=(d:N)):og a:=by
 have b:∀{m:V},m<=2^22->m<=2^1500:=λh=>b6 h<|Rx.Pb 1500 (k:=22) afG
 let ⟨c,c1,s⟩:=arp g l p n;refine⟨g,l,o,⟨(D:Y),G,b f,λi=>?_⟩,⟨c,22,22,s,c1,afG,G⟩⟩;let ⟨d,t,h2⟩:=n i;exact⟨d,b t,h2⟩
end Go.El
namespace Go.El
open Go Go.Proofs Fx
def V'{P:V->Prop}(h:∃n,P n):∃n,P n/\∀k,k<n->¬P k:=by
 let ⟨n,a⟩:=h;induction n using Nat.strongRecOn with
 |_ n b=>
  by_cases e:∃k,k<n/\P k
  .let ⟨k,d,h2⟩:=e;exact b k d h2
  .exact⟨n,a,λk f g=>e ⟨k,f,g⟩⟩
section
variable{p:V}
def ars(H:br p)(a B:Fx p) i:pk (a-B) (p^i)=pk a (p^i)-pk B (p^i):=
 FG (by rw[<-Oq H,lF])
def afH(H:br p){Q:Fx p}(a:bu Q){i m}(h:Q∣pk X (p^(i+m))-pk X (p^i)):Q∣pk X (p^m)-X:=by rw[ku,hJ,uS,<-ars H]at h;exact Pq H a _ h
def afI(H:br p)(i:V):∀a:E Y,ev (a.map<|K (p:=p)) (pk X<|p^i)=pk (fx<|a++[1]) (p^i)
 |[]=>by rw[tI,CB,Cs];rfl
 |b::a=>by rw[ln,Js,Oq H,UR H,uT,<-afI H i a];rfl
def art(H:br p){d}(l:Mon p d)(o:bu (fx d:Fx p)):(fx d:Fx p)∣pk X (p^(Z d-1))-X:=by
 have E:sz (fx d:Fx p)=Z d:=cX l.c;have F:2<=Z d:=by have:=o.1;omega
 have w:=H.hp.1;have ex:∃m,0<m/\(fx d:Fx p)∣pk X (p^m)-X:=by
  have f:=λi=>yo H l.c l.ne<|pk X<|p^i
  have s:∀i r,af (I (iq H d<|pk X<|p^i) r 0)<p:=λi r=>by have:=((f i).1.1 r);omega
  let ⟨i,j,J,_,x⟩:=Ol (p^(Z d-1)) (p^(Z d-1)+1) (λi=>code p (λr=>af<|I (iq H d<|pk X<|p^i) r 0)<|Z d-1) (dJ _) λi _=>Jq _ _ λr _=>s i r
  have B:=UL _ _ _ (λr _=>s i r) (λr _=>s j r) x;have e:iq H d (pk X<|p^i)=iq H d (pk X<|p^j):=by
   refine uX (p:=p) (f i).1 (f j).1<|mk_eq.2<|Cg.of λr=>?_;by_cases t:r<Z d-1
   .have M:=(f i).1.1 r;have N:=(f j).1.1 r;have O:=B r t;show I (iq H d<|pk X<|p^i) r 0%_=I (iq H d<|pk X<|p^j) r 0%_;have:I (iq H d<|pk X<|p^i) r 0=I (iq H d<|pk X<|p^j) r 0:=G;rw[this]
   .have R:=(f i).2.1;have S:=(f j).2.1;show I (iq H d<|pk X<|p^i) r 0%_=I (iq H d<|pk X<|p^j) r 0%_;rw[fh _ G,fh _ G]
  obtain⟨m,rfl⟩:∃m,j=i+m:=⟨j-i,G⟩;refine⟨m,G,afH H o (i:=i) ?_⟩;have u:=(f i).2.2;rw[e]at u;exact n5<|np (n5 u) (f<|i+m).2.2
 let ⟨m,⟨C,m1⟩,L⟩:=V' ex;have P:¬m+1<sz (fx d:Fx p):=λh=>ads H o C h m1
 obtain⟨g,rfl⟩:∃g,d=g++[1]:=⟨d.dropLast,by
  have e:=Wa l.ne;have Q:d.getLast l.ne=1:=by have:=l.one;rw[aN,cO G]at this;rw[List.getLast_eq_getElem];exact this
  rw[Q]at e;exact e.symm⟩
 have t:Z (g++[(1:Y)])=Z g+1:=ax;have T:m<=Z g:=by
  refine fc λU=>?_
  refine roots H o (g.map<|K (p:=p)) ((cw m).map λi=>pk X<|p^i) bX (λy W=>?_) ?_
  .obtain⟨i,_,rfl⟩:=kF.1 W;rw[afI H];obtain⟨k,z⟩:∃k,p^i=k+1:=⟨p^i-1,by have:=km (n:=i) (G:0<p);omega⟩;rw[z,pk];exact dvd_mul_left _ _
  .refine FQ.2<|Ot ?_ Ku;intro a b V v A D;have v:=pO.1 v;obtain⟨k,rfl⟩:∃k,b=a+k:=⟨b-a,G⟩;exact L k G ⟨G,afH H o<|n5 D⟩
 rw[t];have:m=Z g:=G;rwa[this]at m1
end
def MD.mul{d b}{f K}(h:MD d f)(k:MD b K):MD (d+b) (f*K):=by
 refine⟨?_,λi g=>?_⟩
 .rw[PS.fD,x8 (a:=d) G λi g l=>?_]
  .rw[(G:d+b-d=b),h.one,k.one];rfl
  .by_cases c:d<i
   .rw[h.z i c,nh]
   .rw[k.z _ G,gY]
 .rw[PS.fD,qF λj m=>?_];by_cases c:d<j
  .rw[h.z j c,nh]
  .rw[k.z _ G,gY]
section
variable{p:V}
def afJ(H:br p){f:E Y}:∀{l:E (E Y)},(∀a∈l,Co (fx f:Fx p) (fx a))->Co (fx f:Fx p) (fU l)
 |[],_=>⟨0,1,by rw[zero_mul,zero_add];exact one_mul 1⟩
 |a::l,h=>(h a ax).mul (afJ H λb d=>h b<|by simp[d])
end
structure Gd(p k:V)(f:E Y)(l X:E (E Y)):Prop where
 len:X.length=l.length
 ok:∀i,i<l.length->aH (X.getD i [])/\(X.getD i []).length=(l.getD i []).length/\(fx (X.getD i []):Fx p)=fx (l.getD i [])/\∀a,dB ((X.getD i []).getD a 0) ((p:Y)^k)=(X.getD i []).getD a 0
 pr:Cg ((p:Y)^k) (ps f) (pn X)
section
variable{p:V}
def afK(H:br p){a:Fx p}{d}(i:a≠0)(n:2<=sz a)(h:∀Q,bu Q->Q∣a->d+1<=sz Q)(s:sz a<=2*d):bu a:=by
 refine⟨n,λA B e=>?_⟩;have b:A≠0:=λf=>i (by rw[e,f,zero_mul])
 have g:B≠0:=λf=>i (by rw[e,f,mul_zero])
 have o:=ef H b g;have pA:=fo H.pos b;have t:=fo H.pos g;rw[<-e]at o;refine fc λk=>?_
 have u:sz A≠1:=λe=>k<|.inl e
 have v:sz B≠1:=λe=>k<|.inr e
 let ⟨Q,q1,l⟩:=s' H _ A (dJ _) G;let ⟨R,r1,m⟩:=s' H _ B (dJ _) G;have w:=h Q q1 (by rw[e];exact ma l B);have x:=h R r1 (by rw[e];exact dQ m A);have C:=jK H l b;have K:=jK H m g;omega
def afL(H:br p){Q}(d:bu Q):∃b,Mon p b/\bu (fx b:Fx p)/\(fx b:Fx p)∣Q/\Q∣fx b/\Z b=sz Q:=by
 obtain⟨a,f,rfl⟩:=jq H.pos Q;have l:a≠[]:=λe=>d.ne H (by rw[e,kz])
 let ⟨m1,i,m,⟨c,n⟩,k⟩:=Ow H f l;refine⟨lD p a,m1,⟨?_,λA B e=>?_⟩,m,⟨K c,n⟩,by rw[i,cX f]⟩
 .have:=d.1;rw[cX f]at this;rw[cX m1.c,i];exact this
 .rw[e,<-mul_assoc]at k;rcases d.2 _ _ k with h|h
  .let ⟨o,g⟩:=wy H h;exact .inl (x4 H (B:=o*K (I a (Z a-1) 0))<|by rw[mul_assoc];exact g)
  .exact .inr h
structure C0(p:V)(f:E Y)(d:V):Prop where
 aH:Mon p f
 lG:qR (fx f:Fx p)
 low:∀Q,bu Q->Q∣(fx f:Fx p)->d+1<=sz Q
structure se(p:V)(f:E Y)(d:V):Prop where
 aH:Mon p f
 lG:qR (fx f:Fx p)
 PC:∀Q,bu Q->Q∣(fx f:Fx p)->sz Q=d+1
def C0.gH(H:br p){f}{d}(h:C0 p f d)(a:2<=Z f)(b:Z f<=2*d):bu (fx f:Fx p):=
 afK H (h.aH.kA H) (by rw[cX h.aH.c];exact a) h.low (by rw[cX h.aH.c];exact b)
def se.gH(H:br p){f}{d}(h:se p f d)(a:2<=Z f)(i:Z f<=d+1)(k:1<=d):bu (fx f:Fx p):=
 afK H (d:=d) (h.aH.kA H) (by rw[cX h.aH.c];exact a) (λQ b g=>by rw[h.PC Q b g];exact aT _) (by rw[cX h.aH.c];omega)
def se.ex(H:br p){f}{d}(h:se p f d)(g:2<=Z f):∃a,Mon p a/\bu (fx a:Fx p)/\(fx a:Fx p)∣fx f/\Z a=d+1:=by let ⟨Q,q1,b⟩:=s' H _ (fx f:Fx p) (dJ _) (by rw[cX h.aH.c];exact g);let ⟨a,r1,i,k,m,l⟩:=afL H q1;exact⟨a,r1,i,dvd_trans k b,by rw[l,h.PC Q q1 b]⟩
def aru(H:br p){f g}(b:Mon p f)(a:Mon p g):(aO f g p).1.length=Z f-(Z g-1):=by let ⟨_,_,_,_,_,h⟩:=l6 H.hp H.le b.c.1 a.c a.ne;exact h
def tm(H:br p){f g}(b:Mon p f)(a:Mon p g)(d:(fx g:Fx p)∣fx f):Mon p (aO f g p).1/\(fx f:Fx p)=fx (aO f g p).1*fx g/\(aO f g p).1.length+Z g=Z f+1/\Z g<=Z f:=by
 have h:Z g<=Z f:=by have:=jK H d<|b.kA H;rwa[cX a.c,cX b.c]at this
 have i:=a.pos;have:=aru H b a;exact⟨UU H b a h,CG H b.c a.c a.ne d,G,h⟩
def se.parts(H:br p){f g}{d}(h:se p f d)(l:Mon p g)(b:(fx g:Fx p)∣fx f):se p g d/\se p (aO f g p).1 d:=by let ⟨q1,q2,m,n⟩:=tm H h.aH l b;have a:(fx (aO f g p).1:Fx p)∣fx f:=Ps;exact⟨⟨l,h.lG.of_dvd b,λQ i k=>h.PC Q i<|dvd_trans k b⟩,⟨q1,h.lG.of_dvd a,λQ i k=>h.PC Q i<|dvd_trans k a⟩⟩
def vf.app{f g}{l m}{a}(b:vf p g l)(d:vf p f m)(h:(fx a:Fx p)=fx f*fx g):vf p a (l++m):=
 ⟨λx i=>(be.1 i).elim (b.parts x)<|d.parts x,by rw[JV,b.prod,d.prod,h,mul_comm]⟩
def C0.step(H:br p){f h s}{d}(a:C0 p f d)(W:1<=d)(L:bx p s)(u:(fx f:Fx p)∣fx h-pk X (p^d))(v:(fx s:Fx p)=fx h-X):se p (gk p f s) d/\C0 p (aO f (gk p f s) p).1 (d+1)/\(fx (gk p f s):Fx p)∣fx f:=by
 let ⟨m1,k,C,U,V,K⟩:=Aa H a.aH.c L a.aH.ne;let ⟨q1,q2,j,r⟩:=tm H a.aH m1 k;generalize gk p f s=g at*;generalize (aO f g p).1=P at*;have b:(fx P:Fx p)∣fx f:=Ps;refine⟨⟨m1,a.lG.of_dvd k,λQ l i=>?_⟩,⟨q1,a.lG.of_dvd b,λQ l i=>?_⟩,k⟩
 .have T:=a.low Q l<|dvd_trans i k;have n:Q∣fx h-X:=by rw[<-v];exact dvd_trans i C
  have o:Q∣pk X (p^d)-X:=np (n5<|dvd_trans (dvd_trans i k) u) n;have w:¬d+1<sz Q:=λt=>ads H l G t o
  omega
 .have T:=a.low Q l<|dvd_trans i b;refine fc λy=>?_
  let ⟨q,r1,x,B,z,A⟩:=afL H l;have m:(fx q:Fx p)∣fx f:=dvd_trans B<|dvd_trans i b;have n:=art H r1 x;rw[(G:Z q-1=d)]at n;have o:(fx q:Fx p)∣fx s:=by rw[v];exact np (dvd_trans m u) n
  have w:(fx q:Fx p)∣fx g:=by rw[K];exact dvd_add (dQ m U)<|dQ o V
  exact a.lG _ x (by rw[q2];exact x5 (dvd_trans B i) w)
structure sf(p:V)(f a:E Y):Prop where
 aH:Mon p a
 lG:qR (fx a:Fx p)
 iff:∀Q,bu Q->(Q∣(fx f:Fx p)↔Q∣fx a)
 len:a.length<=f.length
def sf.one(H:br p){f}(a:Mon p f)(h:Z f<=1):sf p f f:=
 ⟨a,λQ b d=>by have g:=jK H d<|a.kA H;have i:=ef H (b.ne H)<|b.ne H;have k:=b.1;rw[cX a.c]at g;omega,λQ _=>Iff.rfl,aT _⟩
def sf.root(H:br p){f a}(d:Mon p f)(g:2<=Z f)(i:bA (fx f:Fx p)=0)(h:sf p (mP p f<|jF p<|Z f) a):sf p f a:=by
 let ⟨n,k,o,s⟩:=ae3 H d g i;refine⟨h.aH,h.lG,λQ b=>?_,by have:=h.len;omega⟩;rw[<-h.iff Q b,k];refine⟨Pq H b p,λl=>?_⟩;obtain⟨q,m⟩:∃q,p=q+1:=⟨p-1,CC⟩;have e:pk (fx (mP p f<|jF p<|Z f):Fx p) p=pk (fx<|mP p f<|jF p<|Z f) (q+1):=by rw[<-m]
 rw[e];exact dQ l _
def Wb(H:br p){a b}(d:Mon p a)(f:Mon p b):Mon p (cL a b p)/\Z (cL a b p)+1=Z a+Z b:=by have h:=(nk H.pos a b);have m:=wG (p:=p) a b;have g:=ef H (d.kA H)<|f.kA H;rw[<-m,cX h,cX d.c,cX f.c]at g;have o:=d.pos;have s:=f.pos;refine⟨⟨h,λe=>by rw[e]at g;simp at g;omega,?_⟩,g⟩;have i:=(show aH a from⟨d.ne,d.one⟩).uZ.mul (show aH b from⟨f.ne,f.one⟩).uZ;have k:=(Fz a b (p:Y)).at (Z a-1+(Z b-1));rw[i.one,H.one,cG]at k;have n:Z (cL a b p)-1=Z a-1+(Z b-1):=G;rw[n];have l:=h.1<|Z a-1+(Z b-1);rwa[gX l.1 l.2]at k
def sf.step(H:br p){f i g rest u}(l:Mon p f)(h2:2<=Z f)(m:bx p i)(hD:(fx i:Fx p)=bA (fx f))(x:i≠[])(eg:g=gk p f i)(h:sf p g rest)(ec:u=gk p (aO f g p).1 rest):Z g<Z f/\sf p f (cL (aO f g p).1 (aO rest u p).1 p):=by
 let ⟨m1,X,j,U,V,q⟩:=Aa H l.c m l.ne;rw[<-eg]at m1 X j q;have F:Z g<=Z f-1:=by
  have B:(fx i:Fx p)≠0:=λe=>by rw[<-kz]at e;exact x<|uX m (rU H.pos) e
  have I:=jK H j B;have C:=N8 H (fx f:Fx p);rw[<-hD,cX l.c]at C;rw[cX m1.c]at I;omega
 let ⟨q1,r,N,O⟩:=tm H l m1 X;have K:qR (fx (aO f g p).1:Fx p):=adt H (l.kA H) r (by rw[<-hD];exact q);generalize (aO f g p).1=part at*;let ⟨L,y,z,S,T,A⟩:=Aa H q1.c h.aH.c q1.ne;rw[<-ec]at L y z A;let ⟨r1,n,R,Y⟩:=tm H h.aH L z;generalize (aO rest u p).1=b at*;have e:(fx (cL part b p):Fx p)=fx part*fx b:=wG part b;let ⟨t1,t2⟩:=Wb H q1 r1;have pc:=L.pos;refine⟨G,⟨t1,λQ a P=>?_,λQ a=>?_,by have:=h.len;omega⟩⟩
 .rw[e]at P;have W:Q∣fx part->Q∣fx b->False:=λd o=>by
   have s:Q∣fx rest:=by rw[n];exact ma o _
   have J:Q∣fx u:=by rw[A];exact dvd_add (dQ d S)<|dQ s T
   exact h.lG Q a (by rw[n];exact x5 o J)
  by_cases k:Q∣fx part
  .let ⟨w,hw⟩:=k;let ⟨v,hv⟩:=P;have M:w*fx b=v*Q:=by refine zY H (a.ne H) (?_:w*fx b*Q=v*Q*Q);rw[hw]at hv;rw[mul_assoc v,<-hv];ac_rfl
   rcases a.oE H ⟨v,M⟩with d|d
   .exact K Q a (by rw[hw];exact x5 d<|dvd_refl Q)
   .exact W ⟨w,hw⟩ d
  .have t:Co Q (fx part):=(a.or H<|fx part).resolve_left k;have d:Q*Q∣fx b:=by have C:Co (fx part) (Q*Q):=t.symm.mul t.symm;exact C.symm.dvd (by exact P)
   exact h.lG Q a (by rw[n];exact ma d _)
 .rw[e,r];have E:=h.iff Q a;refine⟨λk=>?_,λk=>?_⟩
  .rcases a.oE H k with k|k
   .exact ma k _
   .have o:=E.1 k;rw[n]at o;rcases a.oE H o with s|s
    .exact dQ s _
    .exact ma (dvd_trans s y) _
  .rcases a.oE H k with k|k
   .exact ma k _
   .exact dQ (E.2<|by rw[n];exact ma k _) _
def afM(H:br p){Q:Fx p}(a:bu Q):∀{l:E (E Y)},Q∣iu p l->∃g∈l,Q∣fx g
 |[],h=>absurd h<|a.Cu H
 |g::l,h=>by
  rcases a.oE H (show Q∣fx g*iu p l from h)with k|k
  .exact⟨g,ax,k⟩
  .let ⟨x,h1,h2⟩:=afM H a k;exact⟨x,z4,h2⟩
def afN(H:br p){f i}{l}(h:sf p f i)(b:vf p i l):CV p f l:=by
 refine⟨λg d=>?_,?_⟩
 .let ⟨s,g2,n⟩:=b.parts g d;exact⟨s,g2,n,(h.iff _ n).2<|by rw[<-b.prod];exact Po p d⟩
 .have m:∀l:E (E Y),(∀g∈l,bu (fx g:Fx p))->iu p l∣fx i->l.Pairwise λx y=>x≠y:=by
   intro l;induction l with
   |nil=>intro _ _;exact F7
   |cons g l t=>
    intro o a
    refine jP.2 ⟨λk u e=>?_,t (λx hx=>o x lj) (dvd_trans (dvd_mul_left _ _) a)⟩
    subst e
    exact h.lG _ (o g ax)<|dvd_trans (x5 (dvd_refl _)<|Po p u) a
  exact m _ (λg d=>(b.parts g d).2.2) (by rw[b.prod];exact dvd_refl _)
def afO:∀(a:E (E Y))(f:E Y)(m:V)(l:E (E Y×Y)),(∀x∈l,x∈(gV p m a (f,l)).2)/\∀g∈a,∃n,(g,n)∈(gV p m a (f,l)).2
 |[],f,m,l=>⟨λx hx=>hx,λg d=>by cases d⟩
 |g::a,f,m,l=>by
  let ⟨b,h2⟩:=afO a (pull p g (Z f+1) f 0).1 m<|l++[(g,(((pull p g (Z f+1) f 0).2:V):Y)*(m:Y))];rw[gV];refine⟨λx hx=>b x lj,λx hx=>?_⟩;rcases bZ.1 hx with rfl|hx
  .exact⟨_,b _<|gI _<|iw.2 J⟩
  .exact h2 x hx
def arv(H:br p){f s}{l}(L:Mon p f)(h:sf p f s)(d:vf p s l):CW p (fx f) (gV p 1 l (f,[])).2:=by
 obtain⟨a,r,y⟩:=VV H l f [] (vg.start L) (afN H h d);have b:∀Q,bu Q->Q∣fx (gV p 1 l (f,[])).1->False:=λQ i b=>by
  have C:Q∣fx f:=by rw[a.prod,rW];exact ma b _
  have t:=(h.iff Q i).1 C;rw[<-d.prod]at t;obtain⟨g,u,K⟩:=afM H i t;obtain⟨n,x⟩:=(afO l f 1 []).2 g u;have P:=a.nd _ x;have k:=(d.parts g u).2.2;obtain⟨w,B⟩:=K;rcases k.2 _ _ B with e|e
  .obtain⟨v,T⟩:=wy H e;refine P<|dvd_trans ⟨v,?_⟩ b;show Q=v*fx g;rw[B,<-mul_assoc,T,one_mul]
  .have:=i.1;omega
 have W:=a.aH.pos;have X:(fx (gV p 1 l (f,[])).1:Fx p)=1:=by
  have m:(gV p 1 l (f,[])).1.length<=1:=by
   refine fc λx=>?_
   obtain⟨Q,q1,j⟩:=s' H _ (fx (gV p 1 l (f,[])).1:Fx p) (dJ _) (by rw[cX a.aH.c];omega);exact b Q q1 j
  rw[<-CB];congr 1;have o:=a.aH.one;generalize (gV p 1 l (f,[])).1=q at*;match q,m,W,o with
  |[c],_,_,o=>rw[show c=1 from o]
 refine⟨a.gH,a.ds,?_⟩;have:=a.prod;rw[X,rW,one_mul]at this;exact this.symm
end
end Go.El
